/- Which of any numbers are fresh: the walk. -/
import Derived.Test.YtnelcmblcalknaaTwPl
import Derived.Test.YtnelcmblcalknaaOpenB
namespace Go.Proofs.Ytnelcmblcalknaa.TwPlayW
open Go.RowKit Go.Proofs.YtnelcmblcalknaaW.PrintWords Go.Proofs.YtnelcmblcalknaaW.PrintLast Go.Proofs.YtnelcmblcalknaaW.PrintMore Go.Proofs.Ytnelcmblcalknaa.K Go.Proofs.Ytnelcmblcalknaa.TwP Go.Proofs.Ytnelcmblcalknaa.TwA Go.Proofs.Ytnelcmblcalknaa.TwB Go.Proofs.Ytnelcmblcalknaa.TwQ Go.Proofs.Ytnelcmblcalknaa.TwC Go.Proofs.Ytnelcmblcalknaa.TwR Go.Proofs.Ytnelcmblcalknaa.TwPl Go.Proofs.Ytnelcmblcalknaa.OpenB
set_option linter.unusedVariables false
set_option linter.unusedSimpArgs false
attribute [local go_sem] max2_int min2_int max_two min_two

theorem ob_ne {w : World} {g g' : Nat} {t t' : TypeId} {l l' : List Value} (h : Ob w g t l) (h' : Ob w g' t' l') (ht : t ≠ t') : ¬ g = g' := blk_ne h h' ht
/-- A table's call leaves the reference. -/
theorem isr_fr {w w' : World} {B g c gr : Nat} {v : Value} {T : Tb} {r : Rf} (h : IsR B w gr v r) (ht : Is w g c T) (f : Fr (fun k => k = g ∨ k = c) w w') : IsR B w' gr v r :=
  ⟨h.tab.fr f (fun e => e.elim (ob_ne h.tab ht.tab (by decide)) (ob_ne h.tab ht.row (by decide))), Own.fr h.row f (fun k hk e => e.elim (fun e => h.row.ne ht.tab (by decide) k hk e) (fun e => h.row.ne ht.row (by decide) k hk e))⟩
/-- The reference's call leaves a table. -/
theorem is_frr {w w' : World} {B g c gr : Nat} {v : Value} {T : Tb} {r : Rf} (h : Is w g c T) (hr : IsR B w gr v r) (f : Fr (fun k => k = gr ∨ some k = v.ownBlock) w w') : Is w' g c T :=
  h.fr f (fun e => e.elim (ob_ne h.tab hr.tab (by decide)) (fun e => hr.row.ne h.tab (by decide) g e rfl)) (fun e => e.elim (ob_ne h.row hr.tab (by decide)) (fun e => hr.row.ne h.row (by decide) c e rfl))
theorem isr_below {w w' : World} {B gr : Nat} {v : Value} {r : Rf} (h : IsR B w gr v r) (hb : Below w.heap.size w w') : IsR B w' gr v r := ⟨h.tab.below hb, h.row.below hb⟩
/-- The reference's call leaves what was there before. -/
theorem below_frr {w0 w w' : World} {gr : Nat} {v : Value} {r : Rf} (hb : Below w0.heap.size w0 w) (hg : w0.heap.size ≤ gr) (hr : IsR w0.heap.size w gr v r) (f : Fr (fun k => k = gr ∨ some k = v.ownBlock) w w') : Below w0.heap.size w0 w' := by
  refine Fr.above hb hb.size f (fun i hi e => ?_)
  rcases e with e | e
  · omega
  · rcases Kd.R_base2 hr.row.out with h | ⟨k, hk, hl⟩
    · rw [h] at e; cases e
    · rw [hk] at e
      cases e
      omega
theorem wf_u32 {x : Int} (h : (Lit.int .u32 x).wf = true) : 0 ≤ x ∧ x < 4294967296 := by
  have h1 : IntKind.u32.min = 0 := by decide
  have h2 : IntKind.u32.max = 4294967295 := by decide
  simp [Lit.wf, h1, h2] at h
  omega
theorem rbounds {T : Tb} {r : Rf} {k : Nat} (h : Play T r k) : 1 ≤ r.size ∧ r.size ≤ 4096 := by
  have h1 := h.ok.at_lt
  have h2 := h.ok.len
  rw [h.size]
  omega

set_option maxHeartbeats 8000000 in
set_option maxRecDepth 100000 in
theorem play_in (size : Int) (Ad Ac : Option Addr) (n cp nc cc : Nat) (l : List Int) (zc : List Bool) (w : World) (hr : Rds (Kd.int .u32) w Ad n cp l) (hc : IsBools w Ac nc cc zc) (hn : n ≤ 200) (hnc : n ≤ nc) (hncm : nc ≤ 9223372036854775807) (hl : ∀ x ∈ l, 0 ≤ x ∧ x < 4294967296) :
    Calls Try.prog 7 #[.int .i64 size, .slice Ad n cp, .slice Ac nc cc] w fun e w' => e = .returned (.bool true) ∧ Below w.heap.size w w' := by
  have B0 := Aside0.mk (Below.refl w.heap.size w)
  have HR := Aside0.mk hr
  have HC := Aside0.mk hc
  have hln := hr.len
  have HL := Aside0.mk hln
  have HW := Aside0.mk hl
  clear hr hc hln hl
  go_enter Try.func7, Try.ntmps7
  go_wp2_with (first
      | (go_at_call 8; (with_reducible refine (alive_ok _).mono ?_); rintro e w1 ⟨rfl, hb1⟩; have B1 := Aside0.mk (below_step B0.out hb1); clear hb1)
      | (go_at_call 9; (with_reducible refine (new_ok size _).mono ?_); rintro e w2 ⟨g, c, rfl, hg, hc, h, hb⟩; have B2 := Aside0.mk (below_step B1.out hb); have G_a := Aside0.mk (And.intro (Nat.le_trans B1.out.size hg) (Nat.le_trans B1.out.size hc)); have I_a2 := Aside0.mk h; clear hg hc h hb)
      | (go_at_call 9; (with_reducible refine (new_ok 4 _).mono ?_); rintro e w3 ⟨g2, c2, rfl, hg, hc, h, hb⟩; have B3 := Aside0.mk (below_step B2.out hb); have G_o := Aside0.mk (And.intro (Nat.le_trans B2.out.size hg) (Nat.le_trans B2.out.size hc)); have I_o3 := Aside0.mk h; have I_a3 := Aside0.mk (I_a2.out.below hb); have D_a_o := Aside0.mk (apart_of I_a2.out.lt hg hc); have D_o_a := Aside0.mk (apart_sym D_a_o.out); clear hg hc h hb)
      | (go_at_call 11; (with_reducible refine (newr_ok size w.heap.size _).mono ?_); rintro e w4 ⟨gr, rfl, hg, h, hb⟩; have B4 := Aside0.mk (below_step B3.out hb); have G_r := Aside0.mk (Nat.le_trans B3.out.size hg); have R4 := Aside0.mk h; have I_a4 := Aside0.mk (I_a3.out.below hb); have I_o4 := Aside0.mk (I_o3.out.below hb); clear hg h hb))
  clear I_a2 B2 I_a3 I_o3 B3
  go_loopg [6, 11] (n + 1) (fun kq v6 v11 w' => ∃ (k : Nat) (T0 : Tb) (r0 : Rf) (v0 : Value) (O1 : Tb), v11 = .int .i64 k ∧ k ≤ n ∧ kq = n + 1 - k ∧ Aside0 (Play T0 r0 k) ∧ Aside0 (Ok O1) ∧ Aside0 (Is w' g c T0) ∧ Aside0 (IsR w.heap.size w' gr v0 r0) ∧ Aside0 (Is w' g2 c2 O1) ∧ Aside0 (Below w.heap.size w w'))
  case atStart => exact ⟨0, _, _, _, _, by simp, by omega, by omega, ⟨Play.start size⟩, ⟨Ok.new 4⟩, I_a4, R4, I_o4, B4⟩
  case round =>
    clear I_a4 R4 I_o4 B4
    obtain ⟨k, T0, r0, v0, O1, rfl, hk, hm, PL0, OO, I_a5, R5, I_o5, B5⟩ := hrel
    by_cases hlt : k < n
    · obtain ⟨ad, hA, hx0⟩ := (HR.out.below B5.out).int (k : Int) (by omega) (by omega)
      subst hA
      clear hx0
      obtain ⟨adc, hAc, hc0⟩ := (HC.out.below B5.out).at_ k (by omega)
      subst hAc
      clear hc0
      obtain ⟨x, hz⟩ : ∃ x, x = rd l k := ⟨_, rfl⟩
      have hx : 0 ≤ x ∧ x < 4294967296 := by rw [hz]; exact HW.out _ (rd_mem l k (by have := HL.out; omega))
      have HX := Aside0.mk hx
      have FX : Aside0 (∀ w'', Below w.heap.size w w'' → w''.cell? (ad.add k) = some (.int .u32 x)) := ⟨fun w'' hb => by
        have := HR.out.cell_int hb k hlt
        rwa [← hz] at this⟩
      clear hz
      obtain ⟨y, hyy⟩ : ∃ y, y = (k : Int) := ⟨_, rfl⟩
      have hy : 0 ≤ y ∧ y < 4294967296 := by omega
      have ey : IntKind.u32.wrap (k : Int) = y := by rw [u32_w, hyy]; omega
      clear hyy
      obtain ⟨O2, hO2⟩ : ∃ O2, O2 = freshT O1 y := ⟨_, rfl⟩
      have OO2 : Aside0 (Ok O2) := ⟨by rw [hO2]; exact OO.out.fresh y hy.1 hy.2⟩
      obtain ⟨cl, hcl⟩ : ∃ b, zc.getD k false = b := ⟨_, rfl⟩
      cases cl
      · skip
        obtain ⟨T, hT⟩ : ∃ T, T = T0 := ⟨_, rfl⟩
        obtain ⟨r, hr⟩ : ∃ r, r = r0 := ⟨_, rfl⟩
        have PL : Aside0 (Play T r k) := ⟨by rw [hT, hr]; exact PL0.out⟩
        have RB := Aside0.mk (rbounds PL.out)
        have hpf := PL.out.fresh x HX.out.1 HX.out.2
        have EV := Aside0.mk hpf.1
        have PL2 := Aside0.mk hpf.2
        clear hpf
        go_wp2_with (first
      | (go_at_call 10; (with_reducible refine (fresh_ok g2 c2 O1 OO.out y hy.1 hy.2 _ I_o5.out).mono ?_); rintro e w6 ⟨rfl, h6, f6⟩; have B6 := Aside0.mk (Fr.above B5.out B5.out.size f6 (fun i hi he => by have := G_o.out; omega)); have I_o6 := Aside0.mk h6; have I_a6 := Aside0.mk (I_a5.out.fr f6 D_a_o.out.1 D_a_o.out.2); have R6 := Aside0.mk (isr_fr R5.out I_o5.out f6); clear h6 f6 I_o5 I_a5 R5 B5; obtain ⟨adc, hAc, x0⟩ := (HC.out.below B6.out).at_ k (by omega); cases hAc; rw [hcl] at x0))
        rw [← hT] at I_a6
        rw [← hr] at R6
        rw [← hO2] at I_o6
        clear hT hr hO2 hcl
        refine region_known 5 11 [?rc14_0, ?rc14_1, ?rc14_2, ?rc14_3, ?rc14_4, .bool (freshB T x), ?rc14_6, ?rc14_7, ?rc14_8, ?rc14_9, ?rc14_10, .bool (freshB T x), ?rc14_12] (fun b1 b2 w' => Is w' g c (cond b1 (freshT T x) T) ∧ (∃ v, IsR w.heap.size w' gr v (cond b2 (freshR r x) r)) ∧ Is w' g2 c2 O2 ∧ Below w.heap.size w w') (by kernel_rfl) (by kernel_rfl) (by kernel_rfl) (fun b1 b2 w1 w2 hb hj => ⟨hj.1.below hb, hj.2.1.elim (fun v hv => ⟨v, isr_below hv hb⟩), hj.2.2.1.below hb, below_step hj.2.2.2 hb⟩) (⟨I_a6.out, ⟨_, R6.out⟩, I_o6.out, B6.out⟩) ?rgo14 ?rgr14
        case rgo14 =>
          refine ⟨?_, ?_, ?_, ?_, ?_, ?_, ?_, ?_, ?_, ?_, ?_, ?_, ?_, trivial⟩
          · intro b1_ b2_ a_ w_ st x1_ x2_ y1_ y2_ hJ_
            have e8 : a_.eval (.tmp 8) = _ := st.slot 8 (by kernel_rfl)
            simp only [List.getD_cons_zero, List.getD_cons_succ] at e8
            refine op2_yield _ (by rfl) ?_ rfl (by decide) (by decide) hJ_
            simp only [execOp, e8]
            go_simp
            with_reducible rfl
          · intro b1_ b2_ a_ w_ st x1_ x2_ y1_ y2_ hJ_
            have e1 : a_.eval (.tmp 1) = _ := st.slot 1 (by kernel_rfl)
            simp only [List.getD_cons_zero, List.getD_cons_succ] at e1
            refine op2_yield _ (by rfl) ?_ rfl (by decide) (by decide) hJ_
            simp only [execOp, e1]
            go_simp
            with_reducible rfl
          · intro b1_ b2_ a_ w_ st x1_ x2_ y1_ y2_ hJ_
            have e11 : a_.eval (.tmp 11) = _ := st.slot 11 (by kernel_rfl)
            simp only [List.getD_cons_zero, List.getD_cons_succ] at e11
            refine op2_yield _ (by rfl) ?_ rfl (by decide) (by decide) hJ_
            simp only [execOp, e11]
            go_simp
            with_reducible rfl
          · intro b1_ b2_ a_ w_ st x1_ x2_ y1_ y2_ hJ_
            have e52 : a_.eval (.tmp 52) = _ := st.dep 1 _ 52 rfl rfl (by kernel_rfl)
            have e53 : a_.eval (.tmp 53) = _ := st.dep 2 _ 53 rfl rfl (by kernel_rfl)
            simp only [List.getD_cons_zero, List.getD_cons_succ] at e52 e53
            refine op2_yield _ (by rfl) ?_ rfl (by decide) (by decide) hJ_
            simp only [execOp, e52, e53]
            go_simp
            with_reducible rfl
          · intro b1_ b2_ a_ w_ st x1_ x2_ y1_ y2_ hJ_
            have e54 : a_.eval (.tmp 54) = _ := st.dep 3 _ 54 rfl rfl (by kernel_rfl)
            simp only [List.getD_cons_zero, List.getD_cons_succ] at e54
            have y0 := FX.out w_ hJ_.2.2.2
            refine op2_yield _ (by rfl) ?_ rfl (by decide) (by decide) hJ_
            simp only [execOp, e54]
            go_simp
            with_reducible rfl
          · intro b1_ b2_ a_ w_ st x1_ x2_ y1_ y2_ hJ_
            have e51 : a_.eval (.tmp 51) = _ := st.dep 0 _ 51 rfl rfl (by kernel_rfl)
            have e55 : a_.eval (.tmp 55) = _ := st.dep 4 _ 55 rfl rfl (by kernel_rfl)
            simp only [List.getD_cons_zero, List.getD_cons_succ] at e51 e55
            obtain rfl : b1_ = false := x1_ rfl
            exact op2_go Try.func10 (by kernel_rfl) rfl #[.pointer (some ⟨g, 0, none⟩), .int .u32 x] (by rfl) rfl (by simp [e51, e55]) ((fresh_ok g c T PL.out.ok x hx.1 hx.2 w_ hJ_.1).mono fun e w' hh => ⟨_, hh.1, VC_keep, .inr rfl, hh.2.1, hJ_.2.1.elim (fun v hv => ⟨v, isr_fr hv hJ_.1 hh.2.2⟩), hJ_.2.2.1.fr hh.2.2 D_o_a.out.1 D_o_a.out.2, Fr.above hJ_.2.2.2 hJ_.2.2.2.size hh.2.2 (fun i hi he => by have := G_a.out; omega)⟩)
          · intro b1_ b2_ a_ w_ st x1_ x2_ y1_ y2_ hJ_
            have e10 : a_.eval (.tmp 10) = _ := st.slot 10 (by kernel_rfl)
            simp only [List.getD_cons_zero, List.getD_cons_succ] at e10
            refine op2_yield _ (by rfl) ?_ rfl (by decide) (by decide) hJ_
            simp only [execOp, e10]
            go_simp
            with_reducible rfl
          · intro b1_ b2_ a_ w_ st x1_ x2_ y1_ y2_ hJ_
            have e1 : a_.eval (.tmp 1) = _ := st.slot 1 (by kernel_rfl)
            simp only [List.getD_cons_zero, List.getD_cons_succ] at e1
            refine op2_yield _ (by rfl) ?_ rfl (by decide) (by decide) hJ_
            simp only [execOp, e1]
            go_simp
            with_reducible rfl
          · intro b1_ b2_ a_ w_ st x1_ x2_ y1_ y2_ hJ_
            have e11 : a_.eval (.tmp 11) = _ := st.slot 11 (by kernel_rfl)
            simp only [List.getD_cons_zero, List.getD_cons_succ] at e11
            refine op2_yield _ (by rfl) ?_ rfl (by decide) (by decide) hJ_
            simp only [execOp, e11]
            go_simp
            with_reducible rfl
          · intro b1_ b2_ a_ w_ st x1_ x2_ y1_ y2_ hJ_
            have e58 : a_.eval (.tmp 58) = _ := st.dep 7 _ 58 rfl rfl (by kernel_rfl)
            have e59 : a_.eval (.tmp 59) = _ := st.dep 8 _ 59 rfl rfl (by kernel_rfl)
            simp only [List.getD_cons_zero, List.getD_cons_succ] at e58 e59
            refine op2_yield _ (by rfl) ?_ rfl (by decide) (by decide) hJ_
            simp only [execOp, e58, e59]
            go_simp
            with_reducible rfl
          · intro b1_ b2_ a_ w_ st x1_ x2_ y1_ y2_ hJ_
            have e60 : a_.eval (.tmp 60) = _ := st.dep 9 _ 60 rfl rfl (by kernel_rfl)
            simp only [List.getD_cons_zero, List.getD_cons_succ] at e60
            have y0 := FX.out w_ hJ_.2.2.2
            refine op2_yield _ (by rfl) ?_ rfl (by decide) (by decide) hJ_
            simp only [execOp, e60]
            go_simp
            with_reducible rfl
          · intro b1_ b2_ a_ w_ st x1_ x2_ y1_ y2_ hJ_
            have e57 : a_.eval (.tmp 57) = _ := st.dep 6 _ 57 rfl rfl (by kernel_rfl)
            have e61 : a_.eval (.tmp 61) = _ := st.dep 10 _ 61 rfl rfl (by kernel_rfl)
            simp only [List.getD_cons_zero, List.getD_cons_succ] at e57 e61
            obtain rfl : b2_ = false := x2_ rfl
            obtain ⟨v_, hv_⟩ := hJ_.2.1
            exact op2_go Try.func14 (by kernel_rfl) rfl #[.pointer (some ⟨gr, 0, none⟩), .int .u32 x] (by rfl) rfl (by simp [e57, e61]) ((freshr_ok w gr v_ r x RB.out.1 RB.out.2 PL.out.rng.1 PL.out.rng.2 PL.out.word (by have := PL.out.len; omega) hx.1 hx.2 w_ hJ_.2.2.2 G_r.out hv_).mono fun e w' hh => ⟨_, hh.1, VC_keep, .inr (by rw [EV.out]; rfl), is_frr hJ_.1 hv_ hh.2.2, hh.2.1, is_frr hJ_.2.2.1 hv_ hh.2.2, below_frr hJ_.2.2.2 G_r.out hv_ hh.2.2⟩)
          · intro b1_ b2_ a_ w_ st x1_ x2_ y1_ y2_ hJ_
            have e56 : a_.eval (.tmp 56) = _ := st.dep 5 _ 56 rfl rfl (by kernel_rfl)
            have e62 : a_.eval (.tmp 62) = _ := st.dep 11 _ 62 rfl rfl (by kernel_rfl)
            simp only [List.getD_cons_zero, List.getD_cons_succ] at e56 e62
            refine op2_yield _ (by rfl) ?_ rfl (by decide) (by decide) hJ_
            simp only [execOp, e56, e62]
            go_simp
            with_reducible rfl
        case rgr14 =>
          intro w9 hj
          obtain ⟨j1, ⟨v9, j2⟩, j3, j4⟩ := (show Is w9 g c (freshT T x) ∧ (∃ v, IsR w.heap.size w9 gr v (freshR r x)) ∧ Is w9 g2 c2 O2 ∧ Below w.heap.size w w9 from hj)
          simp only [putL, Act.put, List.headD_cons, List.tail_cons, List.setIfInBounds_toArray, List.set_cons_zero, List.set_cons_succ]
          have I_a9 := Aside0.mk j1
          have R9 := Aside0.mk j2
          have I_o9 := Aside0.mk j3
          have B9 := Aside0.mk j4
          clear hj j1 j2 j3 j4
          go_wp2_with fail
          go_roundg (n - k)
          case measure => omega
          case rel => exact ⟨k + 1, _, _, v9, O2, by go_num, by omega, by omega, PL2, OO2, I_a9, R9, I_o9, B9⟩
      · skip
        obtain ⟨T, hT⟩ : ∃ T, T = clearT T0 := ⟨_, rfl⟩
        obtain ⟨r, hr⟩ : ∃ r, r = clearR r0 := ⟨_, rfl⟩
        have PL : Aside0 (Play T r k) := ⟨by rw [hT, hr]; exact PL0.out.clear⟩
        have RB := Aside0.mk (rbounds PL.out)
        have hpf := PL.out.fresh x HX.out.1 HX.out.2
        have EV := Aside0.mk hpf.1
        have PL2 := Aside0.mk hpf.2
        clear hpf
        go_wp2_with (first
      | (go_at_call 10; (with_reducible refine (fresh_ok g2 c2 O1 OO.out y hy.1 hy.2 _ I_o5.out).mono ?_); rintro e w6 ⟨rfl, h6, f6⟩; have B6 := Aside0.mk (Fr.above B5.out B5.out.size f6 (fun i hi he => by have := G_o.out; omega)); have I_o6 := Aside0.mk h6; have I_a6 := Aside0.mk (I_a5.out.fr f6 D_a_o.out.1 D_a_o.out.2); have R6 := Aside0.mk (isr_fr R5.out I_o5.out f6); clear h6 f6 I_o5 I_a5 R5 B5; obtain ⟨adc, hAc, x0⟩ := (HC.out.below B6.out).at_ k (by omega); cases hAc; rw [hcl] at x0)
      | (go_at_call 12; (with_reducible refine (clear_ok g c T0 PL0.out.ok _ I_a6.out).mono ?_); rintro e w7 ⟨rfl, h7, f7⟩; have B7 := Aside0.mk (Fr.above B6.out B6.out.size f7 (fun i hi he => by have := G_a.out; omega)); have I_a7 := Aside0.mk h7; have I_o7 := Aside0.mk (I_o6.out.fr f7 D_o_a.out.1 D_o_a.out.2); have R7 := Aside0.mk (isr_fr R6.out I_a6.out f7); clear h7 f7 I_a6 I_o6 R6 B6)
      | (go_at_call 13; (with_reducible refine (clearr_ok w.heap.size gr v0 r0 _ R7.out).mono ?_); rintro e w8 ⟨rfl, h8, f8⟩; have B8 := Aside0.mk (below_frr B7.out G_r.out R7.out f8); have I_a8 := Aside0.mk (is_frr I_a7.out R7.out f8); have I_o8 := Aside0.mk (is_frr I_o7.out R7.out f8); have R8 := Aside0.mk h8; clear h8 f8 I_a7 I_o7 R7 B7))
        rw [← hT] at I_a8
        rw [← hr] at R8
        rw [← hO2] at I_o8
        clear hT hr hO2 hcl
        refine region_known 5 11 [?rcz14_0, ?rcz14_1, ?rcz14_2, ?rcz14_3, ?rcz14_4, .bool (freshB T x), ?rcz14_6, ?rcz14_7, ?rcz14_8, ?rcz14_9, ?rcz14_10, .bool (freshB T x), ?rcz14_12] (fun b1 b2 w' => Is w' g c (cond b1 (freshT T x) T) ∧ (∃ v, IsR w.heap.size w' gr v (cond b2 (freshR r x) r)) ∧ Is w' g2 c2 O2 ∧ Below w.heap.size w w') (by kernel_rfl) (by kernel_rfl) (by kernel_rfl) (fun b1 b2 w1 w2 hb hj => ⟨hj.1.below hb, hj.2.1.elim (fun v hv => ⟨v, isr_below hv hb⟩), hj.2.2.1.below hb, below_step hj.2.2.2 hb⟩) (⟨I_a8.out, ⟨_, R8.out⟩, I_o8.out, B8.out⟩) ?rgoz14 ?rgrz14
        case rgoz14 =>
          refine ⟨?_, ?_, ?_, ?_, ?_, ?_, ?_, ?_, ?_, ?_, ?_, ?_, ?_, trivial⟩
          · intro b1_ b2_ a_ w_ st x1_ x2_ y1_ y2_ hJ_
            have e8 : a_.eval (.tmp 8) = _ := st.slot 8 (by kernel_rfl)
            simp only [List.getD_cons_zero, List.getD_cons_succ] at e8
            refine op2_yield _ (by rfl) ?_ rfl (by decide) (by decide) hJ_
            simp only [execOp, e8]
            go_simp
            with_reducible rfl
          · intro b1_ b2_ a_ w_ st x1_ x2_ y1_ y2_ hJ_
            have e1 : a_.eval (.tmp 1) = _ := st.slot 1 (by kernel_rfl)
            simp only [List.getD_cons_zero, List.getD_cons_succ] at e1
            refine op2_yield _ (by rfl) ?_ rfl (by decide) (by decide) hJ_
            simp only [execOp, e1]
            go_simp
            with_reducible rfl
          · intro b1_ b2_ a_ w_ st x1_ x2_ y1_ y2_ hJ_
            have e11 : a_.eval (.tmp 11) = _ := st.slot 11 (by kernel_rfl)
            simp only [List.getD_cons_zero, List.getD_cons_succ] at e11
            refine op2_yield _ (by rfl) ?_ rfl (by decide) (by decide) hJ_
            simp only [execOp, e11]
            go_simp
            with_reducible rfl
          · intro b1_ b2_ a_ w_ st x1_ x2_ y1_ y2_ hJ_
            have e52 : a_.eval (.tmp 52) = _ := st.dep 1 _ 52 rfl rfl (by kernel_rfl)
            have e53 : a_.eval (.tmp 53) = _ := st.dep 2 _ 53 rfl rfl (by kernel_rfl)
            simp only [List.getD_cons_zero, List.getD_cons_succ] at e52 e53
            refine op2_yield _ (by rfl) ?_ rfl (by decide) (by decide) hJ_
            simp only [execOp, e52, e53]
            go_simp
            with_reducible rfl
          · intro b1_ b2_ a_ w_ st x1_ x2_ y1_ y2_ hJ_
            have e54 : a_.eval (.tmp 54) = _ := st.dep 3 _ 54 rfl rfl (by kernel_rfl)
            simp only [List.getD_cons_zero, List.getD_cons_succ] at e54
            have y0 := FX.out w_ hJ_.2.2.2
            refine op2_yield _ (by rfl) ?_ rfl (by decide) (by decide) hJ_
            simp only [execOp, e54]
            go_simp
            with_reducible rfl
          · intro b1_ b2_ a_ w_ st x1_ x2_ y1_ y2_ hJ_
            have e51 : a_.eval (.tmp 51) = _ := st.dep 0 _ 51 rfl rfl (by kernel_rfl)
            have e55 : a_.eval (.tmp 55) = _ := st.dep 4 _ 55 rfl rfl (by kernel_rfl)
            simp only [List.getD_cons_zero, List.getD_cons_succ] at e51 e55
            obtain rfl : b1_ = false := x1_ rfl
            exact op2_go Try.func10 (by kernel_rfl) rfl #[.pointer (some ⟨g, 0, none⟩), .int .u32 x] (by rfl) rfl (by simp [e51, e55]) ((fresh_ok g c T PL.out.ok x hx.1 hx.2 w_ hJ_.1).mono fun e w' hh => ⟨_, hh.1, VC_keep, .inr rfl, hh.2.1, hJ_.2.1.elim (fun v hv => ⟨v, isr_fr hv hJ_.1 hh.2.2⟩), hJ_.2.2.1.fr hh.2.2 D_o_a.out.1 D_o_a.out.2, Fr.above hJ_.2.2.2 hJ_.2.2.2.size hh.2.2 (fun i hi he => by have := G_a.out; omega)⟩)
          · intro b1_ b2_ a_ w_ st x1_ x2_ y1_ y2_ hJ_
            have e10 : a_.eval (.tmp 10) = _ := st.slot 10 (by kernel_rfl)
            simp only [List.getD_cons_zero, List.getD_cons_succ] at e10
            refine op2_yield _ (by rfl) ?_ rfl (by decide) (by decide) hJ_
            simp only [execOp, e10]
            go_simp
            with_reducible rfl
          · intro b1_ b2_ a_ w_ st x1_ x2_ y1_ y2_ hJ_
            have e1 : a_.eval (.tmp 1) = _ := st.slot 1 (by kernel_rfl)
            simp only [List.getD_cons_zero, List.getD_cons_succ] at e1
            refine op2_yield _ (by rfl) ?_ rfl (by decide) (by decide) hJ_
            simp only [execOp, e1]
            go_simp
            with_reducible rfl
          · intro b1_ b2_ a_ w_ st x1_ x2_ y1_ y2_ hJ_
            have e11 : a_.eval (.tmp 11) = _ := st.slot 11 (by kernel_rfl)
            simp only [List.getD_cons_zero, List.getD_cons_succ] at e11
            refine op2_yield _ (by rfl) ?_ rfl (by decide) (by decide) hJ_
            simp only [execOp, e11]
            go_simp
            with_reducible rfl
          · intro b1_ b2_ a_ w_ st x1_ x2_ y1_ y2_ hJ_
            have e58 : a_.eval (.tmp 58) = _ := st.dep 7 _ 58 rfl rfl (by kernel_rfl)
            have e59 : a_.eval (.tmp 59) = _ := st.dep 8 _ 59 rfl rfl (by kernel_rfl)
            simp only [List.getD_cons_zero, List.getD_cons_succ] at e58 e59
            refine op2_yield _ (by rfl) ?_ rfl (by decide) (by decide) hJ_
            simp only [execOp, e58, e59]
            go_simp
            with_reducible rfl
          · intro b1_ b2_ a_ w_ st x1_ x2_ y1_ y2_ hJ_
            have e60 : a_.eval (.tmp 60) = _ := st.dep 9 _ 60 rfl rfl (by kernel_rfl)
            simp only [List.getD_cons_zero, List.getD_cons_succ] at e60
            have y0 := FX.out w_ hJ_.2.2.2
            refine op2_yield _ (by rfl) ?_ rfl (by decide) (by decide) hJ_
            simp only [execOp, e60]
            go_simp
            with_reducible rfl
          · intro b1_ b2_ a_ w_ st x1_ x2_ y1_ y2_ hJ_
            have e57 : a_.eval (.tmp 57) = _ := st.dep 6 _ 57 rfl rfl (by kernel_rfl)
            have e61 : a_.eval (.tmp 61) = _ := st.dep 10 _ 61 rfl rfl (by kernel_rfl)
            simp only [List.getD_cons_zero, List.getD_cons_succ] at e57 e61
            obtain rfl : b2_ = false := x2_ rfl
            obtain ⟨v_, hv_⟩ := hJ_.2.1
            exact op2_go Try.func14 (by kernel_rfl) rfl #[.pointer (some ⟨gr, 0, none⟩), .int .u32 x] (by rfl) rfl (by simp [e57, e61]) ((freshr_ok w gr v_ r x RB.out.1 RB.out.2 PL.out.rng.1 PL.out.rng.2 PL.out.word (by have := PL.out.len; omega) hx.1 hx.2 w_ hJ_.2.2.2 G_r.out hv_).mono fun e w' hh => ⟨_, hh.1, VC_keep, .inr (by rw [EV.out]; rfl), is_frr hJ_.1 hv_ hh.2.2, hh.2.1, is_frr hJ_.2.2.1 hv_ hh.2.2, below_frr hJ_.2.2.2 G_r.out hv_ hh.2.2⟩)
          · intro b1_ b2_ a_ w_ st x1_ x2_ y1_ y2_ hJ_
            have e56 : a_.eval (.tmp 56) = _ := st.dep 5 _ 56 rfl rfl (by kernel_rfl)
            have e62 : a_.eval (.tmp 62) = _ := st.dep 11 _ 62 rfl rfl (by kernel_rfl)
            simp only [List.getD_cons_zero, List.getD_cons_succ] at e56 e62
            refine op2_yield _ (by rfl) ?_ rfl (by decide) (by decide) hJ_
            simp only [execOp, e56, e62]
            go_simp
            with_reducible rfl
        case rgrz14 =>
          intro w9 hj
          obtain ⟨j1, ⟨v9, j2⟩, j3, j4⟩ := (show Is w9 g c (freshT T x) ∧ (∃ v, IsR w.heap.size w9 gr v (freshR r x)) ∧ Is w9 g2 c2 O2 ∧ Below w.heap.size w w9 from hj)
          simp only [putL, Act.put, List.headD_cons, List.tail_cons, List.setIfInBounds_toArray, List.set_cons_zero, List.set_cons_succ]
          have I_a9 := Aside0.mk j1
          have R9 := Aside0.mk j2
          have I_o9 := Aside0.mk j3
          have B9 := Aside0.mk j4
          clear hj j1 j2 j3 j4
          go_wp2_with fail
          go_roundg (n - k)
          case measure => omega
          case rel => exact ⟨k + 1, _, _, v9, O2, by go_num, by omega, by omega, PL2, OO2, I_a9, R9, I_o9, B9⟩
    · go_wp2_with fail
      go_ret
      exact ⟨rfl, B5.out⟩
set_option maxHeartbeats 8000000 in
set_option maxRecDepth 100000 in
theorem play_a (size : Int) (Ad Ac : Option Addr) (n cp nc cc : Nat) (w : World) (hn : 200 < n) (hm : n ≤ 9223372036854775807) :
    Calls Try.prog 7 #[.int .i64 size, .slice Ad n cp, .slice Ac nc cc] w fun e w' => e = .returned (.bool true) ∧ Below w.heap.size w w' := by
  have B0 := Aside0.mk (Below.refl w.heap.size w)
  have h1 : (200 : Int) < (n : Int) := by omega
  clear hn
  go_enter Try.func7, Try.ntmps7
  go_wp2_with (first
      | (go_at_call 8; (with_reducible refine (alive_ok _).mono ?_); rintro e w1 ⟨rfl, hb1⟩; have B1 := Aside0.mk (below_step B0.out hb1); clear hb1))
  go_ret
  exact ⟨rfl, B1.out⟩
set_option maxHeartbeats 8000000 in
set_option maxRecDepth 100000 in
theorem play_b (size : Int) (Ad Ac : Option Addr) (n cp nc cc : Nat) (w : World) (hn : n ≤ 200) (hnc : nc < n) :
    Calls Try.prog 7 #[.int .i64 size, .slice Ad n cp, .slice Ac nc cc] w fun e w' => e = .returned (.bool true) ∧ Below w.heap.size w w' := by
  have B0 := Aside0.mk (Below.refl w.heap.size w)
  go_enter Try.func7, Try.ntmps7
  go_wp2_with (first
      | (go_at_call 8; (with_reducible refine (alive_ok _).mono ?_); rintro e w1 ⟨rfl, hb1⟩; have B1 := Aside0.mk (below_step B0.out hb1); clear hb1))
  go_ret
  exact ⟨rfl, B1.out⟩
theorem walk (a0 : Int) (a1 : Option Addr) (len1 cap1 : Nat) (z1 : List Int) (a2 : Option Addr) (len2 cap2 : Nat) (z2 : List Bool) (W : World) (_h0 : (Lit.int .i64 a0).wf = true) (w1 : IsRow .u32 W a1 len1 cap1 z1) (_y1 : len1 * 4 ≤ 140737488351232) (w2 : IsBools W a2 len2 cap2 z2) :
    Calls Try.prog 7 #[.int .i64 a0, .slice a1 len1 cap1, .slice a2 len2 cap2] W fun e w' => e = .returned (.bool true) ∧ Below W.heap.size W w' := by
  obtain ⟨l, hr, hm, hw⟩ := rds_of_row w1
  rcases Nat.lt_or_ge 200 len1 with h | h
  · exact play_a a0 a1 a2 len1 cap1 len2 cap2 W h hm
  · rcases Nat.lt_or_ge len2 len1 with h2 | h2
    · exact play_b a0 a1 a2 len1 cap1 len2 cap2 W h h2
    · exact play_in a0 a1 a2 len1 cap1 len2 cap2 l z2 W hr w2 h h2 w2.len.2 (fun x hx => wf_u32 (hw x hx))

end Go.Proofs.Ytnelcmblcalknaa.TwPlayW
