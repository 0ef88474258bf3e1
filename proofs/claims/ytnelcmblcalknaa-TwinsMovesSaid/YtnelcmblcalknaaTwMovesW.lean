/- Where the numbers begin turns nothing: the walk. -/
import Derived.Test.YtnelcmblcalknaaTwC
namespace Go.Proofs.Ytnelcmblcalknaa.TwMovesW
open Go.RowKit Go.Proofs.YtnelcmblcalknaaW.PrintWords Go.Proofs.YtnelcmblcalknaaW.PrintLast Go.Proofs.YtnelcmblcalknaaW.PrintMore Go.Proofs.Ytnelcmblcalknaa.K Go.Proofs.Ytnelcmblcalknaa.TwP Go.Proofs.Ytnelcmblcalknaa.TwA Go.Proofs.Ytnelcmblcalknaa.TwB Go.Proofs.Ytnelcmblcalknaa.TwQ Go.Proofs.Ytnelcmblcalknaa.TwC
set_option linter.unusedVariables false
set_option linter.unusedSimpArgs false
attribute [local go_sem] max2_int min2_int max_two min_two

structure Mv (A B : Tb) (by_ : Int) : Prop where
  known : B.known = A.known
  at_ : B.at_ = A.at_
  came : B.came = A.came
  high : A.known = true → B.high = (A.high + by_) % 4294967296
theorem Mv.first {A B : Tb} {by_ : Int} (h : Mv A B by_) (b : Nat) : firstB B b = firstB A b ∧ Mv (firstT A b) (firstT B b) by_ := by
  obtain ⟨h1, h2, h3, h4⟩ := h
  have hi : idx B b = idx A b := by unfold idx; rw [h2, h3]
  exact ⟨by unfold firstB; rw [hi, h3], ⟨h1, h2, by show B.came.set _ _ = A.came.set _ _; rw [hi, h3], h4⟩⟩
theorem Mv.raise {A B : Tb} {by_ : Int} (h : Mv A B by_) : Mv (raiseT A) (raiseT B) by_ := by
  obtain ⟨h1, h2, h3, h4⟩ := h
  exact ⟨h1, by show (B.at_ + 1) % _ = _; rw [h2, h3]; rfl, by show B.came.set _ _ = A.came.set _ _; rw [h2, h3], h4⟩
theorem Mv.raiseN : ∀ (k : Nat) {A B : Tb} {by_ : Int}, Mv A B by_ → Mv (raiseN k A) (raiseN k B) by_
  | 0, _, _, _, h => h
  | k + 1, _, _, _, h => Mv.raiseN k h.raise
theorem Mv.set {A B : Tb} {by_ : Int} (h : Mv A B by_) (k : Bool) (n : Int) : Mv { A with known := k, high := n } { B with known := k, high := (n + by_) % 4294967296 } by_ := ⟨rfl, h.at_, h.came, fun _ => rfl⟩
theorem Mv.high2 {A B : Tb} {by_ : Int} (h : Mv A B by_) (n : Int) : Mv { A with high := n } { B with high := (n + by_) % 4294967296 } by_ := ⟨h.known, h.at_, h.came, fun _ => rfl⟩
theorem Mv.fresh {A B : Tb} {by_ : Int} (h : Mv A B by_) (n : Int) : freshB B ((n + by_) % 4294967296) = freshB A n ∧ Mv (freshT A n) (freshT B ((n + by_) % 4294967296)) by_ := by
  unfold freshB freshT
  by_cases hk : A.known = false
  · have hk2 : B.known = false := by rw [h.known]; exact hk
    rw [if_pos hk, if_pos hk, if_pos hk2, if_pos hk2]
    exact (h.set true n).first 0
  · have hk2 : ¬ B.known = false := by rw [h.known]; exact hk
    have hh := h.high (by simpa using hk)
    have e1 : sub32 B.high ((n + by_) % 4294967296) = sub32 A.high n := by rw [hh]; unfold sub32; omega
    have e2 : sub32 ((n + by_) % 4294967296) B.high = sub32 n A.high := by rw [hh]; unfold sub32; omega
    have e3 : B.came.length = A.came.length := by rw [h.came]
    rw [if_neg hk, if_neg hk, if_neg hk2, if_neg hk2, e1, e2, e3]
    by_cases h0 : sub32 A.high n = 0
    · rw [if_pos h0, if_pos h0, if_pos h0, if_pos h0]
      exact ⟨rfl, h⟩
    · rw [if_neg h0, if_neg h0, if_neg h0, if_neg h0]
      by_cases h1 : sub32 n A.high < 2147483648
      · rw [if_pos h1, if_pos h1, if_pos h1, if_pos h1]
        exact ((h.raiseN _).high2 n).first 0
      · rw [if_neg h1, if_neg h1, if_neg h1, if_neg h1]
        by_cases h2 : sub32 A.high n < (A.came.length : Int)
        · rw [if_pos h2, if_pos h2, if_pos h2, if_pos h2]
          exact h.first _
        · rw [if_neg h2, if_neg h2, if_neg h2, if_neg h2]
          exact ⟨rfl, h⟩
theorem Mv.start (T : Tb) (by_ : Int) (h : T.known = false) : Mv T T by_ := ⟨rfl, rfl, rfl, fun hk => by rw [h] at hk; cases hk⟩
theorem wf_u32 {x : Int} (h : (Lit.int .u32 x).wf = true) : 0 ≤ x ∧ x < 4294967296 := by
  have h1 : IntKind.u32.min = 0 := by decide
  have h2 : IntKind.u32.max = 4294967295 := by decide
  simp [Lit.wf, h1, h2] at h
  omega
set_option maxHeartbeats 8000000 in
set_option maxRecDepth 100000 in
theorem moves_in (size by_ : Int) (Ad : Option Addr) (n cp : Nat) (l : List Int) (w : World) (hr : Rds (Kd.int .u32) w Ad n cp l) (hn : n ≤ 200) (hl : ∀ x ∈ l, 0 ≤ x ∧ x < 4294967296) :
    Calls Try.prog 4 #[.int .i64 size, .slice Ad n cp, .int .u32 by_] w fun e w' => e = .returned (.bool true) ∧ Below w.heap.size w w' := by
  have B0 := Aside0.mk (Below.refl w.heap.size w)
  have HR := Aside0.mk hr
  have hln := hr.len
  have HL := Aside0.mk hln
  have HW := Aside0.mk hl
  clear hr hln hl
  go_enter Try.func4, Try.ntmps4
  go_wp2_with (first
      | (go_at_call 8; (with_reducible refine (alive_ok _).mono ?_); rintro e w1 ⟨rfl, hb1⟩; have B1 := Aside0.mk (below_step B0.out hb1); clear hb1)
      | (go_at_call 9; (with_reducible refine (new_ok size _).mono ?_); rintro e w2 ⟨g, c, rfl, hg, hc, h, hb⟩; have B2 := Aside0.mk (below_step B1.out hb); have G_a := Aside0.mk (And.intro (Nat.le_trans B1.out.size hg) (Nat.le_trans B1.out.size hc)); have I_a2 := Aside0.mk h; clear hg hc h hb)
      | (go_at_call 9; (with_reducible refine (new_ok size _).mono ?_); rintro e w3 ⟨g2, c2, rfl, hg, hc, h, hb⟩; have B3 := Aside0.mk (below_step B2.out hb); have G_b := Aside0.mk (And.intro (Nat.le_trans B2.out.size hg) (Nat.le_trans B2.out.size hc)); have I_b3 := Aside0.mk h; have I_a3 := Aside0.mk (I_a2.out.below hb); have D_a_b := Aside0.mk (apart_of I_a2.out.lt hg hc); have D_b_a := Aside0.mk (apart_sym D_a_b.out); clear hg hc h hb))
  clear I_a2 B2
  go_loopg [6, 10] (n + 1) (fun kq v6 v10 w' => ∃ (k : Nat) (A B : Tb), v10 = .int .i64 k ∧ k ≤ n ∧ kq = n + 1 - k ∧ Aside0 (Ok A) ∧ Aside0 (Ok B) ∧ Aside0 (Mv A B by_) ∧ Aside0 (Is w' g c A) ∧ Aside0 (Is w' g2 c2 B) ∧ Aside0 (Below w.heap.size w w'))
  case atStart => exact ⟨0, _, _, by simp, by omega, by omega, ⟨Ok.new size⟩, ⟨Ok.new size⟩, ⟨Mv.start _ _ rfl⟩, I_a3, I_b3, B3⟩
  case round =>
    clear I_a3 I_b3 B3
    obtain ⟨k, A, B, rfl, hk, hm, OA, OB, MV, I_a4, I_b4, B4⟩ := hrel
    by_cases hlt : k < n
    · obtain ⟨ad, hA, hx0⟩ := (HR.out.below B4.out).int (k : Int) (by omega) (by omega)
      subst hA
      clear hx0
      obtain ⟨x, hz⟩ : ∃ x, x = rd l k := ⟨_, rfl⟩
      have hx : 0 ≤ x ∧ x < 4294967296 := by rw [hz]; exact HW.out _ (rd_mem l k (by have := HL.out; omega))
      have FX : Aside0 (∀ w'', Below w.heap.size w w'' → w''.cell? (ad.add k) = some (.int .u32 x)) := ⟨fun w'' hb => by
        have := HR.out.cell_int hb k hlt
        rwa [← hz] at this⟩
      clear hz
      obtain ⟨y, hyy⟩ : ∃ y, y = (x + by_) % 4294967296 := ⟨_, rfl⟩
      have hy : 0 ≤ y ∧ y < 4294967296 := by omega
      have EY : Aside0 (IntKind.u32.wrap (x + by_) = y) := ⟨by rw [u32_w, hyy]⟩
      have hmv := MV.out.fresh x
      rw [← hyy] at hmv
      have EV := Aside0.mk hmv.1
      have MV2 := Aside0.mk hmv.2
      clear hyy hmv
      have HX := Aside0.mk hx
      go_wp2_with fail
      refine region_known 5 13 [?rc9_0, ?rc9_1, ?rc9_2, ?rc9_3, ?rc9_4, .bool (freshB A x), ?rc9_6, ?rc9_7, ?rc9_8, ?rc9_9, ?rc9_10, ?rc9_11, ?rc9_12, .bool (freshB A x), ?rc9_14] (fun b1 b2 w' => Is w' g c (cond b1 (freshT A x) A) ∧ Is w' g2 c2 (cond b2 (freshT B y) B) ∧ Below w.heap.size w w') (by kernel_rfl) (by kernel_rfl) (by kernel_rfl) (fun b1 b2 w1 w2 hb hj => ⟨hj.1.below hb, hj.2.1.below hb, below_step hj.2.2 hb⟩) (⟨I_a4.out, I_b4.out, B4.out⟩) ?rgo9 ?rgr9
      case rgo9 =>
        refine ⟨?_, ?_, ?_, ?_, ?_, ?_, ?_, ?_, ?_, ?_, ?_, ?_, ?_, ?_, ?_, trivial⟩
        · intro b1_ b2_ a_ w_ st x1_ x2_ y1_ y2_ hJ_
          have e8 : a_.eval (.tmp 8) = _ := st.slot 8 (by kernel_rfl)
          simp only [List.getD_cons_zero, List.getD_cons_succ] at e8
          refine op2_yield _ (by rfl) ?_ rfl (by decide) (by decide) hJ_
          simp only [execOp, e8]
          go_simp
          with_reducible rfl
        · intro b1_ b2_ a_ w_ st x1_ x2_ y1_ y2_ hJ_
          have e1 : a_.eval (.tmp 1) = _ := st.slot 1 (by kernel_rfl)
          simp only [List.getD_cons_zero, List.getD_cons_succ] at e1
          refine op2_yield _ (by rfl) ?_ rfl (by decide) (by decide) hJ_
          simp only [execOp, e1]
          go_simp
          with_reducible rfl
        · intro b1_ b2_ a_ w_ st x1_ x2_ y1_ y2_ hJ_
          have e10 : a_.eval (.tmp 10) = _ := st.slot 10 (by kernel_rfl)
          simp only [List.getD_cons_zero, List.getD_cons_succ] at e10
          refine op2_yield _ (by rfl) ?_ rfl (by decide) (by decide) hJ_
          simp only [execOp, e10]
          go_simp
          with_reducible rfl
        · intro b1_ b2_ a_ w_ st x1_ x2_ y1_ y2_ hJ_
          have e31 : a_.eval (.tmp 31) = _ := st.dep 1 _ 31 rfl rfl (by kernel_rfl)
          have e32 : a_.eval (.tmp 32) = _ := st.dep 2 _ 32 rfl rfl (by kernel_rfl)
          simp only [List.getD_cons_zero, List.getD_cons_succ] at e31 e32
          refine op2_yield _ (by rfl) ?_ rfl (by decide) (by decide) hJ_
          simp only [execOp, e31, e32]
          go_simp
          with_reducible rfl
        · intro b1_ b2_ a_ w_ st x1_ x2_ y1_ y2_ hJ_
          have e33 : a_.eval (.tmp 33) = _ := st.dep 3 _ 33 rfl rfl (by kernel_rfl)
          simp only [List.getD_cons_zero, List.getD_cons_succ] at e33
          have y0 := FX.out w_ hJ_.2.2
          refine op2_yield _ (by rfl) ?_ rfl (by decide) (by decide) hJ_
          simp only [execOp, e33]
          go_simp
          with_reducible rfl
        · intro b1_ b2_ a_ w_ st x1_ x2_ y1_ y2_ hJ_
          have e30 : a_.eval (.tmp 30) = _ := st.dep 0 _ 30 rfl rfl (by kernel_rfl)
          have e34 : a_.eval (.tmp 34) = _ := st.dep 4 _ 34 rfl rfl (by kernel_rfl)
          simp only [List.getD_cons_zero, List.getD_cons_succ] at e30 e34
          obtain rfl : b1_ = false := x1_ rfl
          exact op2_go Try.func10 (by kernel_rfl) rfl #[.pointer (some ⟨g, 0, none⟩), .int .u32 x] (by rfl) rfl (by simp [e30, e34]) ((fresh_ok g c A OA.out x hx.1 hx.2 w_ hJ_.1).mono fun e w' hh => ⟨_, hh.1, VC_keep, .inr rfl, hh.2.1, hJ_.2.1.fr hh.2.2 D_b_a.out.1 D_b_a.out.2, Fr.above hJ_.2.2 hJ_.2.2.size hh.2.2 (fun i hi he => by have := G_a.out; omega)⟩)
        · intro b1_ b2_ a_ w_ st x1_ x2_ y1_ y2_ hJ_
          have e9 : a_.eval (.tmp 9) = _ := st.slot 9 (by kernel_rfl)
          simp only [List.getD_cons_zero, List.getD_cons_succ] at e9
          refine op2_yield _ (by rfl) ?_ rfl (by decide) (by decide) hJ_
          simp only [execOp, e9]
          go_simp
          with_reducible rfl
        · intro b1_ b2_ a_ w_ st x1_ x2_ y1_ y2_ hJ_
          have e1 : a_.eval (.tmp 1) = _ := st.slot 1 (by kernel_rfl)
          simp only [List.getD_cons_zero, List.getD_cons_succ] at e1
          refine op2_yield _ (by rfl) ?_ rfl (by decide) (by decide) hJ_
          simp only [execOp, e1]
          go_simp
          with_reducible rfl
        · intro b1_ b2_ a_ w_ st x1_ x2_ y1_ y2_ hJ_
          have e10 : a_.eval (.tmp 10) = _ := st.slot 10 (by kernel_rfl)
          simp only [List.getD_cons_zero, List.getD_cons_succ] at e10
          refine op2_yield _ (by rfl) ?_ rfl (by decide) (by decide) hJ_
          simp only [execOp, e10]
          go_simp
          with_reducible rfl
        · intro b1_ b2_ a_ w_ st x1_ x2_ y1_ y2_ hJ_
          have e37 : a_.eval (.tmp 37) = _ := st.dep 7 _ 37 rfl rfl (by kernel_rfl)
          have e38 : a_.eval (.tmp 38) = _ := st.dep 8 _ 38 rfl rfl (by kernel_rfl)
          simp only [List.getD_cons_zero, List.getD_cons_succ] at e37 e38
          refine op2_yield _ (by rfl) ?_ rfl (by decide) (by decide) hJ_
          simp only [execOp, e37, e38]
          go_simp
          with_reducible rfl
        · intro b1_ b2_ a_ w_ st x1_ x2_ y1_ y2_ hJ_
          have e39 : a_.eval (.tmp 39) = _ := st.dep 9 _ 39 rfl rfl (by kernel_rfl)
          simp only [List.getD_cons_zero, List.getD_cons_succ] at e39
          have y0 := FX.out w_ hJ_.2.2
          refine op2_yield _ (by rfl) ?_ rfl (by decide) (by decide) hJ_
          simp only [execOp, e39]
          go_simp
          with_reducible rfl
        · intro b1_ b2_ a_ w_ st x1_ x2_ y1_ y2_ hJ_
          have e2 : a_.eval (.tmp 2) = _ := st.slot 2 (by kernel_rfl)
          simp only [List.getD_cons_zero, List.getD_cons_succ] at e2
          refine op2_yield _ (by rfl) ?_ rfl (by decide) (by decide) hJ_
          simp only [execOp, e2]
          go_simp
          with_reducible rfl
        · intro b1_ b2_ a_ w_ st x1_ x2_ y1_ y2_ hJ_
          have e40 : a_.eval (.tmp 40) = _ := st.dep 10 _ 40 rfl rfl (by kernel_rfl)
          have e41 : a_.eval (.tmp 41) = _ := st.dep 11 _ 41 rfl rfl (by kernel_rfl)
          simp only [List.getD_cons_zero, List.getD_cons_succ] at e40 e41
          refine op2_yield _ (by rfl) ?_ rfl (by decide) (by decide) hJ_
          simp only [execOp, e40, e41]
          go_simp
          rw [EY.out]
        · intro b1_ b2_ a_ w_ st x1_ x2_ y1_ y2_ hJ_
          have e36 : a_.eval (.tmp 36) = _ := st.dep 6 _ 36 rfl rfl (by kernel_rfl)
          have e42 : a_.eval (.tmp 42) = _ := st.dep 12 _ 42 rfl rfl (by kernel_rfl)
          simp only [List.getD_cons_zero, List.getD_cons_succ] at e36 e42
          obtain rfl : b2_ = false := x2_ rfl
          exact op2_go Try.func10 (by kernel_rfl) rfl #[.pointer (some ⟨g2, 0, none⟩), .int .u32 y] (by rfl) rfl (by simp [e36, e42]) ((fresh_ok g2 c2 B OB.out y hy.1 hy.2 w_ hJ_.2.1).mono fun e w' hh => ⟨_, hh.1, VC_keep, .inr (by rw [EV.out]; rfl), hJ_.1.fr hh.2.2 D_a_b.out.1 D_a_b.out.2, hh.2.1, Fr.above hJ_.2.2 hJ_.2.2.size hh.2.2 (fun i hi he => by have := G_b.out; omega)⟩)
        · intro b1_ b2_ a_ w_ st x1_ x2_ y1_ y2_ hJ_
          have e35 : a_.eval (.tmp 35) = _ := st.dep 5 _ 35 rfl rfl (by kernel_rfl)
          have e43 : a_.eval (.tmp 43) = _ := st.dep 13 _ 43 rfl rfl (by kernel_rfl)
          simp only [List.getD_cons_zero, List.getD_cons_succ] at e35 e43
          refine op2_yield _ (by rfl) ?_ rfl (by decide) (by decide) hJ_
          simp only [execOp, e35, e43]
          go_simp
          with_reducible rfl
      case rgr9 =>
        intro w5 hj
        obtain ⟨j1, j2, j3⟩ := (show Is w5 g c (freshT A x) ∧ Is w5 g2 c2 (freshT B y) ∧ Below w.heap.size w w5 from hj)
        simp only [putL, Act.put, List.headD_cons, List.tail_cons, List.setIfInBounds_toArray, List.set_cons_zero, List.set_cons_succ]
        have I_a5 := Aside0.mk j1
        have I_b5 := Aside0.mk j2
        have B5 := Aside0.mk j3
        clear hj j1 j2 j3
        go_wp2_with fail
        go_roundg (n - k)
        case measure => omega
        case rel => exact ⟨k + 1, _, _, by go_num, by omega, by omega, ⟨OA.out.fresh x HX.out.1 HX.out.2⟩, ⟨OB.out.fresh y hy.1 hy.2⟩, MV2, I_a5, I_b5, B5⟩
    · go_wp2_with fail
      go_ret
      exact ⟨rfl, B4.out⟩
set_option maxHeartbeats 8000000 in
set_option maxRecDepth 100000 in
theorem moves_out (size by_ : Int) (Ad : Option Addr) (n cp : Nat) (w : World) (hn : 200 < n) (hm : n ≤ 9223372036854775807) :
    Calls Try.prog 4 #[.int .i64 size, .slice Ad n cp, .int .u32 by_] w fun e w' => e = .returned (.bool true) ∧ Below w.heap.size w w' := by
  have B0 := Aside0.mk (Below.refl w.heap.size w)
  have h1 : (200 : Int) < (n : Int) := by omega
  clear hn
  go_enter Try.func4, Try.ntmps4
  go_wp2_with (first
      | (go_at_call 8; (with_reducible refine (alive_ok _).mono ?_); rintro e w1 ⟨rfl, hb1⟩; have B1 := Aside0.mk (below_step B0.out hb1); clear hb1))
  go_ret
  exact ⟨rfl, B1.out⟩
theorem walk (a0 : Int) (a1 : Option Addr) (len1 cap1 : Nat) (z1 : List Int) (a2 : Int) (W : World) (_h0 : (Lit.int .i64 a0).wf = true) (w1 : IsRow .u32 W a1 len1 cap1 z1) (_y1 : len1 * 4 ≤ 140737488351232) (_h2 : (Lit.int .u32 a2).wf = true) :
    Calls Try.prog 4 #[.int .i64 a0, .slice a1 len1 cap1, .int .u32 a2] W fun e w' => e = .returned (.bool true) ∧ Below W.heap.size W w' := by
  obtain ⟨l, hr, hm, hw⟩ := rds_of_row w1
  rcases Nat.lt_or_ge 200 len1 with h | h
  · exact moves_out a0 a2 a1 len1 cap1 W h hm
  · exact moves_in a0 a2 a1 len1 cap1 l W hr h (fun x hx => wf_u32 (hw x hx))

end Go.Proofs.Ytnelcmblcalknaa.TwMovesW
