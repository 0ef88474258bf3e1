/- The law of cuts: the walk. -/
import Derived.Test.YtcgdnkgnknceiaaHnX
namespace Go.Proofs.Ytcgdnkgnknceiaa.HnCutsW
open Go.RowKit Go.Proofs.YtcgdnkgnknceiaaW.PrintWords Go.Proofs.YtcgdnkgnknceiaaW.PrintLast Go.Proofs.YtcgdnkgnknceiaaW.PrintMore Go.Proofs.Ytcgdnkgnknceiaa.K Go.Proofs.Ytcgdnkgnknceiaa.OpenC Go.Proofs.Ytcgdnkgnknceiaa.OpenD Go.Proofs.Ytcgdnkgnknceiaa.HnA Go.Proofs.Ytcgdnkgnknceiaa.HnB Go.Proofs.Ytcgdnkgnknceiaa.HnC Go.Proofs.Ytcgdnkgnknceiaa.HnD Go.Proofs.Ytcgdnkgnknceiaa.HnV Go.Proofs.Ytcgdnkgnknceiaa.HnW Go.Proofs.Ytcgdnkgnknceiaa.HnX
set_option linter.unusedVariables false
set_option linter.unusedSimpArgs false
attribute [local go_sem] max2_int min2_int max_two min_two

theorem g3get {w : World} {A : Option Addr} {n c : Nat} {l : List (List (List Int))} (h : Grid3 w A n c l) (i : Nat) (hi : i < n) : ∃ x ad A1 n1 c1, l[i]? = some x ∧ A = some ad ∧ w.cell? (ad.add i) = some (.slice A1 n1 c1) ∧ Grid w A1 n1 c1 x := by
  have hx : l[i]? = some (l[i]'(by have := h.len; omega)) := by simp
  obtain ⟨ad, v, hA, hc, hv⟩ := h.at_ i _ hx
  obtain ⟨A1, n1, c1, rfl, r⟩ := hv.out
  exact ⟨_, ad, A1, n1, c1, hx, hA, hc, r⟩
set_option maxHeartbeats 8000000 in
set_option maxRecDepth 100000 in
theorem cuts_in (A : Option Addr) (n c : Nat) (z : List (Int × Int × List Int)) (at_ : Int) (w : World) (hr : IsEvs w A n c z) (hn : n ≤ 100) :
    Calls Try.prog 4 #[.slice A n c, .int .i64 at_] w fun e w' => e = .returned (.bool true) ∧ Below w.heap.size w w' := by
  have hcn := hr.cap
  have g1 : ¬ (100 : Int) < ((n : Nat) : Int) := by omega
  obtain ⟨m, hm⟩ : ∃ m, m = (cutP at_ z).length := ⟨_, rfl⟩
  have hm2 : m ≤ 101 := by
    have := cutF_len at_ z ([], [])
    rw [hm]
    unfold cutP
    rw [List.length_append]
    simp only [List.length_nil, Nat.zero_add] at this
    have h2 := hr.len
    simp only [cutF, List.length_singleton]
    omega
  have QA := Aside0.mk (fun w' (hb : Below w.heap.size w w') => (show Calls Try.prog 11 #[.slice A n c, .int .i64 at_] w' fun e w'' => ∃ A1 c1, e = .returned (.slice A1 m c1) ∧ Grid3 w'' A1 m c1 (cutP at_ z) ∧ Below w'.heap.size w' w'' by rw [hm]; exact cut_ok A n c z at_ w' (hr.below hb) hn))
  have QB := Aside0.mk (fun w' (hb : Below w.heap.size w w') => (show Calls Try.prog 12 #[.slice A n c, .int .i64 at_] w' fun e w'' => ∃ A1 c1, e = .returned (.slice A1 m c1) ∧ Grid3 w'' A1 m c1 (cutP at_ z) ∧ Below w'.heap.size w' w'' by rw [hm]; exact rcut_ok A n c z at_ w' (hr.below hb) hn))
  clear hr hm
  go_enter Try.func4, Try.ntmps4
  go_wp2_with (first
    | (go_at_call 7; (with_reducible refine (alive_ok _).mono ?_); rintro e w1 ⟨rfl, hb1⟩; have HB1 := Aside0.mk hb1; clear hb1)
    | (go_at_call 11; (with_reducible refine (QA.out _ HB1.out).mono ?_); rintro e w2 ⟨A2, c2, rfl, hg, hb⟩; have G2 := Aside0.mk hg; have hcc2 := hg.cap; have B2 := Aside0.mk (below_step HB1.out hb); clear hg hb)
    | (go_at_call 12; (with_reducible refine (QB.out _ B2.out).mono ?_); rintro e w3 ⟨A3, c3, rfl, hg, hb⟩; have G3 := Aside0.mk hg; have hcc3 := hg.cap; have G23 := Aside0.mk (Grid3.below G2.out hb); have B3 := Aside0.mk (below_step B2.out hb); clear hg hb))
  go_loopg [8] (m + 1) (fun kq v8 w' => ∃ (i : Nat), v8 = .int .i64 i ∧ i ≤ m ∧ kq = m + 1 - i ∧ Aside0 (Below w3.heap.size w3 w'))
  case atStart => exact ⟨0, rfl, by omega, by omega, ⟨Below.refl _ _⟩⟩
  case round =>
    obtain ⟨i, rfl, hi, hkq, B4⟩ := hrel
    by_cases hlt : i < m
    · obtain ⟨x, ad, A4, n4, c4, hx, hA, hc4, hr4⟩ := g3get G23.out i hlt
      cases hA
      obtain ⟨y, ad2, A5, n5, c5, hy, hA2, hc5, hr5⟩ := g3get G3.out i hlt
      cases hA2
      have hxy : x = y := by rw [hx] at hy; cases hy; rfl
      subst hxy
      have FX := Aside0.mk (fun w' (hb : Below wr.heap.size wr w') => ((below_step B4.out hb).cell (World.block_lt_of_cell? w3 _ hc4)).trans hc4)
      have FY := Aside0.mk (fun w' (hb : Below wr.heap.size wr w') => ((below_step B4.out hb).cell (World.block_lt_of_cell? w3 _ hc5)).trans hc5)
      have RB := Aside0.mk (fun w' (hb : Below wr.heap.size wr w') => (show Calls Try.prog 13 #[.slice A4 n4 c4, .slice A5 n5 c5] w' fun e w'' => e = .returned (.bool true) ∧ Below w'.heap.size w' w'' by
        have := same_ok A4 n4 c4 x A5 n5 c5 x w' (hr4.below (below_step B4.out hb)) (hr5.below (below_step B4.out hb))
        rwa [show decide (x = x) = true by simp] at this))
      have hii : ((i : Nat) : Int) < ((m : Nat) : Int) := by omega
      clear hx hy hc4 hc5 hr4 hr5
      go_wp2_with fail
      refine region_known 10 10 [?rca11_0, ?rca11_1, ?rca11_2, .slice A4 n4 c4, ?rca11_4, ?rca11_5, ?rca11_6, .slice A5 n5 c5, .bool true, .bool false] (fun _ _ w' => Below wr.heap.size wr w') (by kernel_rfl) (by kernel_rfl) (by kernel_rfl) (fun _ _ w1 w2 hb hj => below_step hj hb) (Below.refl _ _) ?rgoa11 ?rgra11
      case rgoa11 =>
        refine ⟨?_, ?_, ?_, ?_, ?_, ?_, ?_, ?_, ?_, ?_, trivial⟩
        · intro b1_ b2_ a_ w_ st x1_ x2_ y1_ y2_ hJ_
          have e6 : a_.eval (.tmp 6) = .slice (some ad) m c2 := st.slot 6 (by kernel_rfl)
          try simp only [List.getD_cons_zero, List.getD_cons_succ] at e6
          refine op2_yield _ (by rfl) ?_ rfl (by decide) (by decide) hJ_
          simp only [execOp, e6]
          go_simp
          all_goals first | with_reducible rfl | omega
        · intro b1_ b2_ a_ w_ st x1_ x2_ y1_ y2_ hJ_
          have e8 : a_.eval (.tmp 8) = .int .i64 ((i : Nat) : Int) := st.slot 8 (by kernel_rfl)
          try simp only [List.getD_cons_zero, List.getD_cons_succ] at e8
          refine op2_yield _ (by rfl) ?_ rfl (by decide) (by decide) hJ_
          simp only [execOp, e8]
          go_simp
          all_goals first | with_reducible rfl | omega
        · intro b1_ b2_ a_ w_ st x1_ x2_ y1_ y2_ hJ_
          have e35 : a_.eval (.tmp 35) = _ := st.dep 0 _ 35 rfl rfl (by kernel_rfl)
          have e36 : a_.eval (.tmp 36) = _ := st.dep 1 _ 36 rfl rfl (by kernel_rfl)
          try simp only [List.getD_cons_zero, List.getD_cons_succ] at e35 e36
          refine op2_yield _ (by rfl) ?_ rfl (by decide) (by decide) hJ_
          simp only [execOp, e35, e36]
          go_simp
          all_goals first | with_reducible rfl | omega
        · intro b1_ b2_ a_ w_ st x1_ x2_ y1_ y2_ hJ_
          have e37 : a_.eval (.tmp 37) = _ := st.dep 2 _ 37 rfl rfl (by kernel_rfl)
          try simp only [List.getD_cons_zero, List.getD_cons_succ] at e37
          have hc_ := FX.out w_ hJ_
          refine op2_yield _ (by rfl) ?_ rfl (by decide) (by decide) hJ_
          simp only [execOp, e37]
          go_simp
          all_goals first | with_reducible rfl | omega
        · intro b1_ b2_ a_ w_ st x1_ x2_ y1_ y2_ hJ_
          have e7 : a_.eval (.tmp 7) = .slice (some ad2) m c3 := st.slot 7 (by kernel_rfl)
          try simp only [List.getD_cons_zero, List.getD_cons_succ] at e7
          refine op2_yield _ (by rfl) ?_ rfl (by decide) (by decide) hJ_
          simp only [execOp, e7]
          go_simp
          all_goals first | with_reducible rfl | omega
        · intro b1_ b2_ a_ w_ st x1_ x2_ y1_ y2_ hJ_
          have e8 : a_.eval (.tmp 8) = .int .i64 ((i : Nat) : Int) := st.slot 8 (by kernel_rfl)
          try simp only [List.getD_cons_zero, List.getD_cons_succ] at e8
          refine op2_yield _ (by rfl) ?_ rfl (by decide) (by decide) hJ_
          simp only [execOp, e8]
          go_simp
          all_goals first | with_reducible rfl | omega
        · intro b1_ b2_ a_ w_ st x1_ x2_ y1_ y2_ hJ_
          have e39 : a_.eval (.tmp 39) = _ := st.dep 4 _ 39 rfl rfl (by kernel_rfl)
          have e40 : a_.eval (.tmp 40) = _ := st.dep 5 _ 40 rfl rfl (by kernel_rfl)
          try simp only [List.getD_cons_zero, List.getD_cons_succ] at e39 e40
          refine op2_yield _ (by rfl) ?_ rfl (by decide) (by decide) hJ_
          simp only [execOp, e39, e40]
          go_simp
          all_goals first | with_reducible rfl | omega
        · intro b1_ b2_ a_ w_ st x1_ x2_ y1_ y2_ hJ_
          have e41 : a_.eval (.tmp 41) = _ := st.dep 6 _ 41 rfl rfl (by kernel_rfl)
          try simp only [List.getD_cons_zero, List.getD_cons_succ] at e41
          have hc_ := FY.out w_ hJ_
          refine op2_yield _ (by rfl) ?_ rfl (by decide) (by decide) hJ_
          simp only [execOp, e41]
          go_simp
          all_goals first | with_reducible rfl | omega
        · intro b1_ b2_ a_ w_ st x1_ x2_ y1_ y2_ hJ_
          have e38 : a_.eval (.tmp 38) = _ := st.dep 3 _ 38 rfl rfl (by kernel_rfl)
          have e42 : a_.eval (.tmp 42) = _ := st.dep 7 _ 42 rfl rfl (by kernel_rfl)
          try simp only [List.getD_cons_zero, List.getD_cons_succ] at e38 e42
          exact op2_call Try.func13 (by kernel_rfl) rfl #[.slice A4 n4 c4, .slice A5 n5 c5] (by rfl) rfl (by simp [e38, e42]) (VC_stable _) (fun _ _ w1 w2 hb hj => below_step hj hb) (by decide) (by decide) hJ_ ((RB.out w_ hJ_).mono fun e w'' h => ⟨_, h.1, h.2, rfl⟩)
        · intro b1_ b2_ a_ w_ st x1_ x2_ y1_ y2_ hJ_
          have e43 : a_.eval (.tmp 43) = _ := st.dep 8 _ 43 rfl rfl (by kernel_rfl)
          try simp only [List.getD_cons_zero, List.getD_cons_succ] at e43
          refine op2_yield _ (by rfl) ?_ rfl (by decide) (by decide) hJ_
          simp only [execOp, e43]
          go_simp
          all_goals first | with_reducible rfl | omega
      case rgra11 =>
        intro w7 hj7
        have hj7 := (show Below wr.heap.size wr w7 from hj7)
        simp only [putL, Act.put, List.headD_cons, List.tail_cons, List.setIfInBounds_toArray, List.set_cons_zero, List.set_cons_succ]
        have B7 := Aside0.mk (below_step B4.out hj7)
        clear hj7
        go_wp2
        go_roundg (m - i)
        case measure => omega
        case rel => exact ⟨i + 1, by go_num, by omega, by omega, B7⟩
    · obtain rfl : i = m := by omega
      have BW := Aside0.mk (below_step B3.out B4.out)
      go_wp2_with fail
      first | go_ret | go_ret2 | ((try simp only [Exit.inBlock, Exit.then]); refine bodyPost_ret (results_tmp3 rfl _ _ _) rfl ?_) | go_end0
      exact ⟨rfl, BW.out⟩
set_option maxHeartbeats 8000000 in
set_option maxRecDepth 100000 in
theorem cuts_long (A : Option Addr) (n c : Nat) (at_ : Int) (w : World) (h : 100 < n) (hm : n ≤ 9223372036854775807) :
    Calls Try.prog 4 #[.slice A n c, .int .i64 at_] w fun e w' => e = .returned (.bool true) ∧ Below w.heap.size w w' := by
  have h1 : (100 : Int) < (n : Int) := by omega
  clear h
  go_enter Try.func4, Try.ntmps4
  go_wp2_with (first | (go_at_call 7; (with_reducible refine (alive_ok _).mono ?_); rintro e w1 ⟨rfl, hb1⟩; have HB1 := Aside0.mk hb1; clear hb1))
  first | go_ret | go_ret2 | ((try simp only [Exit.inBlock, Exit.then]); refine bodyPost_ret (results_tmp3 rfl _ _ _) rfl ?_) | go_end0
  exact ⟨rfl, HB1.out⟩
theorem walk (a0 : Option Addr) (len0 cap0 : Nat) (z0 : List (Int × Int × List Int)) (a1 : Int) (W : World) (w0 : IsEvs W a0 len0 cap0 z0) (_w1 : (Lit.int .i64 a1).wf = true) :
    Calls Try.prog 4 #[.slice a0 len0 cap0, .int .i64 a1] W fun e w' => e = .returned (.bool true) ∧ Below W.heap.size W w' := by
  rcases Nat.lt_or_ge 100 len0 with h | h
  · exact cuts_long a0 len0 cap0 a1 W h w0.max
  · exact cuts_in a0 len0 cap0 z0 a1 W w0 h

end Go.Proofs.Ytcgdnkgnknceiaa.HnCutsW
