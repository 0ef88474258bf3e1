/- Contract of the reference's Sessions. -/
import Derived.Test.YtcgdnkgnknceiaaHnT
namespace Go.Proofs.Ytcgdnkgnknceiaa.HnU
open Go.RowKit Go.Proofs.YtcgdnkgnknceiaaW.PrintWords Go.Proofs.YtcgdnkgnknceiaaW.PrintLast Go.Proofs.YtcgdnkgnknceiaaW.PrintMore Go.Proofs.Ytcgdnkgnknceiaa.K Go.Proofs.Ytcgdnkgnknceiaa.OpenC Go.Proofs.Ytcgdnkgnknceiaa.HnA Go.Proofs.Ytcgdnkgnknceiaa.HnB Go.Proofs.Ytcgdnkgnknceiaa.HnC Go.Proofs.Ytcgdnkgnknceiaa.HnD Go.Proofs.Ytcgdnkgnknceiaa.HnS Go.Proofs.Ytcgdnkgnknceiaa.HnT
set_option linter.unusedVariables false
set_option linter.unusedSimpArgs false
attribute [local go_sem] max2_int min2_int max_two min_two

set_option maxHeartbeats 8000000 in
set_option maxRecDepth 100000 in
theorem rsessions_ok (A1 : Option Addr) (n1 c1 : Nat) (heard : List (List (List Int))) (A2 : Option Addr) (n2 c2 : Nat) (said : List (List (List Int))) (w : World) (r1 : Grid3 w A1 n1 c1 heard) (r2 : Grid3 w A2 n2 c2 said) :
    Calls Try.prog 15 #[.slice A1 n1 c1, .slice A2 n2 c2] w fun e w' => e = .returned (.bool (sess heard said)) ∧ Below w.heap.size w w' := by
  have R1 := Aside0.mk r1
  have R2 := Aside0.mk r2
  have HN := Aside0.mk r1.len
  have HN2 := Aside0.mk r2.len
  have hcn := r1.cap
  have hmn := r1.max
  have hcn2 := r2.cap
  have hmn2 := r2.max
  clear r1 r2
  go_enter Try.func15, Try.ntmps15
  go_wp2
  go_loopg [5, 6] (n1 + 1) (fun kq v5 v6 w' => ∃ (i k : Nat), v5 = .int .i64 k ∧ v6 = .int .i64 i ∧ i ≤ n1 ∧ k ≤ n2 ∧ kq = n1 + 1 - i ∧ Aside0 (sess heard said = sess (heard.drop i) (said.drop k)) ∧ Aside0 (Below w.heap.size w w'))
  case atStart => exact ⟨0, 0, rfl, rfl, by omega, by omega, by omega, ⟨rfl⟩, ⟨Below.refl _ _⟩⟩
  case round =>
    obtain ⟨i, k0, rfl, rfl, hi, hk0, hkq, SS, B2⟩ := hrel
    by_cases hlt : i < n1
    · obtain ⟨x, ad, A3, n3, c3, hx, hA, hcell, hr⟩ := g3get R1.out i hlt
      cases hA
      have DC := Aside0.mk (HnT.drop_cons heard i x hx)
      have R3 := Aside0.mk hr
      have HC3 := Aside0.mk hcell
      have hc' := (B2.out.cell (World.block_lt_of_cell? w _ hcell)).trans hcell
      have L3 := Aside0.mk hr.len
      clear hr hx hcell
      by_cases h0 : n3 = 0
      · subst h0
        have GN : Aside0 (sess heard said = sess (heard.drop (i + 1)) (said.drop k0)) := ⟨by rw [SS.out, DC.out, sess_cons, if_pos (List.eq_nil_of_length_eq_zero L3.out.symm)]⟩
        go_wp2_with fail
        go_roundg (n1 - i)
        case measure => omega
        case rel => exact ⟨i + 1, k0, rfl, by go_num, by omega, hk0, by omega, GN, B2⟩
      · have b0 : (((n3 : Nat) : Int) == 0) = false := by simp; omega
        have GN := SS.out
        rw [DC.out, sess_cons, if_neg (fun e => h0 (by have := L3.out; rw [e] at this; simpa using this))] at GN
        have GN := Aside0.mk GN
        clear h0 SS
        go_wp2_with fail
        clear hc'
        go_loopg [5] (n2 + 1 - k0) (fun kq v5 w' => ∃ (k : Nat), v5 = .int .i64 k ∧ k ≤ n2 ∧ kq = n2 + 1 - k ∧ Aside0 (skip x (said.drop k0) = skip x (said.drop k)) ∧ Aside0 (Below w.heap.size w w'))
        case atStart => exact ⟨k0, rfl, hk0, by omega, ⟨rfl⟩, B2⟩
        case round =>
          obtain ⟨k, rfl, hk, hkq2, SK, B3⟩ := hrel
          by_cases hkl : k < n2
          · obtain ⟨y, ad2, A4, n4, c4, hy, hA2, hcell4, hr4⟩ := g3get R2.out k hkl
            cases hA2
            have DY := Aside0.mk (HnT.drop_cons said k y hy)
            have FX := Aside0.mk (fun w' (hb : Below wr.heap.size wr w') => ((below_step B3.out hb).cell (World.block_lt_of_cell? w _ HC3.out)).trans HC3.out)
            have FY := Aside0.mk (fun w' (hb : Below wr.heap.size wr w') => ((below_step B3.out hb).cell (World.block_lt_of_cell? w _ hcell4)).trans hcell4)
            have RB := Aside0.mk (fun w' (hb : Below wr.heap.size wr w') => rbegins_ok A3 n3 c3 x A4 n4 c4 y w' (R3.out.below (below_step B3.out hb)) (hr4.below (below_step B3.out hb)))
            have hkk : ((k : Nat) : Int) < ((n2 : Nat) : Int) := by omega
            have hii : ((i : Nat) : Int) < ((n1 : Nat) : Int) := by omega
            clear hcell4 hr4 hy
            cases hb : beginsB x y
            · rw [hb] at RB
              have SK2 : Aside0 (skip x (said.drop k0) = skip x (said.drop (k + 1))) := ⟨by rw [SK.out, DY.out, skip, if_neg (by rw [hb]; decide)]⟩
              clear hb
              go_wp2_with fail
              refine region_known 16 16 [?rcfalse6_0, ?rcfalse6_1, .int .i64 ((n2 : Nat) : Int), .bool true, .bool true, ?rcfalse6_5, ?rcfalse6_6, ?rcfalse6_7, .slice A3 n3 c3, ?rcfalse6_9, ?rcfalse6_10, ?rcfalse6_11, .slice A4 n4 c4, .bool false, .bool true, .bool true] (fun _ _ w' => Below wr.heap.size wr w') (by kernel_rfl) (by kernel_rfl) (by kernel_rfl) (fun _ _ w1 w2 hb hj => below_step hj hb) (Below.refl _ _) ?rgofalse6 ?rgrfalse6
              case rgofalse6 =>
                refine ⟨?_, ?_, ?_, ?_, ?_, ?_, ?_, ?_, ?_, ?_, ?_, ?_, ?_, ?_, ?_, ?_, trivial⟩
                · intro b1_ b2_ a_ w_ st x1_ x2_ y1_ y2_ hJ_
                  have e5 : a_.eval (.tmp 5) = .int .i64 ((k : Nat) : Int) := st.slot 5 (by kernel_rfl)
                  try simp only [List.getD_cons_zero, List.getD_cons_succ] at e5
                  refine op2_yield _ (by rfl) ?_ rfl (by decide) (by decide) hJ_
                  simp only [execOp, e5]
                  go_simp
                  all_goals first | with_reducible rfl | omega
                · intro b1_ b2_ a_ w_ st x1_ x2_ y1_ y2_ hJ_
                  have e1 : a_.eval (.tmp 1) = .slice (some ad2) n2 c2 := st.slot 1 (by kernel_rfl)
                  try simp only [List.getD_cons_zero, List.getD_cons_succ] at e1
                  refine op2_yield _ (by rfl) ?_ rfl (by decide) (by decide) hJ_
                  simp only [execOp, e1]
                  go_simp
                  all_goals first | with_reducible rfl | omega
                · intro b1_ b2_ a_ w_ st x1_ x2_ y1_ y2_ hJ_
                  have e20 : a_.eval (.tmp 20) = _ := st.dep 1 _ 20 rfl rfl (by kernel_rfl)
                  try simp only [List.getD_cons_zero, List.getD_cons_succ] at e20
                  refine op2_yield _ (by rfl) ?_ rfl (by decide) (by decide) hJ_
                  exact run_len Try.underlying30 (by rfl) e20 (by omega)
                · intro b1_ b2_ a_ w_ st x1_ x2_ y1_ y2_ hJ_
                  have e19 : a_.eval (.tmp 19) = _ := st.dep 0 _ 19 rfl rfl (by kernel_rfl)
                  have e21 : a_.eval (.tmp 21) = _ := st.dep 2 _ 21 rfl rfl (by kernel_rfl)
                  try simp only [List.getD_cons_zero, List.getD_cons_succ] at e19 e21
                  refine op2_yield _ (by rfl) ?_ rfl (by decide) (by decide) hJ_
                  simp only [execOp, e19, e21]
                  go_simp
                  all_goals first | with_reducible rfl | omega
                · intro b1_ b2_ a_ w_ st x1_ x2_ y1_ y2_ hJ_
                  have e22 : a_.eval (.tmp 22) = _ := st.dep 3 _ 22 rfl rfl (by kernel_rfl)
                  try simp only [List.getD_cons_zero, List.getD_cons_succ] at e22
                  refine op2_yield _ (by rfl) ?_ rfl (by decide) (by decide) hJ_
                  simp only [execOp, e22]
                  go_simp
                  all_goals first | with_reducible rfl | omega
                · intro b1_ b2_ a_ w_ st x1_ x2_ y1_ y2_ hJ_
                  have e0 : a_.eval (.tmp 0) = .slice (some ad) n1 c1 := st.slot 0 (by kernel_rfl)
                  have e23 : a_.eval (.tmp 23) = _ := st.dep 4 _ 23 rfl rfl (by kernel_rfl)
                  try simp only [List.getD_cons_zero, List.getD_cons_succ] at e0 e23
                  refine op2_yield _ (wanted_some rfl (st.yields 4 _ 23 rfl rfl (of_decide_eq_true (by kernel_rfl)) true e23)) ?_ rfl (by decide) (by decide) hJ_
                  simp only [execOp, e0, e23]
                  go_simp
                  all_goals first | with_reducible rfl | omega
                · intro b1_ b2_ a_ w_ st x1_ x2_ y1_ y2_ hJ_
                  have e6 : a_.eval (.tmp 6) = .int .i64 ((i : Nat) : Int) := st.slot 6 (by kernel_rfl)
                  have e23 : a_.eval (.tmp 23) = _ := st.dep 4 _ 23 rfl rfl (by kernel_rfl)
                  try simp only [List.getD_cons_zero, List.getD_cons_succ] at e6 e23
                  refine op2_yield _ (wanted_some rfl (st.yields 4 _ 23 rfl rfl (of_decide_eq_true (by kernel_rfl)) true e23)) ?_ rfl (by decide) (by decide) hJ_
                  simp only [execOp, e6, e23]
                  go_simp
                  all_goals first | with_reducible rfl | omega
                · intro b1_ b2_ a_ w_ st x1_ x2_ y1_ y2_ hJ_
                  have e24 : a_.eval (.tmp 24) = _ := st.dep 5 _ 24 rfl rfl (by kernel_rfl)
                  have e25 : a_.eval (.tmp 25) = _ := st.dep 6 _ 25 rfl rfl (by kernel_rfl)
                  have e23 : a_.eval (.tmp 23) = _ := st.dep 4 _ 23 rfl rfl (by kernel_rfl)
                  try simp only [List.getD_cons_zero, List.getD_cons_succ] at e24 e25 e23
                  refine op2_yield _ (wanted_some rfl (st.yields 4 _ 23 rfl rfl (of_decide_eq_true (by kernel_rfl)) true e23)) ?_ rfl (by decide) (by decide) hJ_
                  simp only [execOp, e24, e25, e23]
                  go_simp
                  all_goals first | with_reducible rfl | omega
                · intro b1_ b2_ a_ w_ st x1_ x2_ y1_ y2_ hJ_
                  have e26 : a_.eval (.tmp 26) = _ := st.dep 7 _ 26 rfl rfl (by kernel_rfl)
                  have e23 : a_.eval (.tmp 23) = _ := st.dep 4 _ 23 rfl rfl (by kernel_rfl)
                  try simp only [List.getD_cons_zero, List.getD_cons_succ] at e26 e23
                  have hc_ := FX.out w_ hJ_
                  refine op2_yield _ (wanted_some rfl (st.yields 4 _ 23 rfl rfl (of_decide_eq_true (by kernel_rfl)) true e23)) ?_ rfl (by decide) (by decide) hJ_
                  simp only [execOp, e26, e23]
                  go_simp
                  all_goals first | with_reducible rfl | omega
                · intro b1_ b2_ a_ w_ st x1_ x2_ y1_ y2_ hJ_
                  have e1 : a_.eval (.tmp 1) = .slice (some ad2) n2 c2 := st.slot 1 (by kernel_rfl)
                  have e23 : a_.eval (.tmp 23) = _ := st.dep 4 _ 23 rfl rfl (by kernel_rfl)
                  try simp only [List.getD_cons_zero, List.getD_cons_succ] at e1 e23
                  refine op2_yield _ (wanted_some rfl (st.yields 4 _ 23 rfl rfl (of_decide_eq_true (by kernel_rfl)) true e23)) ?_ rfl (by decide) (by decide) hJ_
                  simp only [execOp, e1, e23]
                  go_simp
                  all_goals first | with_reducible rfl | omega
                · intro b1_ b2_ a_ w_ st x1_ x2_ y1_ y2_ hJ_
                  have e5 : a_.eval (.tmp 5) = .int .i64 ((k : Nat) : Int) := st.slot 5 (by kernel_rfl)
                  have e23 : a_.eval (.tmp 23) = _ := st.dep 4 _ 23 rfl rfl (by kernel_rfl)
                  try simp only [List.getD_cons_zero, List.getD_cons_succ] at e5 e23
                  refine op2_yield _ (wanted_some rfl (st.yields 4 _ 23 rfl rfl (of_decide_eq_true (by kernel_rfl)) true e23)) ?_ rfl (by decide) (by decide) hJ_
                  simp only [execOp, e5, e23]
                  go_simp
                  all_goals first | with_reducible rfl | omega
                · intro b1_ b2_ a_ w_ st x1_ x2_ y1_ y2_ hJ_
                  have e28 : a_.eval (.tmp 28) = _ := st.dep 9 _ 28 rfl rfl (by kernel_rfl)
                  have e29 : a_.eval (.tmp 29) = _ := st.dep 10 _ 29 rfl rfl (by kernel_rfl)
                  have e23 : a_.eval (.tmp 23) = _ := st.dep 4 _ 23 rfl rfl (by kernel_rfl)
                  try simp only [List.getD_cons_zero, List.getD_cons_succ] at e28 e29 e23
                  refine op2_yield _ (wanted_some rfl (st.yields 4 _ 23 rfl rfl (of_decide_eq_true (by kernel_rfl)) true e23)) ?_ rfl (by decide) (by decide) hJ_
                  simp only [execOp, e28, e29, e23]
                  go_simp
                  all_goals first | with_reducible rfl | omega
                · intro b1_ b2_ a_ w_ st x1_ x2_ y1_ y2_ hJ_
                  have e30 : a_.eval (.tmp 30) = _ := st.dep 11 _ 30 rfl rfl (by kernel_rfl)
                  have e23 : a_.eval (.tmp 23) = _ := st.dep 4 _ 23 rfl rfl (by kernel_rfl)
                  try simp only [List.getD_cons_zero, List.getD_cons_succ] at e30 e23
                  have hc_ := FY.out w_ hJ_
                  refine op2_yield _ (wanted_some rfl (st.yields 4 _ 23 rfl rfl (of_decide_eq_true (by kernel_rfl)) true e23)) ?_ rfl (by decide) (by decide) hJ_
                  simp only [execOp, e30, e23]
                  go_simp
                  all_goals first | with_reducible rfl | omega
                · intro b1_ b2_ a_ w_ st x1_ x2_ y1_ y2_ hJ_
                  have e27 : a_.eval (.tmp 27) = _ := st.dep 8 _ 27 rfl rfl (by kernel_rfl)
                  have e31 : a_.eval (.tmp 31) = _ := st.dep 12 _ 31 rfl rfl (by kernel_rfl)
                  have e23 : a_.eval (.tmp 23) = _ := st.dep 4 _ 23 rfl rfl (by kernel_rfl)
                  try simp only [List.getD_cons_zero, List.getD_cons_succ] at e27 e31 e23
                  exact op2_call Try.func21 (by kernel_rfl) rfl #[.slice A3 n3 c3, .slice A4 n4 c4] (wanted_some rfl (st.yields 4 _ 23 rfl rfl (of_decide_eq_true (by kernel_rfl)) true e23)) rfl (by simp [e27, e31, e23]) (VC_stable _) (fun _ _ w1 w2 hb hj => below_step hj hb) (by decide) (by decide) hJ_ ((RB.out w_ hJ_).mono fun e w'' h => ⟨_, h.1, h.2, rfl⟩)
                · intro b1_ b2_ a_ w_ st x1_ x2_ y1_ y2_ hJ_
                  have e32 : a_.eval (.tmp 32) = _ := st.dep 13 _ 32 rfl rfl (by kernel_rfl)
                  have e23 : a_.eval (.tmp 23) = _ := st.dep 4 _ 23 rfl rfl (by kernel_rfl)
                  try simp only [List.getD_cons_zero, List.getD_cons_succ] at e32 e23
                  refine op2_yield _ (wanted_some rfl (st.yields 4 _ 23 rfl rfl (of_decide_eq_true (by kernel_rfl)) true e23)) ?_ rfl (by decide) (by decide) hJ_
                  simp only [execOp, e32, e23]
                  go_simp
                  all_goals first | with_reducible rfl | omega
                · intro b1_ b2_ a_ w_ st x1_ x2_ y1_ y2_ hJ_
                  have e23 : a_.eval (.tmp 23) = _ := st.dep 4 _ 23 rfl rfl (by kernel_rfl)
                  have e33 : a_.eval (.tmp 33) = _ := st.dep 14 _ 33 rfl rfl (by kernel_rfl)
                  try simp only [List.getD_cons_zero, List.getD_cons_succ] at e23 e33
                  refine op2_yield _ (by rfl) ?_ rfl (by decide) (by decide) hJ_
                  simp only [execOp, e23, e33]
                  go_simp
                  all_goals first | with_reducible rfl | omega
              case rgrfalse6 =>
                intro w7 hj7
                have hj7 := (show Below wr.heap.size wr w7 from hj7)
                simp only [putL, Act.put, List.headD_cons, List.tail_cons, List.setIfInBounds_toArray, List.set_cons_zero, List.set_cons_succ]
                have B7 := Aside0.mk (below_step B3.out hj7)
                clear hj7
                go_wp2_with fail
                go_roundg (n2 - k)
                case measure => omega
                case rel => exact ⟨k + 1, by go_num, by omega, by omega, SK2, B7⟩
            · rw [hb] at RB
              have GN2 : Aside0 (sess heard said = sess (heard.drop (i + 1)) (said.drop (k + 1))) := ⟨by rw [GN.out, SK.out, DY.out, skip, if_pos hb]⟩
              have b1 : (((k : Nat) : Int) == ((n2 : Nat) : Int)) = false := by simp; omega
              clear hb
              go_wp2_with fail
              refine region_known 16 16 [?rctrue6_0, ?rctrue6_1, .int .i64 ((n2 : Nat) : Int), .bool true, .bool true, ?rctrue6_5, ?rctrue6_6, ?rctrue6_7, .slice A3 n3 c3, ?rctrue6_9, ?rctrue6_10, ?rctrue6_11, .slice A4 n4 c4, .bool true, .bool false, .bool false] (fun _ _ w' => Below wr.heap.size wr w') (by kernel_rfl) (by kernel_rfl) (by kernel_rfl) (fun _ _ w1 w2 hb hj => below_step hj hb) (Below.refl _ _) ?rgotrue6 ?rgrtrue6
              case rgotrue6 =>
                refine ⟨?_, ?_, ?_, ?_, ?_, ?_, ?_, ?_, ?_, ?_, ?_, ?_, ?_, ?_, ?_, ?_, trivial⟩
                · intro b1_ b2_ a_ w_ st x1_ x2_ y1_ y2_ hJ_
                  have e5 : a_.eval (.tmp 5) = .int .i64 ((k : Nat) : Int) := st.slot 5 (by kernel_rfl)
                  try simp only [List.getD_cons_zero, List.getD_cons_succ] at e5
                  refine op2_yield _ (by rfl) ?_ rfl (by decide) (by decide) hJ_
                  simp only [execOp, e5]
                  go_simp
                  all_goals first | with_reducible rfl | omega
                · intro b1_ b2_ a_ w_ st x1_ x2_ y1_ y2_ hJ_
                  have e1 : a_.eval (.tmp 1) = .slice (some ad2) n2 c2 := st.slot 1 (by kernel_rfl)
                  try simp only [List.getD_cons_zero, List.getD_cons_succ] at e1
                  refine op2_yield _ (by rfl) ?_ rfl (by decide) (by decide) hJ_
                  simp only [execOp, e1]
                  go_simp
                  all_goals first | with_reducible rfl | omega
                · intro b1_ b2_ a_ w_ st x1_ x2_ y1_ y2_ hJ_
                  have e20 : a_.eval (.tmp 20) = _ := st.dep 1 _ 20 rfl rfl (by kernel_rfl)
                  try simp only [List.getD_cons_zero, List.getD_cons_succ] at e20
                  refine op2_yield _ (by rfl) ?_ rfl (by decide) (by decide) hJ_
                  exact run_len Try.underlying30 (by rfl) e20 (by omega)
                · intro b1_ b2_ a_ w_ st x1_ x2_ y1_ y2_ hJ_
                  have e19 : a_.eval (.tmp 19) = _ := st.dep 0 _ 19 rfl rfl (by kernel_rfl)
                  have e21 : a_.eval (.tmp 21) = _ := st.dep 2 _ 21 rfl rfl (by kernel_rfl)
                  try simp only [List.getD_cons_zero, List.getD_cons_succ] at e19 e21
                  refine op2_yield _ (by rfl) ?_ rfl (by decide) (by decide) hJ_
                  simp only [execOp, e19, e21]
                  go_simp
                  all_goals first | with_reducible rfl | omega
                · intro b1_ b2_ a_ w_ st x1_ x2_ y1_ y2_ hJ_
                  have e22 : a_.eval (.tmp 22) = _ := st.dep 3 _ 22 rfl rfl (by kernel_rfl)
                  try simp only [List.getD_cons_zero, List.getD_cons_succ] at e22
                  refine op2_yield _ (by rfl) ?_ rfl (by decide) (by decide) hJ_
                  simp only [execOp, e22]
                  go_simp
                  all_goals first | with_reducible rfl | omega
                · intro b1_ b2_ a_ w_ st x1_ x2_ y1_ y2_ hJ_
                  have e0 : a_.eval (.tmp 0) = .slice (some ad) n1 c1 := st.slot 0 (by kernel_rfl)
                  have e23 : a_.eval (.tmp 23) = _ := st.dep 4 _ 23 rfl rfl (by kernel_rfl)
                  try simp only [List.getD_cons_zero, List.getD_cons_succ] at e0 e23
                  refine op2_yield _ (wanted_some rfl (st.yields 4 _ 23 rfl rfl (of_decide_eq_true (by kernel_rfl)) true e23)) ?_ rfl (by decide) (by decide) hJ_
                  simp only [execOp, e0, e23]
                  go_simp
                  all_goals first | with_reducible rfl | omega
                · intro b1_ b2_ a_ w_ st x1_ x2_ y1_ y2_ hJ_
                  have e6 : a_.eval (.tmp 6) = .int .i64 ((i : Nat) : Int) := st.slot 6 (by kernel_rfl)
                  have e23 : a_.eval (.tmp 23) = _ := st.dep 4 _ 23 rfl rfl (by kernel_rfl)
                  try simp only [List.getD_cons_zero, List.getD_cons_succ] at e6 e23
                  refine op2_yield _ (wanted_some rfl (st.yields 4 _ 23 rfl rfl (of_decide_eq_true (by kernel_rfl)) true e23)) ?_ rfl (by decide) (by decide) hJ_
                  simp only [execOp, e6, e23]
                  go_simp
                  all_goals first | with_reducible rfl | omega
                · intro b1_ b2_ a_ w_ st x1_ x2_ y1_ y2_ hJ_
                  have e24 : a_.eval (.tmp 24) = _ := st.dep 5 _ 24 rfl rfl (by kernel_rfl)
                  have e25 : a_.eval (.tmp 25) = _ := st.dep 6 _ 25 rfl rfl (by kernel_rfl)
                  have e23 : a_.eval (.tmp 23) = _ := st.dep 4 _ 23 rfl rfl (by kernel_rfl)
                  try simp only [List.getD_cons_zero, List.getD_cons_succ] at e24 e25 e23
                  refine op2_yield _ (wanted_some rfl (st.yields 4 _ 23 rfl rfl (of_decide_eq_true (by kernel_rfl)) true e23)) ?_ rfl (by decide) (by decide) hJ_
                  simp only [execOp, e24, e25, e23]
                  go_simp
                  all_goals first | with_reducible rfl | omega
                · intro b1_ b2_ a_ w_ st x1_ x2_ y1_ y2_ hJ_
                  have e26 : a_.eval (.tmp 26) = _ := st.dep 7 _ 26 rfl rfl (by kernel_rfl)
                  have e23 : a_.eval (.tmp 23) = _ := st.dep 4 _ 23 rfl rfl (by kernel_rfl)
                  try simp only [List.getD_cons_zero, List.getD_cons_succ] at e26 e23
                  have hc_ := FX.out w_ hJ_
                  refine op2_yield _ (wanted_some rfl (st.yields 4 _ 23 rfl rfl (of_decide_eq_true (by kernel_rfl)) true e23)) ?_ rfl (by decide) (by decide) hJ_
                  simp only [execOp, e26, e23]
                  go_simp
                  all_goals first | with_reducible rfl | omega
                · intro b1_ b2_ a_ w_ st x1_ x2_ y1_ y2_ hJ_
                  have e1 : a_.eval (.tmp 1) = .slice (some ad2) n2 c2 := st.slot 1 (by kernel_rfl)
                  have e23 : a_.eval (.tmp 23) = _ := st.dep 4 _ 23 rfl rfl (by kernel_rfl)
                  try simp only [List.getD_cons_zero, List.getD_cons_succ] at e1 e23
                  refine op2_yield _ (wanted_some rfl (st.yields 4 _ 23 rfl rfl (of_decide_eq_true (by kernel_rfl)) true e23)) ?_ rfl (by decide) (by decide) hJ_
                  simp only [execOp, e1, e23]
                  go_simp
                  all_goals first | with_reducible rfl | omega
                · intro b1_ b2_ a_ w_ st x1_ x2_ y1_ y2_ hJ_
                  have e5 : a_.eval (.tmp 5) = .int .i64 ((k : Nat) : Int) := st.slot 5 (by kernel_rfl)
                  have e23 : a_.eval (.tmp 23) = _ := st.dep 4 _ 23 rfl rfl (by kernel_rfl)
                  try simp only [List.getD_cons_zero, List.getD_cons_succ] at e5 e23
                  refine op2_yield _ (wanted_some rfl (st.yields 4 _ 23 rfl rfl (of_decide_eq_true (by kernel_rfl)) true e23)) ?_ rfl (by decide) (by decide) hJ_
                  simp only [execOp, e5, e23]
                  go_simp
                  all_goals first | with_reducible rfl | omega
                · intro b1_ b2_ a_ w_ st x1_ x2_ y1_ y2_ hJ_
                  have e28 : a_.eval (.tmp 28) = _ := st.dep 9 _ 28 rfl rfl (by kernel_rfl)
                  have e29 : a_.eval (.tmp 29) = _ := st.dep 10 _ 29 rfl rfl (by kernel_rfl)
                  have e23 : a_.eval (.tmp 23) = _ := st.dep 4 _ 23 rfl rfl (by kernel_rfl)
                  try simp only [List.getD_cons_zero, List.getD_cons_succ] at e28 e29 e23
                  refine op2_yield _ (wanted_some rfl (st.yields 4 _ 23 rfl rfl (of_decide_eq_true (by kernel_rfl)) true e23)) ?_ rfl (by decide) (by decide) hJ_
                  simp only [execOp, e28, e29, e23]
                  go_simp
                  all_goals first | with_reducible rfl | omega
                · intro b1_ b2_ a_ w_ st x1_ x2_ y1_ y2_ hJ_
                  have e30 : a_.eval (.tmp 30) = _ := st.dep 11 _ 30 rfl rfl (by kernel_rfl)
                  have e23 : a_.eval (.tmp 23) = _ := st.dep 4 _ 23 rfl rfl (by kernel_rfl)
                  try simp only [List.getD_cons_zero, List.getD_cons_succ] at e30 e23
                  have hc_ := FY.out w_ hJ_
                  refine op2_yield _ (wanted_some rfl (st.yields 4 _ 23 rfl rfl (of_decide_eq_true (by kernel_rfl)) true e23)) ?_ rfl (by decide) (by decide) hJ_
                  simp only [execOp, e30, e23]
                  go_simp
                  all_goals first | with_reducible rfl | omega
                · intro b1_ b2_ a_ w_ st x1_ x2_ y1_ y2_ hJ_
                  have e27 : a_.eval (.tmp 27) = _ := st.dep 8 _ 27 rfl rfl (by kernel_rfl)
                  have e31 : a_.eval (.tmp 31) = _ := st.dep 12 _ 31 rfl rfl (by kernel_rfl)
                  have e23 : a_.eval (.tmp 23) = _ := st.dep 4 _ 23 rfl rfl (by kernel_rfl)
                  try simp only [List.getD_cons_zero, List.getD_cons_succ] at e27 e31 e23
                  exact op2_call Try.func21 (by kernel_rfl) rfl #[.slice A3 n3 c3, .slice A4 n4 c4] (wanted_some rfl (st.yields 4 _ 23 rfl rfl (of_decide_eq_true (by kernel_rfl)) true e23)) rfl (by simp [e27, e31, e23]) (VC_stable _) (fun _ _ w1 w2 hb hj => below_step hj hb) (by decide) (by decide) hJ_ ((RB.out w_ hJ_).mono fun e w'' h => ⟨_, h.1, h.2, rfl⟩)
                · intro b1_ b2_ a_ w_ st x1_ x2_ y1_ y2_ hJ_
                  have e32 : a_.eval (.tmp 32) = _ := st.dep 13 _ 32 rfl rfl (by kernel_rfl)
                  have e23 : a_.eval (.tmp 23) = _ := st.dep 4 _ 23 rfl rfl (by kernel_rfl)
                  try simp only [List.getD_cons_zero, List.getD_cons_succ] at e32 e23
                  refine op2_yield _ (wanted_some rfl (st.yields 4 _ 23 rfl rfl (of_decide_eq_true (by kernel_rfl)) true e23)) ?_ rfl (by decide) (by decide) hJ_
                  simp only [execOp, e32, e23]
                  go_simp
                  all_goals first | with_reducible rfl | omega
                · intro b1_ b2_ a_ w_ st x1_ x2_ y1_ y2_ hJ_
                  have e23 : a_.eval (.tmp 23) = _ := st.dep 4 _ 23 rfl rfl (by kernel_rfl)
                  have e33 : a_.eval (.tmp 33) = _ := st.dep 14 _ 33 rfl rfl (by kernel_rfl)
                  try simp only [List.getD_cons_zero, List.getD_cons_succ] at e23 e33
                  refine op2_yield _ (by rfl) ?_ rfl (by decide) (by decide) hJ_
                  simp only [execOp, e23, e33]
                  go_simp
                  all_goals first | with_reducible rfl | omega
              case rgrtrue6 =>
                intro w7 hj7
                have hj7 := (show Below wr.heap.size wr w7 from hj7)
                simp only [putL, Act.put, List.headD_cons, List.tail_cons, List.setIfInBounds_toArray, List.set_cons_zero, List.set_cons_succ]
                have B7 := Aside0.mk (below_step B3.out hj7)
                clear hj7
                go_wp2_with fail
                go_roundg (n1 - i)
                case measure => omega
                case rel => exact ⟨i + 1, k + 1, by go_num, by go_num, by omega, by omega, by omega, GN2, B7⟩
          · have hk2 : k = n2 := by omega
            subst hk2
            have GN2 : Aside0 (sess heard said = false) := ⟨by rw [GN.out, SK.out, List.drop_eq_nil_of_le (by have := HN2.out; omega)]; rfl⟩
            go_wp2_with fail
            refine region_known 16 16 [?rcn6_0, ?rcn6_1, .int .i64 ((k : Nat) : Int), .bool false, .bool false, undef, undef, undef, undef, undef, undef, undef, undef, undef, undef, .bool false] (fun _ _ w' => Below wr.heap.size wr w') (by kernel_rfl) (by kernel_rfl) (by kernel_rfl) (fun _ _ w1 w2 hb hj => below_step hj hb) (Below.refl _ _) ?rgon6 ?rgrn6
            case rgon6 =>
              refine ⟨?_, ?_, ?_, ?_, ?_, ?_, ?_, ?_, ?_, ?_, ?_, ?_, ?_, ?_, ?_, ?_, trivial⟩
              · intro b1_ b2_ a_ w_ st x1_ x2_ y1_ y2_ hJ_
                have e5 : a_.eval (.tmp 5) = .int .i64 ((k : Nat) : Int) := st.slot 5 (by kernel_rfl)
                try simp only [List.getD_cons_zero, List.getD_cons_succ] at e5
                refine op2_yield _ (by rfl) ?_ rfl (by decide) (by decide) hJ_
                simp only [execOp, e5]
                go_simp
                all_goals first | with_reducible rfl | omega
              · intro b1_ b2_ a_ w_ st x1_ x2_ y1_ y2_ hJ_
                have e1 : a_.eval (.tmp 1) = .slice A2 k c2 := st.slot 1 (by kernel_rfl)
                try simp only [List.getD_cons_zero, List.getD_cons_succ] at e1
                refine op2_yield _ (by rfl) ?_ rfl (by decide) (by decide) hJ_
                simp only [execOp, e1]
                go_simp
                all_goals first | with_reducible rfl | omega
              · intro b1_ b2_ a_ w_ st x1_ x2_ y1_ y2_ hJ_
                have e20 : a_.eval (.tmp 20) = _ := st.dep 1 _ 20 rfl rfl (by kernel_rfl)
                try simp only [List.getD_cons_zero, List.getD_cons_succ] at e20
                refine op2_yield _ (by rfl) ?_ rfl (by decide) (by decide) hJ_
                exact run_len Try.underlying30 (by rfl) e20 (by omega)
              · intro b1_ b2_ a_ w_ st x1_ x2_ y1_ y2_ hJ_
                have e19 : a_.eval (.tmp 19) = _ := st.dep 0 _ 19 rfl rfl (by kernel_rfl)
                have e21 : a_.eval (.tmp 21) = _ := st.dep 2 _ 21 rfl rfl (by kernel_rfl)
                try simp only [List.getD_cons_zero, List.getD_cons_succ] at e19 e21
                refine op2_yield _ (by rfl) ?_ rfl (by decide) (by decide) hJ_
                simp only [execOp, e19, e21]
                go_simp
                all_goals first | with_reducible rfl | omega
              · intro b1_ b2_ a_ w_ st x1_ x2_ y1_ y2_ hJ_
                have e22 : a_.eval (.tmp 22) = _ := st.dep 3 _ 22 rfl rfl (by kernel_rfl)
                try simp only [List.getD_cons_zero, List.getD_cons_succ] at e22
                refine op2_yield _ (by rfl) ?_ rfl (by decide) (by decide) hJ_
                simp only [execOp, e22]
                go_simp
                all_goals first | with_reducible rfl | omega
              · intro b1_ b2_ a_ w_ st x1_ x2_ y1_ y2_ hJ_
                have e0 : a_.eval (.tmp 0) = .slice (some ad) n1 c1 := st.slot 0 (by kernel_rfl)
                have e23 : a_.eval (.tmp 23) = _ := st.dep 4 _ 23 rfl rfl (by kernel_rfl)
                try simp only [List.getD_cons_zero, List.getD_cons_succ] at e0 e23
                exact op2_skip (wanted_not rfl (st.yields 4 _ 23 rfl rfl (of_decide_eq_true (by kernel_rfl)) false e23)) rfl (by decide) (by decide) hJ_
              · intro b1_ b2_ a_ w_ st x1_ x2_ y1_ y2_ hJ_
                have e6 : a_.eval (.tmp 6) = .int .i64 ((i : Nat) : Int) := st.slot 6 (by kernel_rfl)
                have e23 : a_.eval (.tmp 23) = _ := st.dep 4 _ 23 rfl rfl (by kernel_rfl)
                try simp only [List.getD_cons_zero, List.getD_cons_succ] at e6 e23
                exact op2_skip (wanted_not rfl (st.yields 4 _ 23 rfl rfl (of_decide_eq_true (by kernel_rfl)) false e23)) rfl (by decide) (by decide) hJ_
              · intro b1_ b2_ a_ w_ st x1_ x2_ y1_ y2_ hJ_
                have e24 : a_.eval (.tmp 24) = _ := st.dep 5 _ 24 rfl rfl (by kernel_rfl)
                have e25 : a_.eval (.tmp 25) = _ := st.dep 6 _ 25 rfl rfl (by kernel_rfl)
                have e23 : a_.eval (.tmp 23) = _ := st.dep 4 _ 23 rfl rfl (by kernel_rfl)
                try simp only [List.getD_cons_zero, List.getD_cons_succ] at e24 e25 e23
                exact op2_skip (wanted_not rfl (st.yields 4 _ 23 rfl rfl (of_decide_eq_true (by kernel_rfl)) false e23)) rfl (by decide) (by decide) hJ_
              · intro b1_ b2_ a_ w_ st x1_ x2_ y1_ y2_ hJ_
                have e26 : a_.eval (.tmp 26) = _ := st.dep 7 _ 26 rfl rfl (by kernel_rfl)
                have e23 : a_.eval (.tmp 23) = _ := st.dep 4 _ 23 rfl rfl (by kernel_rfl)
                try simp only [List.getD_cons_zero, List.getD_cons_succ] at e26 e23
                exact op2_skip (wanted_not rfl (st.yields 4 _ 23 rfl rfl (of_decide_eq_true (by kernel_rfl)) false e23)) rfl (by decide) (by decide) hJ_
              · intro b1_ b2_ a_ w_ st x1_ x2_ y1_ y2_ hJ_
                have e1 : a_.eval (.tmp 1) = .slice A2 k c2 := st.slot 1 (by kernel_rfl)
                have e23 : a_.eval (.tmp 23) = _ := st.dep 4 _ 23 rfl rfl (by kernel_rfl)
                try simp only [List.getD_cons_zero, List.getD_cons_succ] at e1 e23
                exact op2_skip (wanted_not rfl (st.yields 4 _ 23 rfl rfl (of_decide_eq_true (by kernel_rfl)) false e23)) rfl (by decide) (by decide) hJ_
              · intro b1_ b2_ a_ w_ st x1_ x2_ y1_ y2_ hJ_
                have e5 : a_.eval (.tmp 5) = .int .i64 ((k : Nat) : Int) := st.slot 5 (by kernel_rfl)
                have e23 : a_.eval (.tmp 23) = _ := st.dep 4 _ 23 rfl rfl (by kernel_rfl)
                try simp only [List.getD_cons_zero, List.getD_cons_succ] at e5 e23
                exact op2_skip (wanted_not rfl (st.yields 4 _ 23 rfl rfl (of_decide_eq_true (by kernel_rfl)) false e23)) rfl (by decide) (by decide) hJ_
              · intro b1_ b2_ a_ w_ st x1_ x2_ y1_ y2_ hJ_
                have e28 : a_.eval (.tmp 28) = _ := st.dep 9 _ 28 rfl rfl (by kernel_rfl)
                have e29 : a_.eval (.tmp 29) = _ := st.dep 10 _ 29 rfl rfl (by kernel_rfl)
                have e23 : a_.eval (.tmp 23) = _ := st.dep 4 _ 23 rfl rfl (by kernel_rfl)
                try simp only [List.getD_cons_zero, List.getD_cons_succ] at e28 e29 e23
                exact op2_skip (wanted_not rfl (st.yields 4 _ 23 rfl rfl (of_decide_eq_true (by kernel_rfl)) false e23)) rfl (by decide) (by decide) hJ_
              · intro b1_ b2_ a_ w_ st x1_ x2_ y1_ y2_ hJ_
                have e30 : a_.eval (.tmp 30) = _ := st.dep 11 _ 30 rfl rfl (by kernel_rfl)
                have e23 : a_.eval (.tmp 23) = _ := st.dep 4 _ 23 rfl rfl (by kernel_rfl)
                try simp only [List.getD_cons_zero, List.getD_cons_succ] at e30 e23
                exact op2_skip (wanted_not rfl (st.yields 4 _ 23 rfl rfl (of_decide_eq_true (by kernel_rfl)) false e23)) rfl (by decide) (by decide) hJ_
              · intro b1_ b2_ a_ w_ st x1_ x2_ y1_ y2_ hJ_
                have e27 : a_.eval (.tmp 27) = _ := st.dep 8 _ 27 rfl rfl (by kernel_rfl)
                have e31 : a_.eval (.tmp 31) = _ := st.dep 12 _ 31 rfl rfl (by kernel_rfl)
                have e23 : a_.eval (.tmp 23) = _ := st.dep 4 _ 23 rfl rfl (by kernel_rfl)
                try simp only [List.getD_cons_zero, List.getD_cons_succ] at e27 e31 e23
                exact op2_skip (wanted_not rfl (st.yields 4 _ 23 rfl rfl (of_decide_eq_true (by kernel_rfl)) false e23)) rfl (by decide) (by decide) hJ_
              · intro b1_ b2_ a_ w_ st x1_ x2_ y1_ y2_ hJ_
                have e32 : a_.eval (.tmp 32) = _ := st.dep 13 _ 32 rfl rfl (by kernel_rfl)
                have e23 : a_.eval (.tmp 23) = _ := st.dep 4 _ 23 rfl rfl (by kernel_rfl)
                try simp only [List.getD_cons_zero, List.getD_cons_succ] at e32 e23
                exact op2_skip (wanted_not rfl (st.yields 4 _ 23 rfl rfl (of_decide_eq_true (by kernel_rfl)) false e23)) rfl (by decide) (by decide) hJ_
              · intro b1_ b2_ a_ w_ st x1_ x2_ y1_ y2_ hJ_
                have e23 : a_.eval (.tmp 23) = _ := st.dep 4 _ 23 rfl rfl (by kernel_rfl)
                have e33 : a_.eval (.tmp 33) = _ := st.dep 14 _ 33 rfl rfl (by kernel_rfl)
                try simp only [List.getD_cons_zero, List.getD_cons_succ] at e23 e33
                refine op2_yield _ (by rfl) ?_ rfl (by decide) (by decide) hJ_
                simp only [execOp, e23, e33]
                go_simp
                all_goals first | with_reducible rfl | omega
            case rgrn6 =>
              intro w7 hj7
              have hj7 := (show Below wr.heap.size wr w7 from hj7)
              simp only [putL, Act.put, List.headD_cons, List.tail_cons, List.setIfInBounds_toArray, List.set_cons_zero, List.set_cons_succ]
              have B7 := Aside0.mk (below_step B3.out hj7)
              clear hj7
              go_wp2_with fail
              first | go_ret | go_ret2 | ((try simp only [Exit.inBlock, Exit.then]); refine bodyPost_ret (results_tmp3 rfl _ _ _) rfl ?_) | go_end0
              exact ⟨by rw [GN2.out]; rfl, B7.out⟩
    · have hi2 : i = n1 := by omega
      subst hi2
      have GN : Aside0 (sess heard said = true) := ⟨by rw [SS.out, List.drop_eq_nil_of_le (by have := HN.out; omega)]; rfl⟩
      clear SS
      go_wp2_with fail
      first | go_ret | go_ret2 | ((try simp only [Exit.inBlock, Exit.then]); refine bodyPost_ret (results_tmp3 rfl _ _ _) rfl ?_) | go_end0
      exact ⟨by rw [GN.out]; rfl, B2.out⟩

end Go.Proofs.Ytcgdnkgnknceiaa.HnU
