/- Contract of the reference's Part; SameLists. -/
import Derived.Test.YtcgdnkgnknceiaaHnB
namespace Go.Proofs.Ytcgdnkgnknceiaa.HnC
open Go.RowKit Go.Proofs.YtcgdnkgnknceiaaW.PrintWords Go.Proofs.YtcgdnkgnknceiaaW.PrintLast Go.Proofs.YtcgdnkgnknceiaaW.PrintMore Go.Proofs.Ytcgdnkgnknceiaa.K Go.Proofs.Ytcgdnkgnknceiaa.OpenC Go.Proofs.Ytcgdnkgnknceiaa.HnA Go.Proofs.Ytcgdnkgnknceiaa.HnB
set_option linter.unusedVariables false
set_option linter.unusedSimpArgs false
attribute [local go_sem] max2_int min2_int max_two min_two

theorem drop_cons {α : Type} (l : List α) (k : Nat) (y : α) (h : l[k]? = some y) : l.drop k = y :: l.drop (k + 1) := by
  obtain ⟨hk, e⟩ := List.getElem?_eq_some_iff.1 h
  rw [List.drop_eq_getElem_cons hk, e]
theorem rem_take (g s : List (List Int)) (i : Nat) (h : rem g (s.take i) = []) : rem g s = [] := by
  have e := List.take_append_drop i s
  rw [← e, rem, List.foldl_append]
  show rem (rem g (s.take i)) (s.drop i) = []
  rw [h, rem_nil]
set_option maxHeartbeats 8000000 in
set_option maxRecDepth 100000 in
theorem rpart_ok (A1 : Option Addr) (n1 c1 : Nat) (g : List (List Int)) (A2 : Option Addr) (n2 c2 : Nat) (s : List (List Int)) (w : World) (r1 : Grid w A1 n1 c1 g) (r2 : Grid w A2 n2 c2 s) :
    Calls Try.prog 10 #[.slice A1 n1 c1, .slice A2 n2 c2] w fun e w' => e = .returned (.bool (partB g s)) ∧ Below w.heap.size w w' := by
  have R1 := Aside0.mk r1
  have R2 := Aside0.mk r2
  have HN1 := Aside0.mk r1.len
  have HN2 := Aside0.mk r2.len
  have hcn := r2.cap
  have hmn := r2.max
  have hcn1 := r1.cap
  have hmn1 := r1.max
  clear r1 r2
  go_enter Try.func10, Try.ntmps10
  go_wp2
  go_loopg [5, 6] (n2 + 1) (fun kq v5 v6 w' => ∃ (i k : Nat), v5 = .int .i64 k ∧ v6 = .int .i64 i ∧ i ≤ n2 ∧ k ≤ n1 ∧ kq = n2 + 1 - i ∧ Aside0 (rem g (s.take i) = g.drop k) ∧ Aside0 (Below w.heap.size w w'))
  case atStart => exact ⟨0, 0, rfl, rfl, by omega, by omega, by omega, ⟨rfl⟩, ⟨Below.refl _ _⟩⟩
  case round =>
    obtain ⟨i, k, rfl, rfl, hi, hk, hkq, GG, BB⟩ := hrel
    by_cases hlt : i < n2
    · by_cases hkl : k < n1
      · obtain ⟨x, ad, A3, n3, c3, hx, hA, hc, hr, ho, hm⟩ := gget R2.out i hlt
        cases hA
        obtain ⟨y, ad2, A4, n4, c4, hy, hA2, hc4, hr4, ho4, hm4⟩ := gget R1.out k hkl
        cases hA2
        have TS := Aside0.mk (take_sg s i x hx)
        have GD := Aside0.mk (drop_cons g k y hy)
        have FX := Aside0.mk (fun w' (hb : Below wr.heap.size wr w') => ((below_step BB.out hb).cell (World.block_lt_of_cell? w _ hc)).trans hc)
        have FY := Aside0.mk (fun w' (hb : Below wr.heap.size wr w') => ((below_step BB.out hb).cell (World.block_lt_of_cell? w _ hc4)).trans hc4)
        have CX := Aside0.mk (fun w' (hb : Below wr.heap.size wr w') => conv26 A3 n3 c3 x w' (hr.below (below_step BB.out hb)))
        have CY := Aside0.mk (fun w' (hb : Below wr.heap.size wr w') => conv26 A4 n4 c4 y w' (hr4.below (below_step BB.out hb)))
        have INJ := Aside0.mk (fun h : (strOfNums x).toList = (strOfNums y).toList => str_inj ho ho4 h)
        have hii : ((i : Nat) : Int) < ((n2 : Nat) : Int) := by omega
        have hkk : ((k : Nat) : Int) < ((n1 : Nat) : Int) := by omega
        have GS := Aside0.mk (show rem g (s.take (i + 1)) = remStep (y :: g.drop (k + 1)) x by rw [TS.out, rem_snoc, GG.out, GD.out])
        clear hc hr ho hx hc4 hr4 ho4 hy
        by_cases he : x = y
        · subst he
          have GN : Aside0 (rem g (s.take (i + 1)) = g.drop (k + 1)) := ⟨by rw [GS.out, remStep]; simp⟩
          go_wp2_with fail
          refine region_known 11 11 [?rct5_0, ?rct5_1, ?rct5_2, .slice A3 n3 c3, .string (strOfNums x), ?rct5_5, ?rct5_6, ?rct5_7, .slice A4 n4 c4, .string (strOfNums x), .bool true] (fun _ _ w' => Below wr.heap.size wr w') (by kernel_rfl) (by kernel_rfl) (by kernel_rfl) (fun _ _ w1 w2 hb hj => below_step hj hb) (Below.refl _ _) ?rgot5 ?rgrt5
          case rgot5 =>
            refine ⟨?_, ?_, ?_, ?_, ?_, ?_, ?_, ?_, ?_, ?_, ?_, trivial⟩
            · intro b1_ b2_ a_ w_ st x1_ x2_ y1_ y2_ hJ_
              have e1 : a_.eval (.tmp 1) = .slice (some ad) n2 c2 := st.slot 1 (by kernel_rfl)
              try simp only [List.getD_cons_zero, List.getD_cons_succ] at e1
              refine op2_yield _ (by rfl) ?_ rfl (by decide) (by decide) hJ_
              simp only [execOp, e1]
              go_simp
              all_goals first | with_reducible rfl | omega
            · intro b1_ b2_ a_ w_ st x1_ x2_ y1_ y2_ hJ_
              have e6 : a_.eval (.tmp 6) = .int .i64 ((i : Nat) : Int) := st.slot 6 (by kernel_rfl)
              try simp only [List.getD_cons_zero, List.getD_cons_succ] at e6
              refine op2_yield _ (by rfl) ?_ rfl (by decide) (by decide) hJ_
              simp only [execOp, e6]
              go_simp
              all_goals first | with_reducible rfl | omega
            · intro b1_ b2_ a_ w_ st x1_ x2_ y1_ y2_ hJ_
              have e19 : a_.eval (.tmp 19) = _ := st.dep 0 _ 19 rfl rfl (by kernel_rfl)
              have e20 : a_.eval (.tmp 20) = _ := st.dep 1 _ 20 rfl rfl (by kernel_rfl)
              try simp only [List.getD_cons_zero, List.getD_cons_succ] at e19 e20
              refine op2_yield _ (by rfl) ?_ rfl (by decide) (by decide) hJ_
              simp only [execOp, e19, e20]
              go_simp
              all_goals first | with_reducible rfl | omega
            · intro b1_ b2_ a_ w_ st x1_ x2_ y1_ y2_ hJ_
              have e21 : a_.eval (.tmp 21) = _ := st.dep 2 _ 21 rfl rfl (by kernel_rfl)
              try simp only [List.getD_cons_zero, List.getD_cons_succ] at e21
              have hc_ := FX.out w_ hJ_
              refine op2_yield _ (by rfl) ?_ rfl (by decide) (by decide) hJ_
              simp only [execOp, e21]
              go_simp
              all_goals first | with_reducible rfl | omega
            · intro b1_ b2_ a_ w_ st x1_ x2_ y1_ y2_ hJ_
              have e22 : a_.eval (.tmp 22) = _ := st.dep 3 _ 22 rfl rfl (by kernel_rfl)
              try simp only [List.getD_cons_zero, List.getD_cons_succ] at e22
              have hc_ := CX.out w_ hJ_
              refine op2_yield _ (by rfl) ?_ rfl (by decide) (by decide) hJ_
              simp [execOp, e22, hc_]
            · intro b1_ b2_ a_ w_ st x1_ x2_ y1_ y2_ hJ_
              have e0 : a_.eval (.tmp 0) = .slice (some ad2) n1 c1 := st.slot 0 (by kernel_rfl)
              try simp only [List.getD_cons_zero, List.getD_cons_succ] at e0
              refine op2_yield _ (by rfl) ?_ rfl (by decide) (by decide) hJ_
              simp only [execOp, e0]
              go_simp
              all_goals first | with_reducible rfl | omega
            · intro b1_ b2_ a_ w_ st x1_ x2_ y1_ y2_ hJ_
              have e5 : a_.eval (.tmp 5) = .int .i64 ((k : Nat) : Int) := st.slot 5 (by kernel_rfl)
              try simp only [List.getD_cons_zero, List.getD_cons_succ] at e5
              refine op2_yield _ (by rfl) ?_ rfl (by decide) (by decide) hJ_
              simp only [execOp, e5]
              go_simp
              all_goals first | with_reducible rfl | omega
            · intro b1_ b2_ a_ w_ st x1_ x2_ y1_ y2_ hJ_
              have e24 : a_.eval (.tmp 24) = _ := st.dep 5 _ 24 rfl rfl (by kernel_rfl)
              have e25 : a_.eval (.tmp 25) = _ := st.dep 6 _ 25 rfl rfl (by kernel_rfl)
              try simp only [List.getD_cons_zero, List.getD_cons_succ] at e24 e25
              refine op2_yield _ (by rfl) ?_ rfl (by decide) (by decide) hJ_
              simp only [execOp, e24, e25]
              go_simp
              all_goals first | with_reducible rfl | omega
            · intro b1_ b2_ a_ w_ st x1_ x2_ y1_ y2_ hJ_
              have e26 : a_.eval (.tmp 26) = _ := st.dep 7 _ 26 rfl rfl (by kernel_rfl)
              try simp only [List.getD_cons_zero, List.getD_cons_succ] at e26
              have hc_ := FY.out w_ hJ_
              refine op2_yield _ (by rfl) ?_ rfl (by decide) (by decide) hJ_
              simp only [execOp, e26]
              go_simp
              all_goals first | with_reducible rfl | omega
            · intro b1_ b2_ a_ w_ st x1_ x2_ y1_ y2_ hJ_
              have e27 : a_.eval (.tmp 27) = _ := st.dep 8 _ 27 rfl rfl (by kernel_rfl)
              try simp only [List.getD_cons_zero, List.getD_cons_succ] at e27
              have hc_ := CY.out w_ hJ_
              refine op2_yield _ (by rfl) ?_ rfl (by decide) (by decide) hJ_
              simp [execOp, e27, hc_]
            · intro b1_ b2_ a_ w_ st x1_ x2_ y1_ y2_ hJ_
              have e23 : a_.eval (.tmp 23) = _ := st.dep 4 _ 23 rfl rfl (by kernel_rfl)
              have e28 : a_.eval (.tmp 28) = _ := st.dep 9 _ 28 rfl rfl (by kernel_rfl)
              try simp only [List.getD_cons_zero, List.getD_cons_succ] at e23 e28
              refine op2_yield _ (by rfl) ?_ rfl (by decide) (by decide) hJ_
              simp only [execOp, e23, e28]
              go_simp
              all_goals first | with_reducible rfl | omega
          case rgrt5 =>
            intro w7 hj7
            have hj7 := (show Below wr.heap.size wr w7 from hj7)
            simp only [putL, Act.put, List.headD_cons, List.tail_cons, List.setIfInBounds_toArray, List.set_cons_zero, List.set_cons_succ]
            have B7 := Aside0.mk (below_step BB.out hj7)
            clear hj7
            go_wp2
            go_roundg (n2 - i)
            case measure => omega
            case rel => exact ⟨i + 1, k + 1, by go_num, by go_num, by omega, by omega, by omega, GN, B7⟩
        · have GN : Aside0 (rem g (s.take (i + 1)) = g.drop k) := ⟨by rw [GS.out, remStep, if_neg (by simpa using fun h => he h.symm), GD.out]⟩
          have HB : ((strOfNums x).toList == (strOfNums y).toList) = false := beq_eq_false_iff_ne.mpr (fun q => he (INJ.out q))
          go_wp2_with fail
          refine region_known 11 11 [?rcf5_0, ?rcf5_1, ?rcf5_2, .slice A3 n3 c3, .string (strOfNums x), ?rcf5_5, ?rcf5_6, ?rcf5_7, .slice A4 n4 c4, .string (strOfNums y), .bool false] (fun _ _ w' => Below wr.heap.size wr w') (by kernel_rfl) (by kernel_rfl) (by kernel_rfl) (fun _ _ w1 w2 hb hj => below_step hj hb) (Below.refl _ _) ?rgof5 ?rgrf5
          case rgof5 =>
            refine ⟨?_, ?_, ?_, ?_, ?_, ?_, ?_, ?_, ?_, ?_, ?_, trivial⟩
            · intro b1_ b2_ a_ w_ st x1_ x2_ y1_ y2_ hJ_
              have e1 : a_.eval (.tmp 1) = .slice (some ad) n2 c2 := st.slot 1 (by kernel_rfl)
              try simp only [List.getD_cons_zero, List.getD_cons_succ] at e1
              refine op2_yield _ (by rfl) ?_ rfl (by decide) (by decide) hJ_
              simp only [execOp, e1]
              go_simp
              all_goals first | with_reducible rfl | omega
            · intro b1_ b2_ a_ w_ st x1_ x2_ y1_ y2_ hJ_
              have e6 : a_.eval (.tmp 6) = .int .i64 ((i : Nat) : Int) := st.slot 6 (by kernel_rfl)
              try simp only [List.getD_cons_zero, List.getD_cons_succ] at e6
              refine op2_yield _ (by rfl) ?_ rfl (by decide) (by decide) hJ_
              simp only [execOp, e6]
              go_simp
              all_goals first | with_reducible rfl | omega
            · intro b1_ b2_ a_ w_ st x1_ x2_ y1_ y2_ hJ_
              have e19 : a_.eval (.tmp 19) = _ := st.dep 0 _ 19 rfl rfl (by kernel_rfl)
              have e20 : a_.eval (.tmp 20) = _ := st.dep 1 _ 20 rfl rfl (by kernel_rfl)
              try simp only [List.getD_cons_zero, List.getD_cons_succ] at e19 e20
              refine op2_yield _ (by rfl) ?_ rfl (by decide) (by decide) hJ_
              simp only [execOp, e19, e20]
              go_simp
              all_goals first | with_reducible rfl | omega
            · intro b1_ b2_ a_ w_ st x1_ x2_ y1_ y2_ hJ_
              have e21 : a_.eval (.tmp 21) = _ := st.dep 2 _ 21 rfl rfl (by kernel_rfl)
              try simp only [List.getD_cons_zero, List.getD_cons_succ] at e21
              have hc_ := FX.out w_ hJ_
              refine op2_yield _ (by rfl) ?_ rfl (by decide) (by decide) hJ_
              simp only [execOp, e21]
              go_simp
              all_goals first | with_reducible rfl | omega
            · intro b1_ b2_ a_ w_ st x1_ x2_ y1_ y2_ hJ_
              have e22 : a_.eval (.tmp 22) = _ := st.dep 3 _ 22 rfl rfl (by kernel_rfl)
              try simp only [List.getD_cons_zero, List.getD_cons_succ] at e22
              have hc_ := CX.out w_ hJ_
              refine op2_yield _ (by rfl) ?_ rfl (by decide) (by decide) hJ_
              simp [execOp, e22, hc_]
            · intro b1_ b2_ a_ w_ st x1_ x2_ y1_ y2_ hJ_
              have e0 : a_.eval (.tmp 0) = .slice (some ad2) n1 c1 := st.slot 0 (by kernel_rfl)
              try simp only [List.getD_cons_zero, List.getD_cons_succ] at e0
              refine op2_yield _ (by rfl) ?_ rfl (by decide) (by decide) hJ_
              simp only [execOp, e0]
              go_simp
              all_goals first | with_reducible rfl | omega
            · intro b1_ b2_ a_ w_ st x1_ x2_ y1_ y2_ hJ_
              have e5 : a_.eval (.tmp 5) = .int .i64 ((k : Nat) : Int) := st.slot 5 (by kernel_rfl)
              try simp only [List.getD_cons_zero, List.getD_cons_succ] at e5
              refine op2_yield _ (by rfl) ?_ rfl (by decide) (by decide) hJ_
              simp only [execOp, e5]
              go_simp
              all_goals first | with_reducible rfl | omega
            · intro b1_ b2_ a_ w_ st x1_ x2_ y1_ y2_ hJ_
              have e24 : a_.eval (.tmp 24) = _ := st.dep 5 _ 24 rfl rfl (by kernel_rfl)
              have e25 : a_.eval (.tmp 25) = _ := st.dep 6 _ 25 rfl rfl (by kernel_rfl)
              try simp only [List.getD_cons_zero, List.getD_cons_succ] at e24 e25
              refine op2_yield _ (by rfl) ?_ rfl (by decide) (by decide) hJ_
              simp only [execOp, e24, e25]
              go_simp
              all_goals first | with_reducible rfl | omega
            · intro b1_ b2_ a_ w_ st x1_ x2_ y1_ y2_ hJ_
              have e26 : a_.eval (.tmp 26) = _ := st.dep 7 _ 26 rfl rfl (by kernel_rfl)
              try simp only [List.getD_cons_zero, List.getD_cons_succ] at e26
              have hc_ := FY.out w_ hJ_
              refine op2_yield _ (by rfl) ?_ rfl (by decide) (by decide) hJ_
              simp only [execOp, e26]
              go_simp
              all_goals first | with_reducible rfl | omega
            · intro b1_ b2_ a_ w_ st x1_ x2_ y1_ y2_ hJ_
              have e27 : a_.eval (.tmp 27) = _ := st.dep 8 _ 27 rfl rfl (by kernel_rfl)
              try simp only [List.getD_cons_zero, List.getD_cons_succ] at e27
              have hc_ := CY.out w_ hJ_
              refine op2_yield _ (by rfl) ?_ rfl (by decide) (by decide) hJ_
              simp [execOp, e27, hc_]
            · intro b1_ b2_ a_ w_ st x1_ x2_ y1_ y2_ hJ_
              have e23 : a_.eval (.tmp 23) = _ := st.dep 4 _ 23 rfl rfl (by kernel_rfl)
              have e28 : a_.eval (.tmp 28) = _ := st.dep 9 _ 28 rfl rfl (by kernel_rfl)
              try simp only [List.getD_cons_zero, List.getD_cons_succ] at e23 e28
              refine op2_yield _ (by rfl) ?_ rfl (by decide) (by decide) hJ_
              simp only [execOp, e23, e28]
              go_simp
              all_goals first | with_reducible rfl | omega
          case rgrf5 =>
            intro w7 hj7
            have hj7 := (show Below wr.heap.size wr w7 from hj7)
            simp only [putL, Act.put, List.headD_cons, List.tail_cons, List.setIfInBounds_toArray, List.set_cons_zero, List.set_cons_succ]
            have B7 := Aside0.mk (below_step BB.out hj7)
            clear hj7
            go_wp2
            go_roundg (n2 - i)
            case measure => omega
            case rel => exact ⟨i + 1, k, rfl, by go_num, by omega, by omega, by omega, GN, B7⟩
      · have hk2 : k = n1 := by omega
        subst hk2
        have PB : Aside0 (partB g s = true) := ⟨by
          unfold partB
          rw [rem_take g s i (by rw [GG.out, List.drop_eq_nil_of_le (by have := HN1.out; omega)])]
          rfl⟩
        clear GG
        go_wp2_with fail
        first | go_ret | go_ret2 | ((try simp only [Exit.inBlock, Exit.then]); refine bodyPost_ret (results_tmp3 rfl _ _ _) rfl ?_) | go_end0
        exact ⟨by rw [PB.out]; rfl, BB.out⟩
    · have hi2 : i = n2 := by omega
      subst hi2
      have PB := GG.out
      rw [List.take_of_length_le (by have := HN2.out; omega)] at PB
      by_cases h0 : k = n1
      · subst h0
        have PB2 : Aside0 (partB g s = true) := ⟨by unfold partB; rw [PB, List.drop_eq_nil_of_le (by have := HN1.out; omega)]; rfl⟩
        clear GG PB
        go_wp2_with fail
        first | go_ret | go_ret2 | ((try simp only [Exit.inBlock, Exit.then]); refine bodyPost_ret (results_tmp3 rfl _ _ _) rfl ?_) | go_end0
        exact ⟨by rw [PB2.out]; rfl, BB.out⟩
      · have b0 : (((k : Nat) : Int) == ((n1 : Nat) : Int)) = false := by simp; omega
        have PB2 : Aside0 (partB g s = false) := ⟨by
          unfold partB
          rw [PB]
          cases h : g.drop k with
          | nil => have := congrArg List.length h; simp at this; have := HN1.out; omega
          | cons a b => rfl⟩
        clear GG PB h0
        go_wp2_with fail
        first | go_ret | go_ret2 | ((try simp only [Exit.inBlock, Exit.then]); refine bodyPost_ret (results_tmp3 rfl _ _ _) rfl ?_) | go_end0
        exact ⟨by rw [PB2.out]; rfl, BB.out⟩
set_option maxHeartbeats 8000000 in
set_option maxRecDepth 100000 in
theorem same_ok (A1 : Option Addr) (n1 c1 : Nat) (g : List (List Int)) (A2 : Option Addr) (n2 c2 : Nat) (s : List (List Int)) (w : World) (r1 : Grid w A1 n1 c1 g) (r2 : Grid w A2 n2 c2 s) :
    Calls Try.prog 13 #[.slice A1 n1 c1, .slice A2 n2 c2] w fun e w' => e = .returned (.bool (decide (g = s))) ∧ Below w.heap.size w w' := by
  have R1 := Aside0.mk r1
  have R2 := Aside0.mk r2
  have HN1 := Aside0.mk r1.len
  have HN2 := Aside0.mk r2.len
  have hcn := r2.cap
  have hmn := r2.max
  have hcn1 := r1.cap
  have hmn1 := r1.max
  clear r1 r2
  by_cases hl : n1 = n2
  · subst hl
    go_enter Try.func13, Try.ntmps13
    go_wp2
    go_loopg [5] (n1 + 1) (fun kq v5 w' => ∃ (i : Nat), v5 = .int .i64 i ∧ i ≤ n1 ∧ kq = n1 + 1 - i ∧ Aside0 (g.take i = s.take i) ∧ Aside0 (Below w.heap.size w w'))
    case atStart => exact ⟨0, rfl, by omega, by omega, ⟨rfl⟩, ⟨Below.refl _ _⟩⟩
    case round =>
      obtain ⟨i, rfl, hi, hkq, GG, BB⟩ := hrel
      by_cases hlt : i < n1
      · obtain ⟨x, ad, A3, n3, c3, hx, hA, hc, hr, ho, hm⟩ := gget R1.out i hlt
        cases hA
        obtain ⟨y, ad2, A4, n4, c4, hy, hA2, hc4, hr4, ho4, hm4⟩ := gget R2.out i hlt
        cases hA2
        have T1 := Aside0.mk (take_sg g i x hx)
        have T2 := Aside0.mk (take_sg s i y hy)
        have FX := Aside0.mk (fun w' (hb : Below wr.heap.size wr w') => ((below_step BB.out hb).cell (World.block_lt_of_cell? w _ hc)).trans hc)
        have FY := Aside0.mk (fun w' (hb : Below wr.heap.size wr w') => ((below_step BB.out hb).cell (World.block_lt_of_cell? w _ hc4)).trans hc4)
        have CX := Aside0.mk (fun w' (hb : Below wr.heap.size wr w') => conv26 A3 n3 c3 x w' (hr.below (below_step BB.out hb)))
        have CY := Aside0.mk (fun w' (hb : Below wr.heap.size wr w') => conv26 A4 n4 c4 y w' (hr4.below (below_step BB.out hb)))
        have INJ := Aside0.mk (fun h : (strOfNums x).toList = (strOfNums y).toList => str_inj ho ho4 h)
        have HX := Aside0.mk hx
        have HY := Aside0.mk hy
        have hii : ((i : Nat) : Int) < ((n1 : Nat) : Int) := by omega
        clear hc hr ho hx hc4 hr4 ho4 hy
        by_cases he : x = y
        · subst he
          have GN : Aside0 (g.take (i + 1) = s.take (i + 1)) := ⟨by rw [T1.out, T2.out, GG.out]⟩
          go_wp2_with fail
          refine region_known 11 11 [?rcy6_0, ?rcy6_1, ?rcy6_2, .slice A3 n3 c3, .string (strOfNums x), ?rcy6_5, ?rcy6_6, ?rcy6_7, .slice A4 n4 c4, .string (strOfNums x), .bool false] (fun _ _ w' => Below wr.heap.size wr w') (by kernel_rfl) (by kernel_rfl) (by kernel_rfl) (fun _ _ w1 w2 hb hj => below_step hj hb) (Below.refl _ _) ?rgoy6 ?rgry6
          case rgoy6 =>
            refine ⟨?_, ?_, ?_, ?_, ?_, ?_, ?_, ?_, ?_, ?_, ?_, trivial⟩
            · intro b1_ b2_ a_ w_ st x1_ x2_ y1_ y2_ hJ_
              have e0 : a_.eval (.tmp 0) = .slice (some ad) n1 c1 := st.slot 0 (by kernel_rfl)
              try simp only [List.getD_cons_zero, List.getD_cons_succ] at e0
              refine op2_yield _ (by rfl) ?_ rfl (by decide) (by decide) hJ_
              simp only [execOp, e0]
              go_simp
              all_goals first | with_reducible rfl | omega
            · intro b1_ b2_ a_ w_ st x1_ x2_ y1_ y2_ hJ_
              have e5 : a_.eval (.tmp 5) = .int .i64 ((i : Nat) : Int) := st.slot 5 (by kernel_rfl)
              try simp only [List.getD_cons_zero, List.getD_cons_succ] at e5
              refine op2_yield _ (by rfl) ?_ rfl (by decide) (by decide) hJ_
              simp only [execOp, e5]
              go_simp
              all_goals first | with_reducible rfl | omega
            · intro b1_ b2_ a_ w_ st x1_ x2_ y1_ y2_ hJ_
              have e17 : a_.eval (.tmp 17) = _ := st.dep 0 _ 17 rfl rfl (by kernel_rfl)
              have e18 : a_.eval (.tmp 18) = _ := st.dep 1 _ 18 rfl rfl (by kernel_rfl)
              try simp only [List.getD_cons_zero, List.getD_cons_succ] at e17 e18
              refine op2_yield _ (by rfl) ?_ rfl (by decide) (by decide) hJ_
              simp only [execOp, e17, e18]
              go_simp
              all_goals first | with_reducible rfl | omega
            · intro b1_ b2_ a_ w_ st x1_ x2_ y1_ y2_ hJ_
              have e19 : a_.eval (.tmp 19) = _ := st.dep 2 _ 19 rfl rfl (by kernel_rfl)
              try simp only [List.getD_cons_zero, List.getD_cons_succ] at e19
              have hc_ := FX.out w_ hJ_
              refine op2_yield _ (by rfl) ?_ rfl (by decide) (by decide) hJ_
              simp only [execOp, e19]
              go_simp
              all_goals first | with_reducible rfl | omega
            · intro b1_ b2_ a_ w_ st x1_ x2_ y1_ y2_ hJ_
              have e20 : a_.eval (.tmp 20) = _ := st.dep 3 _ 20 rfl rfl (by kernel_rfl)
              try simp only [List.getD_cons_zero, List.getD_cons_succ] at e20
              have hc_ := CX.out w_ hJ_
              refine op2_yield _ (by rfl) ?_ rfl (by decide) (by decide) hJ_
              simp [execOp, e20, hc_]
            · intro b1_ b2_ a_ w_ st x1_ x2_ y1_ y2_ hJ_
              have e1 : a_.eval (.tmp 1) = .slice (some ad2) n1 c2 := st.slot 1 (by kernel_rfl)
              try simp only [List.getD_cons_zero, List.getD_cons_succ] at e1
              refine op2_yield _ (by rfl) ?_ rfl (by decide) (by decide) hJ_
              simp only [execOp, e1]
              go_simp
              all_goals first | with_reducible rfl | omega
            · intro b1_ b2_ a_ w_ st x1_ x2_ y1_ y2_ hJ_
              have e5 : a_.eval (.tmp 5) = .int .i64 ((i : Nat) : Int) := st.slot 5 (by kernel_rfl)
              try simp only [List.getD_cons_zero, List.getD_cons_succ] at e5
              refine op2_yield _ (by rfl) ?_ rfl (by decide) (by decide) hJ_
              simp only [execOp, e5]
              go_simp
              all_goals first | with_reducible rfl | omega
            · intro b1_ b2_ a_ w_ st x1_ x2_ y1_ y2_ hJ_
              have e22 : a_.eval (.tmp 22) = _ := st.dep 5 _ 22 rfl rfl (by kernel_rfl)
              have e23 : a_.eval (.tmp 23) = _ := st.dep 6 _ 23 rfl rfl (by kernel_rfl)
              try simp only [List.getD_cons_zero, List.getD_cons_succ] at e22 e23
              refine op2_yield _ (by rfl) ?_ rfl (by decide) (by decide) hJ_
              simp only [execOp, e22, e23]
              go_simp
              all_goals first | with_reducible rfl | omega
            · intro b1_ b2_ a_ w_ st x1_ x2_ y1_ y2_ hJ_
              have e24 : a_.eval (.tmp 24) = _ := st.dep 7 _ 24 rfl rfl (by kernel_rfl)
              try simp only [List.getD_cons_zero, List.getD_cons_succ] at e24
              have hc_ := FY.out w_ hJ_
              refine op2_yield _ (by rfl) ?_ rfl (by decide) (by decide) hJ_
              simp only [execOp, e24]
              go_simp
              all_goals first | with_reducible rfl | omega
            · intro b1_ b2_ a_ w_ st x1_ x2_ y1_ y2_ hJ_
              have e25 : a_.eval (.tmp 25) = _ := st.dep 8 _ 25 rfl rfl (by kernel_rfl)
              try simp only [List.getD_cons_zero, List.getD_cons_succ] at e25
              have hc_ := CY.out w_ hJ_
              refine op2_yield _ (by rfl) ?_ rfl (by decide) (by decide) hJ_
              simp [execOp, e25, hc_]
            · intro b1_ b2_ a_ w_ st x1_ x2_ y1_ y2_ hJ_
              have e21 : a_.eval (.tmp 21) = _ := st.dep 4 _ 21 rfl rfl (by kernel_rfl)
              have e26 : a_.eval (.tmp 26) = _ := st.dep 9 _ 26 rfl rfl (by kernel_rfl)
              try simp only [List.getD_cons_zero, List.getD_cons_succ] at e21 e26
              refine op2_yield _ (by rfl) ?_ rfl (by decide) (by decide) hJ_
              simp only [execOp, e21, e26]
              go_simp
              all_goals first | with_reducible rfl | omega
          case rgry6 =>
            intro w7 hj7
            have hj7 := (show Below wr.heap.size wr w7 from hj7)
            simp only [putL, Act.put, List.headD_cons, List.tail_cons, List.setIfInBounds_toArray, List.set_cons_zero, List.set_cons_succ]
            have B7 := Aside0.mk (below_step BB.out hj7)
            clear hj7
            go_wp2
            go_roundg (n1 - i)
            case measure => omega
            case rel => exact ⟨i + 1, by go_num, by omega, by omega, GN, B7⟩
        · have HB : ((strOfNums x).toList == (strOfNums y).toList) = false := beq_eq_false_iff_ne.mpr (fun q => he (INJ.out q))
          have PB : Aside0 (decide (g = s) = false) := ⟨by
            rw [decide_eq_false_iff_not]
            intro e
            rw [e, HY.out] at HX
            have := HX.out
            simp at this
            exact he this.symm⟩
          go_wp2_with fail
          refine region_known 11 11 [?rcx6_0, ?rcx6_1, ?rcx6_2, .slice A3 n3 c3, .string (strOfNums x), ?rcx6_5, ?rcx6_6, ?rcx6_7, .slice A4 n4 c4, .string (strOfNums y), .bool true] (fun _ _ w' => Below wr.heap.size wr w') (by kernel_rfl) (by kernel_rfl) (by kernel_rfl) (fun _ _ w1 w2 hb hj => below_step hj hb) (Below.refl _ _) ?rgox6 ?rgrx6
          case rgox6 =>
            refine ⟨?_, ?_, ?_, ?_, ?_, ?_, ?_, ?_, ?_, ?_, ?_, trivial⟩
            · intro b1_ b2_ a_ w_ st x1_ x2_ y1_ y2_ hJ_
              have e0 : a_.eval (.tmp 0) = .slice (some ad) n1 c1 := st.slot 0 (by kernel_rfl)
              try simp only [List.getD_cons_zero, List.getD_cons_succ] at e0
              refine op2_yield _ (by rfl) ?_ rfl (by decide) (by decide) hJ_
              simp only [execOp, e0]
              go_simp
              all_goals first | with_reducible rfl | omega
            · intro b1_ b2_ a_ w_ st x1_ x2_ y1_ y2_ hJ_
              have e5 : a_.eval (.tmp 5) = .int .i64 ((i : Nat) : Int) := st.slot 5 (by kernel_rfl)
              try simp only [List.getD_cons_zero, List.getD_cons_succ] at e5
              refine op2_yield _ (by rfl) ?_ rfl (by decide) (by decide) hJ_
              simp only [execOp, e5]
              go_simp
              all_goals first | with_reducible rfl | omega
            · intro b1_ b2_ a_ w_ st x1_ x2_ y1_ y2_ hJ_
              have e17 : a_.eval (.tmp 17) = _ := st.dep 0 _ 17 rfl rfl (by kernel_rfl)
              have e18 : a_.eval (.tmp 18) = _ := st.dep 1 _ 18 rfl rfl (by kernel_rfl)
              try simp only [List.getD_cons_zero, List.getD_cons_succ] at e17 e18
              refine op2_yield _ (by rfl) ?_ rfl (by decide) (by decide) hJ_
              simp only [execOp, e17, e18]
              go_simp
              all_goals first | with_reducible rfl | omega
            · intro b1_ b2_ a_ w_ st x1_ x2_ y1_ y2_ hJ_
              have e19 : a_.eval (.tmp 19) = _ := st.dep 2 _ 19 rfl rfl (by kernel_rfl)
              try simp only [List.getD_cons_zero, List.getD_cons_succ] at e19
              have hc_ := FX.out w_ hJ_
              refine op2_yield _ (by rfl) ?_ rfl (by decide) (by decide) hJ_
              simp only [execOp, e19]
              go_simp
              all_goals first | with_reducible rfl | omega
            · intro b1_ b2_ a_ w_ st x1_ x2_ y1_ y2_ hJ_
              have e20 : a_.eval (.tmp 20) = _ := st.dep 3 _ 20 rfl rfl (by kernel_rfl)
              try simp only [List.getD_cons_zero, List.getD_cons_succ] at e20
              have hc_ := CX.out w_ hJ_
              refine op2_yield _ (by rfl) ?_ rfl (by decide) (by decide) hJ_
              simp [execOp, e20, hc_]
            · intro b1_ b2_ a_ w_ st x1_ x2_ y1_ y2_ hJ_
              have e1 : a_.eval (.tmp 1) = .slice (some ad2) n1 c2 := st.slot 1 (by kernel_rfl)
              try simp only [List.getD_cons_zero, List.getD_cons_succ] at e1
              refine op2_yield _ (by rfl) ?_ rfl (by decide) (by decide) hJ_
              simp only [execOp, e1]
              go_simp
              all_goals first | with_reducible rfl | omega
            · intro b1_ b2_ a_ w_ st x1_ x2_ y1_ y2_ hJ_
              have e5 : a_.eval (.tmp 5) = .int .i64 ((i : Nat) : Int) := st.slot 5 (by kernel_rfl)
              try simp only [List.getD_cons_zero, List.getD_cons_succ] at e5
              refine op2_yield _ (by rfl) ?_ rfl (by decide) (by decide) hJ_
              simp only [execOp, e5]
              go_simp
              all_goals first | with_reducible rfl | omega
            · intro b1_ b2_ a_ w_ st x1_ x2_ y1_ y2_ hJ_
              have e22 : a_.eval (.tmp 22) = _ := st.dep 5 _ 22 rfl rfl (by kernel_rfl)
              have e23 : a_.eval (.tmp 23) = _ := st.dep 6 _ 23 rfl rfl (by kernel_rfl)
              try simp only [List.getD_cons_zero, List.getD_cons_succ] at e22 e23
              refine op2_yield _ (by rfl) ?_ rfl (by decide) (by decide) hJ_
              simp only [execOp, e22, e23]
              go_simp
              all_goals first | with_reducible rfl | omega
            · intro b1_ b2_ a_ w_ st x1_ x2_ y1_ y2_ hJ_
              have e24 : a_.eval (.tmp 24) = _ := st.dep 7 _ 24 rfl rfl (by kernel_rfl)
              try simp only [List.getD_cons_zero, List.getD_cons_succ] at e24
              have hc_ := FY.out w_ hJ_
              refine op2_yield _ (by rfl) ?_ rfl (by decide) (by decide) hJ_
              simp only [execOp, e24]
              go_simp
              all_goals first | with_reducible rfl | omega
            · intro b1_ b2_ a_ w_ st x1_ x2_ y1_ y2_ hJ_
              have e25 : a_.eval (.tmp 25) = _ := st.dep 8 _ 25 rfl rfl (by kernel_rfl)
              try simp only [List.getD_cons_zero, List.getD_cons_succ] at e25
              have hc_ := CY.out w_ hJ_
              refine op2_yield _ (by rfl) ?_ rfl (by decide) (by decide) hJ_
              simp [execOp, e25, hc_]
            · intro b1_ b2_ a_ w_ st x1_ x2_ y1_ y2_ hJ_
              have e21 : a_.eval (.tmp 21) = _ := st.dep 4 _ 21 rfl rfl (by kernel_rfl)
              have e26 : a_.eval (.tmp 26) = _ := st.dep 9 _ 26 rfl rfl (by kernel_rfl)
              try simp only [List.getD_cons_zero, List.getD_cons_succ] at e21 e26
              refine op2_yield _ (by rfl) ?_ rfl (by decide) (by decide) hJ_
              simp only [execOp, e21, e26]
              go_simp
              all_goals first | with_reducible rfl | omega
          case rgrx6 =>
            intro w7 hj7
            have hj7 := (show Below wr.heap.size wr w7 from hj7)
            simp only [putL, Act.put, List.headD_cons, List.tail_cons, List.setIfInBounds_toArray, List.set_cons_zero, List.set_cons_succ]
            go_wp2
            first | go_ret | go_ret2 | ((try simp only [Exit.inBlock, Exit.then]); refine bodyPost_ret (results_tmp3 rfl _ _ _) rfl ?_) | go_end0
            exact ⟨by rw [PB.out]; rfl, below_step BB.out hj7⟩
      · have hi2 : i = n1 := by omega
        subst hi2
        have PB : Aside0 (decide (g = s) = true) := ⟨by
          have := GG.out
          rw [List.take_of_length_le (by have := HN1.out; omega), List.take_of_length_le (by have := HN2.out; omega)] at this
          rw [this]
          simp⟩
        clear GG
        go_wp2_with fail
        first | go_ret | go_ret2 | ((try simp only [Exit.inBlock, Exit.then]); refine bodyPost_ret (results_tmp3 rfl _ _ _) rfl ?_) | go_end0
        exact ⟨by rw [PB.out]; rfl, BB.out⟩
  · have PB : Aside0 (decide (g = s) = false) := ⟨by
      rw [decide_eq_false_iff_not]
      intro e
      have := HN1.out
      have := HN2.out
      rw [e] at *
      omega⟩
    have b0 : (((n1 : Nat) : Int) == ((n2 : Nat) : Int)) = false := by simp; omega
    clear hl
    go_enter Try.func13, Try.ntmps13
    go_wp2
    first | go_ret | go_ret2 | ((try simp only [Exit.inBlock, Exit.then]); refine bodyPost_ret (results_tmp3 rfl _ _ _) rfl ?_) | go_end0
    exact ⟨by rw [PB.out]; rfl, Below.refl _ _⟩

end Go.Proofs.Ytcgdnkgnknceiaa.HnC
