/- Contracts of a reader of frames: ends, flag, Push. -/
import Derived.Test.YtlcemeligolabaaFmA
import Derived.Test.YtlcemeligolabaaFcF
namespace Go.Proofs.Ytlcemeligolabaa.FmB
open Go.RowKit Go.Proofs.YtlcemeligolabaaW.PrintWords Go.Proofs.YtlcemeligolabaaW.PrintLast Go.Proofs.YtlcemeligolabaaW.PrintMore Go.Proofs.Ytlcemeligolabaa.K Go.Proofs.Ytlcemeligolabaa.FmP Go.Proofs.Ytlcemeligolabaa.FmA Go.Proofs.Ytlcemeligolabaa.FcP Go.Proofs.Ytlcemeligolabaa.FcA Go.Proofs.Ytlcemeligolabaa.FcB Go.Proofs.Ytlcemeligolabaa.FcC Go.Proofs.Ytlcemeligolabaa.FcR Go.Proofs.Ytlcemeligolabaa.FcD Go.Proofs.Ytlcemeligolabaa.FcE Go.Proofs.Ytlcemeligolabaa.OctPure
set_option linter.unusedVariables false
set_option linter.unusedSimpArgs false
attribute [local go_sem] max2_int min2_int max_two min_two

theorem bodyPost_ret0 {P : Program} {fn : Func} {R : Ending → World → Prop} {a : Act} {w : World} (hr : fn.results = #[]) (hd : a.defers = []) (hR : R (.returned (.tuple #[])) w) : bodyPost P fn R .ret a w := ⟨hd, _, results_none hr _ _ _, hR⟩
set_option maxHeartbeats 8000000 in
set_option maxRecDepth 100000 in
theorem ends_ok (p : Nat) (v : Value) (R : Re) (k : Ok R) (w : World) (i : IsP w p v R) :
    Calls Try.prog 34 #[.pointer (some ⟨p, 0, none⟩)] w fun e w' => ∃ u, e = .returned (.tuple #[.int .i64 (endK R.wide R.b).1, u]) ∧ Own (Kd.int .u8) 5 w.heap.size w' u (endK R.wide R.b).2 ∧ Below w.heap.size w w' := by
  obtain ⟨n, hn⟩ : ∃ n, n = R.b.length := ⟨_, rfl⟩
  obtain ⟨A, cp, rfl, hcp⟩ := i.row.sliceN hn.symm
  have hn1 : n ≤ 1000000 := by have := k.len; have := k.m1; omega
  obtain ⟨q, hq⟩ : ∃ q, q = sizeT R.wide := ⟨_, rfl⟩
  have hq4 : q ≤ 4 := by rw [hq]; exact (sizeT_b R.wide).2
  have SZ : Aside0 (∀ w', Calls Try.prog 26 #[.bool R.wide] w' fun e w'' => e = .returned (.int .i64 ((q : Nat) : Int)) ∧ Below w'.heap.size w' w'') := ⟨fun w' => by rw [hq]; exact size_ok R.wide w'⟩
  have I0 := Aside0.mk i
  have KO := Aside0.mk k.oct
  have HN := Aside0.mk hn
  have HQ := Aside0.mk hq
  by_cases hg : n ≤ q
  · have HE : Aside0 (endK R.wide R.b = (2, [])) := ⟨by unfold endK; rw [if_pos (by rw [← hn, ← hq]; exact hg)]⟩
    rw [HE.out]
    have hgi : ((n : Nat) : Int) ≤ ((q : Nat) : Int) := by omega
    clear hn hq i k
    go_enter Try.func34, Try.ntmps34
    go_wp2
    refine region_known 11 11 [?rc1_0, ?rc1_1, ?rc1_2, ?rc1_3, .int .i64 ((n : Nat) : Int), ?rc1_5, ?rc1_6, ?rc1_7, ?rc1_8, .int .i64 ((q : Nat) : Int), .bool true] (fun _ _ w' => IsP w' p (.slice A n cp) R ∧ Below w.heap.size w w') (by kernel_rfl) (by kernel_rfl) (by kernel_rfl) (fun _ _ w1 w2 hb hj => ⟨hj.1.below hb, below_step hj.2 hb⟩) (⟨I0.out, Below.refl _ _⟩) ?rgo1 ?rgr1
    case rgo1 =>
      refine ⟨?_, ?_, ?_, ?_, ?_, ?_, ?_, ?_, ?_, ?_, ?_, trivial⟩
      · intro b1_ b2_ a_ w_ st x1_ x2_ y1_ y2_ hJ_
        have e0 : a_.eval (.tmp 0) = .pointer (some ⟨p, 0, none⟩) := st.slot 0 (by kernel_rfl)
        try simp only [List.getD_cons_zero, List.getD_cons_succ] at e0
        refine op2_yield _ (by rfl) ?_ rfl (by decide) (by decide) hJ_
        simp only [execOp, e0]
        go_simp
        all_goals first | with_reducible rfl | omega
      · intro b1_ b2_ a_ w_ st x1_ x2_ y1_ y2_ hJ_
        have e6 : a_.eval (.tmp 6) = _ := st.dep 0 _ 6 rfl rfl (by kernel_rfl)
        try simp only [List.getD_cons_zero, List.getD_cons_succ] at e6
        refine op2_yield _ (by rfl) ?_ rfl (by decide) (by decide) hJ_
        simp only [execOp, e6]
        go_simp
        all_goals first | with_reducible rfl | omega
      · intro b1_ b2_ a_ w_ st x1_ x2_ y1_ y2_ hJ_
        have e7 : a_.eval (.tmp 7) = _ := st.dep 1 _ 7 rfl rfl (by kernel_rfl)
        try simp only [List.getD_cons_zero, List.getD_cons_succ] at e7
        refine op2_yield _ (by rfl) ?_ rfl (by decide) (by decide) hJ_
        simp only [execOp, e7]
        go_simp
        all_goals first | with_reducible rfl | omega
      · intro b1_ b2_ a_ w_ st x1_ x2_ y1_ y2_ hJ_
        have e8 : a_.eval (.tmp 8) = _ := st.dep 2 _ 8 rfl rfl (by kernel_rfl)
        try simp only [List.getD_cons_zero, List.getD_cons_succ] at e8
        have c3_ := hJ_.1.tab.at_ 3 (v := .slice A n cp) rfl
        refine op2_yield _ (by rfl) ?_ rfl (by decide) (by decide) hJ_
        simp only [execOp, e8]
        go_simp
        all_goals first | with_reducible rfl | omega
      · intro b1_ b2_ a_ w_ st x1_ x2_ y1_ y2_ hJ_
        have e9 : a_.eval (.tmp 9) = _ := st.dep 3 _ 9 rfl rfl (by kernel_rfl)
        try simp only [List.getD_cons_zero, List.getD_cons_succ] at e9
        refine op2_yield _ (by rfl) ?_ rfl (by decide) (by decide) hJ_
        exact run_len Try.underlying24 (by rfl) e9 (by omega)
      · intro b1_ b2_ a_ w_ st x1_ x2_ y1_ y2_ hJ_
        have e0 : a_.eval (.tmp 0) = .pointer (some ⟨p, 0, none⟩) := st.slot 0 (by kernel_rfl)
        try simp only [List.getD_cons_zero, List.getD_cons_succ] at e0
        refine op2_yield _ (by rfl) ?_ rfl (by decide) (by decide) hJ_
        simp only [execOp, e0]
        go_simp
        all_goals first | with_reducible rfl | omega
      · intro b1_ b2_ a_ w_ st x1_ x2_ y1_ y2_ hJ_
        have e11 : a_.eval (.tmp 11) = _ := st.dep 5 _ 11 rfl rfl (by kernel_rfl)
        try simp only [List.getD_cons_zero, List.getD_cons_succ] at e11
        refine op2_yield _ (by rfl) ?_ rfl (by decide) (by decide) hJ_
        simp only [execOp, e11]
        go_simp
        all_goals first | with_reducible rfl | omega
      · intro b1_ b2_ a_ w_ st x1_ x2_ y1_ y2_ hJ_
        have e12 : a_.eval (.tmp 12) = _ := st.dep 6 _ 12 rfl rfl (by kernel_rfl)
        try simp only [List.getD_cons_zero, List.getD_cons_succ] at e12
        refine op2_yield _ (by rfl) ?_ rfl (by decide) (by decide) hJ_
        simp only [execOp, e12]
        go_simp
        all_goals first | with_reducible rfl | omega
      · intro b1_ b2_ a_ w_ st x1_ x2_ y1_ y2_ hJ_
        have e13 : a_.eval (.tmp 13) = _ := st.dep 7 _ 13 rfl rfl (by kernel_rfl)
        try simp only [List.getD_cons_zero, List.getD_cons_succ] at e13
        have c0_ := hJ_.1.tab.at_ 0 (v := .bool R.wide) rfl
        refine op2_yield _ (by rfl) ?_ rfl (by decide) (by decide) hJ_
        simp only [execOp, e13]
        go_simp
        all_goals first | with_reducible rfl | omega
      · intro b1_ b2_ a_ w_ st x1_ x2_ y1_ y2_ hJ_
        have e14 : a_.eval (.tmp 14) = _ := st.dep 8 _ 14 rfl rfl (by kernel_rfl)
        try simp only [List.getD_cons_zero, List.getD_cons_succ] at e14
        exact op2_call Try.func26 (by kernel_rfl) rfl #[.bool R.wide] (by rfl) rfl (by simp [e14]) (VC_stable _) (fun _ _ w1 w2 hb hj => ⟨hj.1.below hb, below_step hj.2 hb⟩) (by decide) (by decide) hJ_ ((SZ.out _).mono fun e w'' h => ⟨_, h.1, h.2, rfl⟩)
      · intro b1_ b2_ a_ w_ st x1_ x2_ y1_ y2_ hJ_
        have e10 : a_.eval (.tmp 10) = _ := st.dep 4 _ 10 rfl rfl (by kernel_rfl)
        have e15 : a_.eval (.tmp 15) = _ := st.dep 9 _ 15 rfl rfl (by kernel_rfl)
        try simp only [List.getD_cons_zero, List.getD_cons_succ] at e10 e15
        refine op2_yield _ (by rfl) ?_ rfl (by decide) (by decide) hJ_
        simp only [execOp, e10, e15]
        go_simp
        all_goals first | with_reducible rfl | omega
    case rgr1 =>
      intro w3 hj0
      have hj := (show IsP w3 p (.slice A n cp) R ∧ Below w.heap.size w w3 from hj0)
      clear hj0
      simp only [putL, Act.put, List.headD_cons, List.tail_cons, List.setIfInBounds_toArray, List.set_cons_zero, List.set_cons_succ]
      go_wp2
      first | go_ret | go_ret2 | ((try simp only [Exit.inBlock, Exit.then]); refine bodyPost_ret (results_tmp3 rfl _ _ _) rfl ?_) | go_end0 | refine bodyPost_ret0 rfl rfl ?_
      exact ⟨_, rfl, Own.nil _ _ _ _, hj.2⟩
  · obtain ⟨m, hm⟩ : ∃ m, n = m + q := ⟨n - q, by omega⟩
    have hmq : R.b.length - sizeT R.wide = m := by rw [← hn, ← hq]; omega
    have hnq : ¬ R.b.length ≤ sizeT R.wide := by rw [← hn, ← hq]; exact hg
    by_cases he : tailL (R.b.take m) R.wide = R.b.drop m
    · have HE : Aside0 (endK R.wide R.b = (1, R.b.take m)) := ⟨by unfold endK; rw [if_neg hnq, hmq, if_pos he]⟩
      rw [HE.out]
      have CK : Aside0 (∀ w', IsP w' p (.slice A n cp) R → Calls Try.prog 39 #[.slice A n cp, .bool R.wide] w' fun e w'' => ∃ v, e = .returned (.tuple #[v, .int .i64 0]) ∧ Own (Kd.int .u8) 5 w'.heap.size w'' v (R.b.take m) ∧ Below w'.heap.size w' w'') :=
        ⟨fun w' j => check_good A n cp m R.b R.wide w' j.row.rds KO.out hn1 (by rw [← hq]; exact hm) he⟩
      have hgi : ((q : Nat) : Int) < ((n : Nat) : Int) := by omega
      clear hn hq i k hmq hnq he hm hg
      go_enter Try.func34, Try.ntmps34
      go_wp2
      refine region_known 11 11 [?rc1_0, ?rc1_1, ?rc1_2, ?rc1_3, .int .i64 ((n : Nat) : Int), ?rc1_5, ?rc1_6, ?rc1_7, ?rc1_8, .int .i64 ((q : Nat) : Int), .bool false] (fun _ _ w' => IsP w' p (.slice A n cp) R ∧ Below w.heap.size w w') (by kernel_rfl) (by kernel_rfl) (by kernel_rfl) (fun _ _ w1 w2 hb hj => ⟨hj.1.below hb, below_step hj.2 hb⟩) (⟨I0.out, Below.refl _ _⟩) ?rgo1 ?rgr1
      case rgo1 =>
        refine ⟨?_, ?_, ?_, ?_, ?_, ?_, ?_, ?_, ?_, ?_, ?_, trivial⟩
        · intro b1_ b2_ a_ w_ st x1_ x2_ y1_ y2_ hJ_
          have e0 : a_.eval (.tmp 0) = .pointer (some ⟨p, 0, none⟩) := st.slot 0 (by kernel_rfl)
          try simp only [List.getD_cons_zero, List.getD_cons_succ] at e0
          refine op2_yield _ (by rfl) ?_ rfl (by decide) (by decide) hJ_
          simp only [execOp, e0]
          go_simp
          all_goals first | with_reducible rfl | omega
        · intro b1_ b2_ a_ w_ st x1_ x2_ y1_ y2_ hJ_
          have e6 : a_.eval (.tmp 6) = _ := st.dep 0 _ 6 rfl rfl (by kernel_rfl)
          try simp only [List.getD_cons_zero, List.getD_cons_succ] at e6
          refine op2_yield _ (by rfl) ?_ rfl (by decide) (by decide) hJ_
          simp only [execOp, e6]
          go_simp
          all_goals first | with_reducible rfl | omega
        · intro b1_ b2_ a_ w_ st x1_ x2_ y1_ y2_ hJ_
          have e7 : a_.eval (.tmp 7) = _ := st.dep 1 _ 7 rfl rfl (by kernel_rfl)
          try simp only [List.getD_cons_zero, List.getD_cons_succ] at e7
          refine op2_yield _ (by rfl) ?_ rfl (by decide) (by decide) hJ_
          simp only [execOp, e7]
          go_simp
          all_goals first | with_reducible rfl | omega
        · intro b1_ b2_ a_ w_ st x1_ x2_ y1_ y2_ hJ_
          have e8 : a_.eval (.tmp 8) = _ := st.dep 2 _ 8 rfl rfl (by kernel_rfl)
          try simp only [List.getD_cons_zero, List.getD_cons_succ] at e8
          have c3_ := hJ_.1.tab.at_ 3 (v := .slice A n cp) rfl
          refine op2_yield _ (by rfl) ?_ rfl (by decide) (by decide) hJ_
          simp only [execOp, e8]
          go_simp
          all_goals first | with_reducible rfl | omega
        · intro b1_ b2_ a_ w_ st x1_ x2_ y1_ y2_ hJ_
          have e9 : a_.eval (.tmp 9) = _ := st.dep 3 _ 9 rfl rfl (by kernel_rfl)
          try simp only [List.getD_cons_zero, List.getD_cons_succ] at e9
          refine op2_yield _ (by rfl) ?_ rfl (by decide) (by decide) hJ_
          exact run_len Try.underlying24 (by rfl) e9 (by omega)
        · intro b1_ b2_ a_ w_ st x1_ x2_ y1_ y2_ hJ_
          have e0 : a_.eval (.tmp 0) = .pointer (some ⟨p, 0, none⟩) := st.slot 0 (by kernel_rfl)
          try simp only [List.getD_cons_zero, List.getD_cons_succ] at e0
          refine op2_yield _ (by rfl) ?_ rfl (by decide) (by decide) hJ_
          simp only [execOp, e0]
          go_simp
          all_goals first | with_reducible rfl | omega
        · intro b1_ b2_ a_ w_ st x1_ x2_ y1_ y2_ hJ_
          have e11 : a_.eval (.tmp 11) = _ := st.dep 5 _ 11 rfl rfl (by kernel_rfl)
          try simp only [List.getD_cons_zero, List.getD_cons_succ] at e11
          refine op2_yield _ (by rfl) ?_ rfl (by decide) (by decide) hJ_
          simp only [execOp, e11]
          go_simp
          all_goals first | with_reducible rfl | omega
        · intro b1_ b2_ a_ w_ st x1_ x2_ y1_ y2_ hJ_
          have e12 : a_.eval (.tmp 12) = _ := st.dep 6 _ 12 rfl rfl (by kernel_rfl)
          try simp only [List.getD_cons_zero, List.getD_cons_succ] at e12
          refine op2_yield _ (by rfl) ?_ rfl (by decide) (by decide) hJ_
          simp only [execOp, e12]
          go_simp
          all_goals first | with_reducible rfl | omega
        · intro b1_ b2_ a_ w_ st x1_ x2_ y1_ y2_ hJ_
          have e13 : a_.eval (.tmp 13) = _ := st.dep 7 _ 13 rfl rfl (by kernel_rfl)
          try simp only [List.getD_cons_zero, List.getD_cons_succ] at e13
          have c0_ := hJ_.1.tab.at_ 0 (v := .bool R.wide) rfl
          refine op2_yield _ (by rfl) ?_ rfl (by decide) (by decide) hJ_
          simp only [execOp, e13]
          go_simp
          all_goals first | with_reducible rfl | omega
        · intro b1_ b2_ a_ w_ st x1_ x2_ y1_ y2_ hJ_
          have e14 : a_.eval (.tmp 14) = _ := st.dep 8 _ 14 rfl rfl (by kernel_rfl)
          try simp only [List.getD_cons_zero, List.getD_cons_succ] at e14
          exact op2_call Try.func26 (by kernel_rfl) rfl #[.bool R.wide] (by rfl) rfl (by simp [e14]) (VC_stable _) (fun _ _ w1 w2 hb hj => ⟨hj.1.below hb, below_step hj.2 hb⟩) (by decide) (by decide) hJ_ ((SZ.out _).mono fun e w'' h => ⟨_, h.1, h.2, rfl⟩)
        · intro b1_ b2_ a_ w_ st x1_ x2_ y1_ y2_ hJ_
          have e10 : a_.eval (.tmp 10) = _ := st.dep 4 _ 10 rfl rfl (by kernel_rfl)
          have e15 : a_.eval (.tmp 15) = _ := st.dep 9 _ 15 rfl rfl (by kernel_rfl)
          try simp only [List.getD_cons_zero, List.getD_cons_succ] at e10 e15
          refine op2_yield _ (by rfl) ?_ rfl (by decide) (by decide) hJ_
          simp only [execOp, e10, e15]
          go_simp
          all_goals first | with_reducible rfl | omega
      case rgr1 =>
        intro w3 hj0
        have hj := (show IsP w3 p (.slice A n cp) R ∧ Below w.heap.size w w3 from hj0)
        clear hj0
        simp only [putL, Act.put, List.headD_cons, List.tail_cons, List.setIfInBounds_toArray, List.set_cons_zero, List.set_cons_succ]
        have I3 := Aside0.mk hj.1
        have HB3 := Aside0.mk hj.2
        have c0 := hj.1.tab.at_ 0 (v := .bool R.wide) rfl
        have c3 := hj.1.tab.at_ 3 (v := .slice A n cp) rfl
        clear hj
        go_wp2
        go_region_law (go_simp; go_at_call 39; (with_reducible refine (CK.out _ (I3.out.below (below_drew (Below.refl _ _)))).mono ?_); rintro e w5 ⟨v5, rfl, ho, hb⟩; have O5 := Aside0.mk ho; have HB5 := Aside0.mk (below_step (below_drew HB3.out) hb); have HS := Aside0.mk (below_drew HB3.out).size; clear ho hb)
        all_goals go_wp2
        all_goals
          first | go_ret | go_ret2 | ((try simp only [Exit.inBlock, Exit.then]); refine bodyPost_ret (results_tmp3 rfl _ _ _) rfl ?_) | go_end0 | refine bodyPost_ret0 rfl rfl ?_
          exact ⟨_, rfl, O5.out.lower HS.out, HB5.out⟩
    · have HE : Aside0 (endK R.wide R.b = (4, [])) := ⟨by unfold endK; rw [if_neg hnq, hmq, if_neg he]⟩
      rw [HE.out]
      have CK : Aside0 (∀ w', IsP w' p (.slice A n cp) R → Calls Try.prog 39 #[.slice A n cp, .bool R.wide] w' fun e w'' => e = .returned (.tuple #[.slice none 0 0, .int .i64 2]) ∧ Below w'.heap.size w' w'') :=
        ⟨fun w' j => check_bad A n cp m R.b R.wide w' j.row.rds KO.out hn1 (by rw [← hq]; exact hm) he⟩
      have hgi : ((q : Nat) : Int) < ((n : Nat) : Int) := by omega
      clear hn hq i k hmq hnq he hm hg
      go_enter Try.func34, Try.ntmps34
      go_wp2
      refine region_known 11 11 [?rc1_0, ?rc1_1, ?rc1_2, ?rc1_3, .int .i64 ((n : Nat) : Int), ?rc1_5, ?rc1_6, ?rc1_7, ?rc1_8, .int .i64 ((q : Nat) : Int), .bool false] (fun _ _ w' => IsP w' p (.slice A n cp) R ∧ Below w.heap.size w w') (by kernel_rfl) (by kernel_rfl) (by kernel_rfl) (fun _ _ w1 w2 hb hj => ⟨hj.1.below hb, below_step hj.2 hb⟩) (⟨I0.out, Below.refl _ _⟩) ?rgo1 ?rgr1
      case rgo1 =>
        refine ⟨?_, ?_, ?_, ?_, ?_, ?_, ?_, ?_, ?_, ?_, ?_, trivial⟩
        · intro b1_ b2_ a_ w_ st x1_ x2_ y1_ y2_ hJ_
          have e0 : a_.eval (.tmp 0) = .pointer (some ⟨p, 0, none⟩) := st.slot 0 (by kernel_rfl)
          try simp only [List.getD_cons_zero, List.getD_cons_succ] at e0
          refine op2_yield _ (by rfl) ?_ rfl (by decide) (by decide) hJ_
          simp only [execOp, e0]
          go_simp
          all_goals first | with_reducible rfl | omega
        · intro b1_ b2_ a_ w_ st x1_ x2_ y1_ y2_ hJ_
          have e6 : a_.eval (.tmp 6) = _ := st.dep 0 _ 6 rfl rfl (by kernel_rfl)
          try simp only [List.getD_cons_zero, List.getD_cons_succ] at e6
          refine op2_yield _ (by rfl) ?_ rfl (by decide) (by decide) hJ_
          simp only [execOp, e6]
          go_simp
          all_goals first | with_reducible rfl | omega
        · intro b1_ b2_ a_ w_ st x1_ x2_ y1_ y2_ hJ_
          have e7 : a_.eval (.tmp 7) = _ := st.dep 1 _ 7 rfl rfl (by kernel_rfl)
          try simp only [List.getD_cons_zero, List.getD_cons_succ] at e7
          refine op2_yield _ (by rfl) ?_ rfl (by decide) (by decide) hJ_
          simp only [execOp, e7]
          go_simp
          all_goals first | with_reducible rfl | omega
        · intro b1_ b2_ a_ w_ st x1_ x2_ y1_ y2_ hJ_
          have e8 : a_.eval (.tmp 8) = _ := st.dep 2 _ 8 rfl rfl (by kernel_rfl)
          try simp only [List.getD_cons_zero, List.getD_cons_succ] at e8
          have c3_ := hJ_.1.tab.at_ 3 (v := .slice A n cp) rfl
          refine op2_yield _ (by rfl) ?_ rfl (by decide) (by decide) hJ_
          simp only [execOp, e8]
          go_simp
          all_goals first | with_reducible rfl | omega
        · intro b1_ b2_ a_ w_ st x1_ x2_ y1_ y2_ hJ_
          have e9 : a_.eval (.tmp 9) = _ := st.dep 3 _ 9 rfl rfl (by kernel_rfl)
          try simp only [List.getD_cons_zero, List.getD_cons_succ] at e9
          refine op2_yield _ (by rfl) ?_ rfl (by decide) (by decide) hJ_
          exact run_len Try.underlying24 (by rfl) e9 (by omega)
        · intro b1_ b2_ a_ w_ st x1_ x2_ y1_ y2_ hJ_
          have e0 : a_.eval (.tmp 0) = .pointer (some ⟨p, 0, none⟩) := st.slot 0 (by kernel_rfl)
          try simp only [List.getD_cons_zero, List.getD_cons_succ] at e0
          refine op2_yield _ (by rfl) ?_ rfl (by decide) (by decide) hJ_
          simp only [execOp, e0]
          go_simp
          all_goals first | with_reducible rfl | omega
        · intro b1_ b2_ a_ w_ st x1_ x2_ y1_ y2_ hJ_
          have e11 : a_.eval (.tmp 11) = _ := st.dep 5 _ 11 rfl rfl (by kernel_rfl)
          try simp only [List.getD_cons_zero, List.getD_cons_succ] at e11
          refine op2_yield _ (by rfl) ?_ rfl (by decide) (by decide) hJ_
          simp only [execOp, e11]
          go_simp
          all_goals first | with_reducible rfl | omega
        · intro b1_ b2_ a_ w_ st x1_ x2_ y1_ y2_ hJ_
          have e12 : a_.eval (.tmp 12) = _ := st.dep 6 _ 12 rfl rfl (by kernel_rfl)
          try simp only [List.getD_cons_zero, List.getD_cons_succ] at e12
          refine op2_yield _ (by rfl) ?_ rfl (by decide) (by decide) hJ_
          simp only [execOp, e12]
          go_simp
          all_goals first | with_reducible rfl | omega
        · intro b1_ b2_ a_ w_ st x1_ x2_ y1_ y2_ hJ_
          have e13 : a_.eval (.tmp 13) = _ := st.dep 7 _ 13 rfl rfl (by kernel_rfl)
          try simp only [List.getD_cons_zero, List.getD_cons_succ] at e13
          have c0_ := hJ_.1.tab.at_ 0 (v := .bool R.wide) rfl
          refine op2_yield _ (by rfl) ?_ rfl (by decide) (by decide) hJ_
          simp only [execOp, e13]
          go_simp
          all_goals first | with_reducible rfl | omega
        · intro b1_ b2_ a_ w_ st x1_ x2_ y1_ y2_ hJ_
          have e14 : a_.eval (.tmp 14) = _ := st.dep 8 _ 14 rfl rfl (by kernel_rfl)
          try simp only [List.getD_cons_zero, List.getD_cons_succ] at e14
          exact op2_call Try.func26 (by kernel_rfl) rfl #[.bool R.wide] (by rfl) rfl (by simp [e14]) (VC_stable _) (fun _ _ w1 w2 hb hj => ⟨hj.1.below hb, below_step hj.2 hb⟩) (by decide) (by decide) hJ_ ((SZ.out _).mono fun e w'' h => ⟨_, h.1, h.2, rfl⟩)
        · intro b1_ b2_ a_ w_ st x1_ x2_ y1_ y2_ hJ_
          have e10 : a_.eval (.tmp 10) = _ := st.dep 4 _ 10 rfl rfl (by kernel_rfl)
          have e15 : a_.eval (.tmp 15) = _ := st.dep 9 _ 15 rfl rfl (by kernel_rfl)
          try simp only [List.getD_cons_zero, List.getD_cons_succ] at e10 e15
          refine op2_yield _ (by rfl) ?_ rfl (by decide) (by decide) hJ_
          simp only [execOp, e10, e15]
          go_simp
          all_goals first | with_reducible rfl | omega
      case rgr1 =>
        intro w3 hj0
        have hj := (show IsP w3 p (.slice A n cp) R ∧ Below w.heap.size w w3 from hj0)
        clear hj0
        simp only [putL, Act.put, List.headD_cons, List.tail_cons, List.setIfInBounds_toArray, List.set_cons_zero, List.set_cons_succ]
        have I3 := Aside0.mk hj.1
        have HB3 := Aside0.mk hj.2
        have c0 := hj.1.tab.at_ 0 (v := .bool R.wide) rfl
        have c3 := hj.1.tab.at_ 3 (v := .slice A n cp) rfl
        clear hj
        go_wp2
        go_region_law (go_simp; go_at_call 39; (with_reducible refine (CK.out _ (I3.out.below (below_drew (Below.refl _ _)))).mono ?_); rintro e w5 ⟨rfl, hb⟩; have HB5 := Aside0.mk (below_step (below_drew HB3.out) hb); have HS := Aside0.mk (below_drew HB3.out).size; clear hb)
        all_goals go_wp2
        all_goals
          first | go_ret | go_ret2 | ((try simp only [Exit.inBlock, Exit.then]); refine bodyPost_ret (results_tmp3 rfl _ _ _) rfl ?_) | go_end0 | refine bodyPost_ret0 rfl rfl ?_
          exact ⟨_, rfl, Own.nil _ _ _ _, HB5.out⟩

end Go.Proofs.Ytlcemeligolabaa.FmB
