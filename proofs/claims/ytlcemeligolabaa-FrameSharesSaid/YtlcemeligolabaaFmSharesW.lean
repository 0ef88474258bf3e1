/- The law of shared Flags: the walk. -/
import Derived.Test.YtlcemeligolabaaFmH
import Derived.Test.YtlcemeligolabaaOpenC
namespace Go.Proofs.Ytlcemeligolabaa.FmSharesW
open Go.RowKit Go.Proofs.YtlcemeligolabaaW.PrintWords Go.Proofs.YtlcemeligolabaaW.PrintLast Go.Proofs.YtlcemeligolabaaW.PrintMore Go.Proofs.Ytlcemeligolabaa.K Go.Proofs.Ytlcemeligolabaa.FmP Go.Proofs.Ytlcemeligolabaa.FmA Go.Proofs.Ytlcemeligolabaa.FmB Go.Proofs.Ytlcemeligolabaa.FmC Go.Proofs.Ytlcemeligolabaa.FmF Go.Proofs.Ytlcemeligolabaa.FmG Go.Proofs.Ytlcemeligolabaa.FmH Go.Proofs.Ytlcemeligolabaa.FcP Go.Proofs.Ytlcemeligolabaa.FcA Go.Proofs.Ytlcemeligolabaa.FcB Go.Proofs.Ytlcemeligolabaa.FcC Go.Proofs.Ytlcemeligolabaa.FcR Go.Proofs.Ytlcemeligolabaa.FcD Go.Proofs.Ytlcemeligolabaa.FcE Go.Proofs.Ytlcemeligolabaa.FcF Go.Proofs.Ytlcemeligolabaa.OctPure Go.Proofs.Ytlcemeligolabaa.OpenC
set_option linter.unusedVariables false
set_option linter.unusedSimpArgs false
attribute [local go_sem] max2_int min2_int max_two min_two

def flat (wide : Bool) (l : List (List Int)) : List Int := l.flatMap (fun x => midL x wide ++ [126])
theorem flat_snoc (wide : Bool) (l : List (List Int)) (x : List Int) : flat wide (l ++ [x]) = flat wide l ++ (midL x wide ++ [126]) := by simp [flat]
theorem flat_len (wide : Bool) (l : List (List Int)) (h : ∀ x ∈ l, 1 ≤ x.length ∧ x.length ≤ 100) : (flat wide l).length ≤ 209 * l.length := by
  induction l with
  | nil => simp [flat]
  | cons x l ih =>
    have := ih (fun y hy => h y (by simp [hy]))
    have h1 := midL_len x wide
    have h2 := h x (by simp)
    have e : flat wide (x :: l) = (midL x wide ++ [126]) ++ flat wide l := by simp [flat]
    rw [e, List.length_append, List.length_append, List.length_cons]
    simp
    omega
theorem flat_oct (wide : Bool) (l : List (List Int)) (h : ∀ x ∈ l, octOk x) : octOk (flat wide l) := by
  intro y hy
  simp only [flat, List.mem_flatMap, List.mem_append, List.mem_singleton] at hy
  obtain ⟨x, hx, hy⟩ := hy
  rcases hy with hy | rfl
  · exact midL_oct (h x hx) wide y hy
  · omega
theorem hear_flat (wide : Bool) (m : Int) (l : List (List Int)) (h : ∀ x ∈ l, 1 ≤ x.length ∧ x.length ≤ 100) (hm : 100 + ((sizeT wide : Nat) : Int) ≤ m) : hear (beg wide m) (flat wide l) = l := by
  induction l with
  | nil => rfl
  | cons x l ih =>
    have h2 := h x (by simp)
    have e : flat wide (x :: l) = (midL x wide ++ [126]) ++ flat wide l := by simp [flat]
    rw [e, hear_append, hear_mid wide m x (by omega), if_pos ⟨by intro h; rw [h] at h2; simp at h2, by omega⟩, after_last]
    show [x] ++ hear (beg wide m) (flat wide l) = _
    rw [ih (fun y hy => h y (by simp [hy]))]
    rfl
theorem hear_shares (wide : Bool) (l : List (List Int)) (h : ∀ x ∈ l, 1 ≤ x.length ∧ x.length ≤ 100) : hear (newR 100 wide) (126 :: flat wide l) = l := by
  rw [hear_flag]
  have e : (newR 100 wide).clr = beg wide (cut5 100 + ((sizeT wide : Nat) : Int)) := rfl
  rw [e, hear_flat wide _ l h (by have : cut5 100 = 100 := by decide
                                  omega)]
  rfl
theorem rds_tail {w : World} {g q c : Nat} {x : Int} {M : List Int} (h : Rds (Kd.int .u8) w (some ⟨g, 0, none⟩) (q + 1) c (x :: M)) : Rds (Kd.int .u8) w (some ⟨g, 1, none⟩) q (c - 1) M := by
  have hr := reads_of_rds h
  have hc := h.cap
  refine rds_of_reads ⟨by have := hr.1; simpa using this, by have := hr.2.1; omega, fun hq => ⟨_, rfl, fun j hj => ?_⟩⟩ (by omega)
  obtain ⟨ad, e, hcell⟩ := hr.2.2 (by omega)
  cases e
  have := hcell (j + 1) (by omega)
  rw [add_at] at this ⊢
  rw [show 0 + (j + 1) = 1 + j by omega] at this
  simpa using this
theorem take_sg {α : Type} (l : List α) (i : Nat) (x : α) (h : l[i]? = some x) : l.take (i + 1) = l.take i ++ [x] := by
  have hi := (List.getElem?_eq_some_iff.1 h)
  obtain ⟨hi, e⟩ := hi
  rw [List.take_succ_eq_append_getElem hi, e]
set_option maxHeartbeats 8000000 in
set_option maxRecDepth 100000 in
theorem shares_in (A : Option Addr) (n c : Nat) (l : List (List Int)) (wide : Bool) (w : World) (hr : Grid w A n c l) (hn : n ≤ 20) :
    Calls Try.prog 3 #[.slice A n c, .bool wide] w fun e w' => e = .returned (.bool true) ∧ Below w.heap.size w w' := by
  have HR := Aside0.mk hr
  have HN := Aside0.mk hr.len
  have hcn := hr.cap
  have g1 : ¬ (20 : Int) < ((n : Nat) : Int) := by omega
  clear hr
  go_enter Try.func3, Try.ntmps3
  go_wp2_with (first | (go_at_call 10; (with_reducible refine (alive_ok _).mono ?_); rintro e w1 ⟨rfl, hb1⟩; have HB1 := Aside0.mk hb1; clear hb1))
  have L1 := Aside0.mk (show Own (Kd.int .u8) 5 w.heap.size (w1.alloc (.cells #[.int .u8 126] 5)) (.slice (some ⟨w1.heap.size, 0, none⟩) 1 1) (126 :: flat wide (l.take 0)) from one8 w.heap.size w1 126 HB1.out.size)
  have B1 := Aside0.mk (below_alloc HB1.out (.cells #[.int .u8 126] 5))
  go_loopg [6, 7] (n + 1) (fun kq v6 v7 w' => ∃ (i : Nat), v7 = .int .i64 i ∧ i ≤ n ∧ kq = n + 1 - i ∧ Aside0 (∀ x ∈ l.take i, 1 ≤ x.length ∧ x.length ≤ 100 ∧ octOk x) ∧ Aside0 (Own (Kd.int .u8) 5 w.heap.size w' v6 (126 :: flat wide (l.take i))) ∧ Aside0 (Below w.heap.size w w'))
  case atStart => exact ⟨0, rfl, by omega, by omega, ⟨fun x hx => by simp at hx⟩, L1, B1⟩
  case round =>
    clear L1 B1 HB1
    obtain ⟨i, rfl, hi, hkq, HG, O2, B2⟩ := hrel
    by_cases hlt : i < n
    · obtain ⟨x, hx⟩ : ∃ x, l[i]? = some x := ⟨l[i]'(by have := HN.out; omega), by simp⟩
      obtain ⟨ad, v, hA, hc0, hv⟩ := HR.out.at_ i x hx
      cases hA
      obtain ⟨⟨A3, n3, c3, rfl, r3, m3⟩, o3⟩ := hv
      have hc := (B2.out.cell (World.block_lt_of_cell? w _ hc0)).trans hc0
      have L3 := Aside0.mk r3.len
      have TS := Aside0.mk (take_sg l i x hx)
      have R3 := Aside0.mk r3
      have O3 := Aside0.mk (show octOk x from o3)
      have FL := Aside0.mk (flat_len wide (l.take i) (fun y hy => ⟨(HG.out y hy).1, (HG.out y hy).2.1⟩))
      clear hc0 r3 o3 hx
      by_cases g2 : ((n3 : Nat) : Int) < 1
      · go_wp2_with fail
        first | go_ret | go_ret2 | ((try simp only [Exit.inBlock, Exit.then]); refine bodyPost_ret (results_tmp3 rfl _ _ _) rfl ?_) | go_end0 | refine bodyPost_ret0 rfl rfl ?_
        exact ⟨rfl, B2.out⟩
      · by_cases g3 : (100 : Int) < ((n3 : Nat) : Int)
        · go_wp2_with fail
          first | go_ret | go_ret2 | ((try simp only [Exit.inBlock, Exit.then]); refine bodyPost_ret (results_tmp3 rfl _ _ _) rfl ?_) | go_end0 | refine bodyPost_ret0 rfl rfl ?_
          exact ⟨rfl, B2.out⟩
        · obtain ⟨M, hM⟩ : ∃ M, M = midL x wide ++ [126] := ⟨_, rfl⟩
          obtain ⟨q, hq⟩ : ∃ q, M.length = q := ⟨_, rfl⟩
          have hq1 : 1 ≤ q := by rw [← hq, hM]; simp
          have hq2 : q ≤ 209 := by rw [← hq, hM]; have := midL_len x wide; have := L3.out; simp; omega
          have PX := Aside0.mk (fun w' (hb : Below w.heap.size w w') => (show Calls Try.prog 11 #[.slice A3 n3 c3, .bool wide] w' fun e w'' => ∃ v, e = .returned v ∧ Own (Kd.int .u8) 5 w'.heap.size w'' v (126 :: M) ∧ Below w'.heap.size w' w'' by rw [hM]; exact fput_ok A3 n3 c3 x wide w' (R3.out.below hb) O3.out (by omega)))
          have HM := Aside0.mk hM
          have HQ := Aside0.mk hq
          have HX := Aside0.mk (show 1 ≤ x.length ∧ x.length ≤ 100 by have := L3.out; omega)
          obtain ⟨nf, hnf⟩ : ∃ nf, (126 :: flat wide (l.take i)).length = nf := ⟨_, rfl⟩
          obtain ⟨A2, c2, hv2, hc2⟩ := O2.out.sliceN hnf
          subst hv2
          have NF := Aside0.mk hnf
          clear hM hq hnf
          go_wp2_with (first
            | (go_at_call 11; (with_reducible refine (PX.out _ B2.out).mono ?_); rintro e w4 ⟨v4, rfl, ho, hb⟩; obtain ⟨A4, c4, rfl, hc4⟩ := ho.sliceN (n := q + 1) (by simp [HQ.out]); obtain ⟨g, hA, _⟩ := Own.elem (enc := Value.int .u8) (h1 := fun _ => rfl) (0 : Int) ho 0 (by omega); subst hA; have hc41 : ¬ c4 = 1 := (by omega); have B4 := Aside0.mk (below_step B2.out hb); have P4 := Aside0.mk (rds_tail ho.rds); have P24 := Aside0.mk (O2.out.below hb); clear ho hb)
            | (at_builtin; refine app_rowi Try.underlying24 info5 rfl (by decide) (.tmp 40) (.tmp 47) rfl rfl rfl rfl P24.out P4.out B4.out B4.out.size (by have := FL.out; have h3 := HG.out; simp; rw [List.length_take] at this; omega) ?_; intro v5 w5 ho hb _; have B5 := Aside0.mk hb; have P5 := Aside0.mk ho; clear ho hb P24))
          go_roundg (n - i)
          case measure => omega
          case rel => exact ⟨i + 1, by go_num, by omega, by omega, ⟨fun y hy => by
            rw [TS.out] at hy
            rcases List.mem_append.1 hy with hy | hy
            · exact HG.out y hy
            · simp at hy
              subst hy
              exact ⟨HX.out.1, HX.out.2, O3.out⟩⟩, ⟨by have := P5.out; rw [TS.out, flat_snoc, ← HM.out]; exact this⟩, B5⟩
    · have hi2 : i = n := by omega
      subst hi2
      rw [List.take_of_length_le (by have := HN.out; omega)] at HG O2
      obtain ⟨T, hT⟩ : ∃ T, T = 126 :: flat wide l := ⟨_, rfl⟩
      have hT2 : hear (newR 100 wide) T = l := by rw [hT]; exact hear_shares wide l (fun y hy => ⟨(HG.out y hy).1, (HG.out y hy).2.1⟩)
      have OT : octOk T := by
        rw [hT]
        intro y hy
        rcases List.mem_cons.1 hy with rfl | hy
        · omega
        · exact flat_oct wide l (fun x hx => (HG.out x hx).2.2) y hy
      rw [← hT] at O2
      obtain ⟨k, hk⟩ : ∃ k, T.length = k := ⟨_, rfl⟩
      have hk2 : k ≤ 100000 := by have := flat_len wide l (fun y hy => ⟨(HG.out y hy).1, (HG.out y hy).2.1⟩); have := HN.out; rw [← hk, hT, List.length_cons]; omega
      obtain ⟨A2, c2, hv2, hc2⟩ := O2.out.sliceN hk
      subst hv2
      have HE := Aside0.mk (heard_ok 100 wide A2 k c2 T wr O2.out.rds OT (by omega))
      rw [hT2, ← HN.out] at HE
      clear hT hT2 OT hk
      go_wp2_with (first | (go_at_call 12; (with_reducible refine HE.out.mono ?_); rintro e w5 ⟨A5, c5, rfl, ho, hb⟩; have B5 := Aside0.mk (below_step B2.out hb); have P5 := Aside0.mk ho; clear ho hb))
      go_loopg [9] (i + 1) (fun kq v9 w' => ∃ (j : Nat), v9 = .int .i64 j ∧ j ≤ i ∧ kq = i + 1 - j ∧ Aside0 (Below w5.heap.size w5 w'))
      case atStart => exact ⟨0, rfl, by omega, by omega, ⟨Below.refl _ _⟩⟩
      case round =>
        obtain ⟨j, rfl, hj, hkq, B6⟩ := hrel
        by_cases hlt : j < i
        · obtain ⟨x, hx⟩ : ∃ x, l[j]? = some x := ⟨l[j]'(by have := HN.out; omega), by simp⟩
          obtain ⟨ad, v, hA, hc0, hv⟩ := HR.out.at_ j x hx
          cases hA
          obtain ⟨⟨A3, n3, c3, rfl, r3, m3⟩, o3⟩ := hv
          have BW := Aside0.mk (below_step B5.out B6.out)
          have FC := Aside0.mk (fun w' (hb : Below wr.heap.size wr w') => (((below_step BW.out hb).cell (World.block_lt_of_cell? w _ hc0)).trans hc0))
          obtain ⟨ad2, hA2, hcell⟩ := Kd.at_string P5.out.rds.row ((j : Nat) : Int) (by omega) (by omega)
          cases hA2
          have hrd : rdOf ByteArray.empty (l.map strOfNums) ((j : Nat) : Int) = strOfNums x := by
            simp [rdOf, List.getD_eq_getElem?_getD, hx]
          rw [hrd, Int.toNat_natCast] at hcell
          have FG := Aside0.mk (fun w' (hb : Below wr.heap.size wr w') => (((below_step B6.out hb).cell (World.block_lt_of_cell? w5 _ hcell)).trans hcell))
          have CV := Aside0.mk (fun w' (hb : Below wr.heap.size wr w') => conv22 A3 n3 c3 x w' (r3.below (below_step BW.out hb)))
          have hji : ((j : Nat) : Int) < ((i : Nat) : Int) := by omega
          clear hc0 r3 o3 hx hrd hcell
          go_wp2_with fail
          refine region_known 10 10 [?rca17_0, ?rca17_1, ?rca17_2, .string (strOfNums x), ?rca17_4, ?rca17_5, ?rca17_6, .slice A3 n3 c3, .string (strOfNums x), .bool false] (fun _ _ w' => Below wr.heap.size wr w') (by kernel_rfl) (by kernel_rfl) (by kernel_rfl) (fun _ _ w1 w2 hb hj => below_step hj hb) (Below.refl _ _) ?rgoa17 ?rgra17
          case rgoa17 =>
            refine ⟨?_, ?_, ?_, ?_, ?_, ?_, ?_, ?_, ?_, ?_, trivial⟩
            · intro b1_ b2_ a_ w_ st x1_ x2_ y1_ y2_ hJ_
              have e8 : a_.eval (.tmp 8) = .slice (some ad2) i c5 := st.slot 8 (by kernel_rfl)
              try simp only [List.getD_cons_zero, List.getD_cons_succ] at e8
              refine op2_yield _ (by rfl) ?_ rfl (by decide) (by decide) hJ_
              simp only [execOp, e8]
              go_simp
              all_goals first | with_reducible rfl | omega
            · intro b1_ b2_ a_ w_ st x1_ x2_ y1_ y2_ hJ_
              have e9 : a_.eval (.tmp 9) = .int .i64 ((j : Nat) : Int) := st.slot 9 (by kernel_rfl)
              try simp only [List.getD_cons_zero, List.getD_cons_succ] at e9
              refine op2_yield _ (by rfl) ?_ rfl (by decide) (by decide) hJ_
              simp only [execOp, e9]
              go_simp
              all_goals first | with_reducible rfl | omega
            · intro b1_ b2_ a_ w_ st x1_ x2_ y1_ y2_ hJ_
              have e63 : a_.eval (.tmp 63) = _ := st.dep 0 _ 63 rfl rfl (by kernel_rfl)
              have e64 : a_.eval (.tmp 64) = _ := st.dep 1 _ 64 rfl rfl (by kernel_rfl)
              try simp only [List.getD_cons_zero, List.getD_cons_succ] at e63 e64
              refine op2_yield _ (by rfl) ?_ rfl (by decide) (by decide) hJ_
              simp only [execOp, e63, e64]
              go_simp
              all_goals first | with_reducible rfl | omega
            · intro b1_ b2_ a_ w_ st x1_ x2_ y1_ y2_ hJ_
              have e65 : a_.eval (.tmp 65) = _ := st.dep 2 _ 65 rfl rfl (by kernel_rfl)
              try simp only [List.getD_cons_zero, List.getD_cons_succ] at e65
              have hc_ := FG.out w_ hJ_
              refine op2_yield _ (by rfl) ?_ rfl (by decide) (by decide) hJ_
              simp only [execOp, e65]
              go_simp
              all_goals first | with_reducible rfl | omega
            · intro b1_ b2_ a_ w_ st x1_ x2_ y1_ y2_ hJ_
              have e0 : a_.eval (.tmp 0) = .slice (some ad) i c := st.slot 0 (by kernel_rfl)
              try simp only [List.getD_cons_zero, List.getD_cons_succ] at e0
              refine op2_yield _ (by rfl) ?_ rfl (by decide) (by decide) hJ_
              simp only [execOp, e0]
              go_simp
              all_goals first | with_reducible rfl | omega
            · intro b1_ b2_ a_ w_ st x1_ x2_ y1_ y2_ hJ_
              have e9 : a_.eval (.tmp 9) = .int .i64 ((j : Nat) : Int) := st.slot 9 (by kernel_rfl)
              try simp only [List.getD_cons_zero, List.getD_cons_succ] at e9
              refine op2_yield _ (by rfl) ?_ rfl (by decide) (by decide) hJ_
              simp only [execOp, e9]
              go_simp
              all_goals first | with_reducible rfl | omega
            · intro b1_ b2_ a_ w_ st x1_ x2_ y1_ y2_ hJ_
              have e67 : a_.eval (.tmp 67) = _ := st.dep 4 _ 67 rfl rfl (by kernel_rfl)
              have e68 : a_.eval (.tmp 68) = _ := st.dep 5 _ 68 rfl rfl (by kernel_rfl)
              try simp only [List.getD_cons_zero, List.getD_cons_succ] at e67 e68
              refine op2_yield _ (by rfl) ?_ rfl (by decide) (by decide) hJ_
              simp only [execOp, e67, e68]
              go_simp
              all_goals first | with_reducible rfl | omega
            · intro b1_ b2_ a_ w_ st x1_ x2_ y1_ y2_ hJ_
              have e69 : a_.eval (.tmp 69) = _ := st.dep 6 _ 69 rfl rfl (by kernel_rfl)
              try simp only [List.getD_cons_zero, List.getD_cons_succ] at e69
              have hc_ := FC.out w_ hJ_
              refine op2_yield _ (by rfl) ?_ rfl (by decide) (by decide) hJ_
              simp only [execOp, e69]
              go_simp
              all_goals first | with_reducible rfl | omega
            · intro b1_ b2_ a_ w_ st x1_ x2_ y1_ y2_ hJ_
              have e70 : a_.eval (.tmp 70) = _ := st.dep 7 _ 70 rfl rfl (by kernel_rfl)
              try simp only [List.getD_cons_zero, List.getD_cons_succ] at e70
              have hc_ := CV.out w_ hJ_
              refine op2_yield _ (by rfl) ?_ rfl (by decide) (by decide) hJ_
              simp [execOp, e70, hc_]
            · intro b1_ b2_ a_ w_ st x1_ x2_ y1_ y2_ hJ_
              have e66 : a_.eval (.tmp 66) = _ := st.dep 3 _ 66 rfl rfl (by kernel_rfl)
              have e71 : a_.eval (.tmp 71) = _ := st.dep 8 _ 71 rfl rfl (by kernel_rfl)
              try simp only [List.getD_cons_zero, List.getD_cons_succ] at e66 e71
              refine op2_yield _ (by rfl) ?_ rfl (by decide) (by decide) hJ_
              simp only [execOp, e66, e71]
              go_simp
              all_goals first | with_reducible rfl | omega
          case rgra17 =>
            intro w7 hj7
            have hj7 := (show Below wr.heap.size wr w7 from hj7)
            simp only [putL, Act.put, List.headD_cons, List.tail_cons, List.setIfInBounds_toArray, List.set_cons_zero, List.set_cons_succ]
            have B7 := Aside0.mk (below_step B6.out hj7)
            clear hj7
            go_wp2
            go_roundg (i - j)
            case measure => omega
            case rel => exact ⟨j + 1, by go_num, by omega, by omega, B7⟩
        · have hj2 : j = i := by omega
          subst hj2
          have BW := Aside0.mk (below_step B5.out B6.out)
          go_wp2_with fail
          first | go_ret | go_ret2 | ((try simp only [Exit.inBlock, Exit.then]); refine bodyPost_ret (results_tmp3 rfl _ _ _) rfl ?_) | go_end0 | refine bodyPost_ret0 rfl rfl ?_
          exact ⟨rfl, BW.out⟩

set_option maxHeartbeats 8000000 in
set_option maxRecDepth 100000 in
theorem shares_long (A : Option Addr) (n c : Nat) (wide : Bool) (w : World) (h : 20 < n) (hm : n ≤ 9223372036854775807) :
    Calls Try.prog 3 #[.slice A n c, .bool wide] w fun e w' => e = .returned (.bool true) ∧ Below w.heap.size w w' := by
  have h1 : (20 : Int) < (n : Int) := by omega
  clear h
  go_enter Try.func3, Try.ntmps3
  go_wp2_with (first | (go_at_call 10; (with_reducible refine (alive_ok _).mono ?_); rintro e w1 ⟨rfl, hb1⟩; have HB1 := Aside0.mk hb1; clear hb1))
  first | go_ret | go_ret2 | ((try simp only [Exit.inBlock, Exit.then]); refine bodyPost_ret (results_tmp3 rfl _ _ _) rfl ?_) | go_end0 | refine bodyPost_ret0 rfl rfl ?_
  exact ⟨rfl, HB1.out⟩
theorem walk (a0 : Option Addr) (len0 cap0 : Nat) (z0 : List (List Int)) (a1 : Bool) (W : World) (w0 : Grid W a0 len0 cap0 z0) :
    Calls Try.prog 3 #[.slice a0 len0 cap0, .bool a1] W fun e w' => e = .returned (.bool true) ∧ Below W.heap.size W w' := by
  rcases Nat.lt_or_ge 20 len0 with h | h
  · exact shares_long a0 len0 cap0 a1 W h w0.max
  · exact shares_in a0 len0 cap0 z0 a1 W w0 h

end Go.Proofs.Ytlcemeligolabaa.FmSharesW
