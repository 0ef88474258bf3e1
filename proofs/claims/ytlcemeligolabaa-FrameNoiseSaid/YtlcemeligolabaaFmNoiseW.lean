/- The law of noise ahead of a frame: the walk. -/
import Derived.Test.YtlcemeligolabaaFmH
namespace Go.Proofs.Ytlcemeligolabaa.FmNoiseW
open Go.RowKit Go.Proofs.YtlcemeligolabaaW.PrintWords Go.Proofs.YtlcemeligolabaaW.PrintLast Go.Proofs.YtlcemeligolabaaW.PrintMore Go.Proofs.Ytlcemeligolabaa.K Go.Proofs.Ytlcemeligolabaa.FmP Go.Proofs.Ytlcemeligolabaa.FmA Go.Proofs.Ytlcemeligolabaa.FmB Go.Proofs.Ytlcemeligolabaa.FmC Go.Proofs.Ytlcemeligolabaa.FmF Go.Proofs.Ytlcemeligolabaa.FmG Go.Proofs.Ytlcemeligolabaa.FmH Go.Proofs.Ytlcemeligolabaa.FcP Go.Proofs.Ytlcemeligolabaa.FcA Go.Proofs.Ytlcemeligolabaa.FcB Go.Proofs.Ytlcemeligolabaa.FcC Go.Proofs.Ytlcemeligolabaa.FcR Go.Proofs.Ytlcemeligolabaa.FcD Go.Proofs.Ytlcemeligolabaa.FcE Go.Proofs.Ytlcemeligolabaa.FcF Go.Proofs.Ytlcemeligolabaa.OctPure
set_option linter.unusedVariables false
set_option linter.unusedSimpArgs false
attribute [local go_sem] max2_int min2_int max_two min_two

theorem hear_noise (R : Re) (x body : List Int) (hb : body ≠ []) (hm : ((body.length + sizeT R.wide : Nat) : Int) ≤ R.most) : ∃ X, hear R (x ++ [126] ++ frameL body R.wide) = X ++ [body] := by
  have h0 : ((sizeT R.wide : Nat) : Int) ≤ R.most := by omega
  refine ⟨hear R (x ++ [126]), ?_⟩
  rw [hear_append, after_last, frameL, hear_beg_flag, hear_mid _ _ _ h0, if_pos ⟨hb, hm⟩]
set_option maxHeartbeats 8000000 in
set_option maxRecDepth 100000 in
theorem noise_in (A1 A2 : Option Addr) (n1 c1 n2 c2 : Nat) (x l : List Int) (wide : Bool) (w : World) (r1 : Rds (Kd.int .u8) w A1 n1 c1 x) (r2 : Rds (Kd.int .u8) w A2 n2 c2 l) (o1 : octOk x) (o2 : octOk l) (h1 : n1 ≤ 300) (h2 : 1 ≤ n2) (h3 : n2 ≤ 200) :
    Calls Try.prog 8 #[.slice A1 n1 c1, .slice A2 n2 c2, .bool wide] w fun e w' => e = .returned (.bool true) ∧ Below w.heap.size w w' := by
  have HR1 := Aside0.mk r1
  have HR2 := Aside0.mk r2
  have O2 := Aside0.mk o2
  have hl1 := r1.len
  have hl2 := r2.len
  obtain ⟨F, hF⟩ : ∃ F, F = frameL l wide := ⟨_, rfl⟩
  obtain ⟨T, hT⟩ : ∃ T, T = x ++ [126] ++ F := ⟨_, rfl⟩
  have OF : octOk F := by rw [hF]; exact frameL_oct o2 wide
  have OT : octOk T := by
    rw [hT]
    intro y hy
    rcases List.mem_append.1 hy with hy | hy
    · rcases List.mem_append.1 hy with hy | hy
      · exact o1 y hy
      · simp at hy
        omega
    · exact OF y hy
  obtain ⟨q, hq⟩ : ∃ q, F.length = q := ⟨_, rfl⟩
  have hq2 : q ≤ 410 := by rw [← hq, hF]; have := frameL_len l wide; omega
  obtain ⟨k, hk⟩ : ∃ k, T.length = k := ⟨_, rfl⟩
  have hk2 : k ≤ 800 := by rw [← hk, hT]; simp; omega
  obtain ⟨X, hX⟩ : ∃ X, hear (newR 300 wide) T = X ++ [l] := by
    rw [hT, hF]
    refine hear_noise (newR 300 wide) x l (by intro h; rw [h] at hl2; simp at hl2; omega) ?_
    show ((l.length + sizeT wide : Nat) : Int) ≤ cut5 300 + ((sizeT wide : Nat) : Int)
    have : cut5 300 = 300 := by decide
    omega
  have PX := Aside0.mk (fun w' (hb : Below w.heap.size w w') => (show Calls Try.prog 11 #[.slice A2 n2 c2, .bool wide] w' fun e w'' => ∃ v, e = .returned v ∧ Own (Kd.int .u8) 5 w'.heap.size w'' v F ∧ Below w'.heap.size w' w'' by rw [hF]; exact fput_ok A2 n2 c2 l wide w' (r2.below hb) o2 (by omega)))
  have HE := Aside0.mk (fun w' A' c' (hr : Rds (Kd.int .u8) w' A' k c' T) => (show Calls Try.prog 12 #[.int .i64 300, .bool wide, .slice A' k c'] w' fun e w'' => ∃ A1 c1, e = .returned (.slice A1 (X.length + 1) c1) ∧ Own Kd.string 9 w'.heap.size w'' (.slice A1 (X.length + 1) c1) (X.map strOfNums ++ [strOfNums l]) ∧ Below w'.heap.size w' w'' by
    have := heard_ok 300 wide A' k c' T w' hr OT (by omega)
    rw [hX] at this
    simpa using this))
  have HQ := Aside0.mk hq
  have HT := Aside0.mk hT
  have HK := Aside0.mk hk
  have L1 := Aside0.mk hl1
  have hxx : X.length ≤ 1000 := by
    have := hear_len T (newR 300 wide)
    rw [hX] at this
    simp at this
    omega
  obtain ⟨m, hm⟩ : ∃ m, m = X.length := ⟨_, rfl⟩
  rw [← hm] at HE hxx
  have HM := Aside0.mk hm
  obtain ⟨mm, hmm⟩ : ∃ mm, mm = m + 1 := ⟨_, rfl⟩
  rw [← hmm] at HE
  have hge : (1 : Int) ≤ (mm : Int) := by omega
  have hmx : (m : Int) < (mm : Int) := by omega
  have hmy : mm ≤ 2000 := by omega
  have ew : IntKind.i64.wrap ((mm : Int) - 1) = ((m : Nat) : Int) := by rw [i64_w]; unfold wrap64; omega
  clear r1 r2 o1 o2 hl1 hl2 hF hT OF OT hq hk hX hm hmm
  go_enter Try.func8, Try.ntmps8
  go_wp2_with (first
    | (go_at_call 10; (with_reducible refine (alive_ok _).mono ?_); rintro e w1 ⟨rfl, hb1⟩; have HB1 := Aside0.mk hb1; clear hb1)
    | (at_builtin; refine app_rowi Try.underlying24 info5 rfl (by decide) (.const (.slice none 0 0)) (.tmp 29) rfl rfl rfl rfl (Own.nil (Kd.int .u8) 5 w.heap.size w1) (HR1.out.below HB1.out) HB1.out HB1.out.size (by simp; omega) ?_; intro v2 w2 ho hb _; obtain ⟨A3, c3, rfl, _⟩ := ho.sliceN (n := n1) (by simpa using L1.out.symm); have B2 := Aside0.mk hb; have P2 := Aside0.mk (show Own (Kd.int .u8) 5 w.heap.size w2 (.slice A3 n1 c3) x by simpa using ho); clear ho hb)
    | (at_builtin; refine app_int Try.underlying24 info5 rfl (by decide) (.tmp 30) (.tmp 31) rfl rfl rfl rfl P2.out B2.out B2.out.size (by have := L1.out; omega) ?_; intro v3 w3 ho hb _; obtain ⟨A4, c4, rfl, _⟩ := ho.sliceN (n := n1 + 1) (by simpa using L1.out.symm); have B3 := Aside0.mk hb; have P3 := Aside0.mk ho; clear ho hb P2)
    | (go_at_call 11; (with_reducible refine (PX.out _ B3.out).mono ?_); rintro e w4 ⟨v4, rfl, ho, hb⟩; obtain ⟨A5, c5, rfl, _⟩ := ho.sliceN HQ.out; have B4 := Aside0.mk (below_step B3.out hb); have P4 := Aside0.mk ho; have P5 := Aside0.mk (P3.out.below hb); clear ho hb P3)
    | (at_builtin; refine app_rowi Try.underlying24 info5 rfl (by decide) (.tmp 32) (.tmp 35) rfl rfl rfl rfl P5.out P4.out.rds B4.out B4.out.size (by have := L1.out; simp; omega) ?_; intro v5 w5 ho hb _; rw [← HT.out] at ho; obtain ⟨A6, c6, rfl, _⟩ := ho.sliceN HK.out; have B5 := Aside0.mk hb; have P6 := Aside0.mk ho; clear ho hb P5 P4)
    | (go_at_call 12; (with_reducible refine (HE.out _ _ _ P6.out.rds).mono ?_); rintro e w6 ⟨A7, c7, rfl, ho, hb⟩; have B6 := Aside0.mk (below_step B5.out hb); have P7 := Aside0.mk ho; clear ho hb P6))
  obtain ⟨ad, hA, hcell⟩ := Kd.at_string P7.out.rds.row ((m : Nat) : Int) (by omega) (by omega)
  subst hA
  have hrd : rdOf ByteArray.empty (X.map strOfNums ++ [strOfNums l]) ((m : Nat) : Int) = strOfNums l := by
    rw [HM.out]
    simp [rdOf, List.getD_eq_getElem?_getD]
  rw [hrd, Int.toNat_natCast] at hcell
  have CV := conv22 A2 n2 c2 l w6.drew ((HR2.out.below B6.out).below (below_drew (Below.refl _ _)))
  have B7 := Aside0.mk (below_drew B6.out)
  clear hrd P7
  go_region
  go_wp2
  first | go_ret | go_ret2 | ((try simp only [Exit.inBlock, Exit.then]); refine bodyPost_ret (results_tmp3 rfl _ _ _) rfl ?_) | go_end0 | refine bodyPost_ret0 rfl rfl ?_
  exact ⟨rfl, B7.out⟩
set_option maxHeartbeats 8000000 in
set_option maxRecDepth 100000 in
theorem noise_early (A1 A2 : Option Addr) (n1 c1 n2 c2 : Nat) (wide : Bool) (w : World) (h : 300 < n1 ∨ n2 < 1 ∨ 200 < n2) (m1 : n1 ≤ 9223372036854775807) (m2 : n2 ≤ 9223372036854775807) :
    Calls Try.prog 8 #[.slice A1 n1 c1, .slice A2 n2 c2, .bool wide] w fun e w' => e = .returned (.bool true) ∧ Below w.heap.size w w' := by
  have key : (300 : Int) < (n1 : Int) ∨ (¬ (300 : Int) < (n1 : Int) ∧ (n2 : Int) < 1) ∨ (¬ (300 : Int) < (n1 : Int) ∧ ¬ (n2 : Int) < 1 ∧ (200 : Int) < (n2 : Int)) := by omega
  clear h
  rcases key with h1 | ⟨h1, h2⟩ | ⟨h1, h2, h3⟩
  all_goals
    go_enter Try.func8, Try.ntmps8
    go_wp2_with (first | (go_at_call 10; (with_reducible refine (alive_ok _).mono ?_); rintro e w1 ⟨rfl, hb1⟩; have HB1 := Aside0.mk hb1; clear hb1))
    first | go_ret | go_ret2 | ((try simp only [Exit.inBlock, Exit.then]); refine bodyPost_ret (results_tmp3 rfl _ _ _) rfl ?_) | go_end0 | refine bodyPost_ret0 rfl rfl ?_
    exact ⟨rfl, HB1.out⟩
theorem walk (a0 : Option Addr) (len0 cap0 : Nat) (z0 : List Int) (a1 : Option Addr) (len1 cap1 : Nat) (z1 : List Int) (a2 : Bool) (W : World) (w0 : IsRow .u8 W a0 len0 cap0 z0) (_y0 : len0 * 1 ≤ 140737488351232) (w1 : IsRow .u8 W a1 len1 cap1 z1) (_y1 : len1 * 1 ≤ 140737488351232) :
    Calls Try.prog 8 #[.slice a0 len0 cap0, .slice a1 len1 cap1, .bool a2] W fun e w' => e = .returned (.bool true) ∧ Below W.heap.size W w' := by
  obtain ⟨x, hr, hm, hw⟩ := rds_of_row w0
  obtain ⟨l, hr2, hm2, hw2⟩ := rds_of_row w1
  by_cases h : 300 < len0 ∨ len1 < 1 ∨ 200 < len1
  · exact noise_early a0 a1 len0 cap0 len1 cap1 a2 W h hm hm2
  · exact noise_in a0 a1 len0 cap0 len1 cap1 x l a2 W hr hr2 (fun x hx => wf_u8 (hw x hx)) (fun x hx => wf_u8 (hw2 x hx)) (by omega) (by omega) (by omega)

end Go.Proofs.Ytlcemeligolabaa.FmNoiseW
