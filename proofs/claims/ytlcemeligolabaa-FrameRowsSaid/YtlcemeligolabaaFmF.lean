/- Contracts of Put, and of the reference's Frame. -/
import Derived.Test.YtlcemeligolabaaFmS
namespace Go.Proofs.Ytlcemeligolabaa.FmF
open Go.RowKit Go.Proofs.YtlcemeligolabaaW.PrintWords Go.Proofs.YtlcemeligolabaaW.PrintLast Go.Proofs.YtlcemeligolabaaW.PrintMore Go.Proofs.Ytlcemeligolabaa.K Go.Proofs.Ytlcemeligolabaa.FmP Go.Proofs.Ytlcemeligolabaa.FmA Go.Proofs.Ytlcemeligolabaa.FcP Go.Proofs.Ytlcemeligolabaa.FcA Go.Proofs.Ytlcemeligolabaa.FcB Go.Proofs.Ytlcemeligolabaa.FcC Go.Proofs.Ytlcemeligolabaa.FcR Go.Proofs.Ytlcemeligolabaa.FcD Go.Proofs.Ytlcemeligolabaa.FcE Go.Proofs.Ytlcemeligolabaa.FcF Go.Proofs.Ytlcemeligolabaa.OctPure
set_option linter.unusedVariables false
set_option linter.unusedSimpArgs false
attribute [local go_sem] max2_int min2_int max_two min_two

theorem addl3 (l1 l2 l3 : List Int) (n1 n2 n3 : Nat) (h1 : n1 = l1.length) (h2 : n2 = l2.length) (h3 : n3 = l3.length) (hb : n1 + n2 + n3 ≤ 1000000) : ([] : List Int).length + n1 ≤ 140737488355328 ∧ (l1.length + n2) * 1 ≤ 140737488355328 ∧ ((l1 ++ l2).length + n3) * 1 ≤ 140737488355328 := by simp; omega
set_option maxHeartbeats 8000000 in
set_option maxRecDepth 100000 in
theorem concat3_ok (g : Nat) (A1 A2 A3 : Option Addr) (n1 n2 n3 c1 c2 c3 : Nat) (l1 l2 l3 : List Int) (w : World) (hb : Ob w g 24 [.slice A1 n1 c1, .slice A2 n2 c2, .slice A3 n3 c3]) (r1 : Rds (Kd.int .u8) w A1 n1 c1 l1) (r2 : Rds (Kd.int .u8) w A2 n2 c2 l2) (r3 : Rds (Kd.int .u8) w A3 n3 c3 l3) (hn : n1 + n2 + n3 ≤ 1000000) :
    Calls Try.prog 19 #[.slice (some ⟨g, 0, none⟩) 3 3] w fun e w' => ∃ v, e = .returned v ∧ Own (Kd.int .u8) 5 w.heap.size w' v (l1 ++ l2 ++ l3) ∧ Below w.heap.size w w' := by
  have HOB := Aside0.mk hb
  have R1 := Aside0.mk r1
  have R2 := Aside0.mk r2
  have R3 := Aside0.mk r3
  have AL := Aside0.mk (addl3 l1 l2 l3 n1 n2 n3 r1.len r2.len r3.len hn)
  clear hb r1 r2 r3
  have y0 := HOB.out.at_ 0 (v := .slice A1 n1 c1) rfl
  have y1 := HOB.out.at_ 1 (v := .slice A2 n2 c2) rfl
  have y2 := HOB.out.at_ 2 (v := .slice A3 n3 c3) rfl
  go_enter Try.func19, Try.ntmps19
  go_wp2
  go_loopg [3, 5, 11] 4 (fun kq v3 v5 v11 w' => ∃ (i : Nat) (s : Int), v3 = .int .i64 s ∧ v11 = .int .i64 i ∧ kq = 4 - i ∧ w = w' ∧ ((i = 0 ∧ s = 0) ∨ (i = 1 ∧ s = n1) ∨ (i = 2 ∧ s = ((n1 + n2 : Nat) : Int)) ∨ (i = 3 ∧ s = ((n1 + n2 + n3 : Nat) : Int))))
  case atStart => exact ⟨0, 0, rfl, by simp, by omega, rfl, .inl ⟨rfl, rfl⟩⟩
  case round =>
    obtain ⟨i, s, rfl, rfl, hkq, rfl, hc⟩ := hrel
    rcases hc with ⟨rfl, rfl⟩ | ⟨rfl, rfl⟩ | ⟨rfl, rfl⟩ | ⟨rfl, rfl⟩
    · go_wp2_with fail
      go_roundg 3
      case measure => omega
      case rel => exact ⟨1, n1, by simp, by simp, by omega, rfl, .inr (.inl ⟨rfl, rfl⟩)⟩
    · go_wp2_with fail
      go_roundg 2
      case measure => omega
      case rel => exact ⟨2, _, rfl, by simp, by omega, rfl, .inr (.inr (.inl ⟨rfl, by simp⟩))⟩
    · obtain ⟨m, hm⟩ : ∃ m, m = n1 + n2 := ⟨_, rfl⟩
      rw [← hm]
      have hm2 : m + n3 ≤ 1000000 := by omega
      have HM := Aside0.mk hm
      clear hm
      go_wp2_with fail
      go_roundg 1
      case measure => omega
      case rel => exact ⟨3, _, rfl, by simp, by omega, rfl, .inr (.inr (.inr ⟨rfl, by rw [← HM.out]; simp⟩))⟩
    · have hs0 : ¬ ((n1 + n2 + n3 : Nat) : Int) < 0 := by omega
      obtain ⟨m, hm⟩ : ∃ m, m = n1 + n2 + n3 := ⟨_, rfl⟩
      rw [← hm]
      have hm2 : m ≤ 1000000 := by omega
      clear hm hs0
      go_wp2_with (first | (go_at_call 30; have hcall := grow_ok m w hm2; (with_reducible refine hcall.mono ?_); clear hcall; rintro e w2 ⟨v2, rfl, ho, hb⟩; obtain ⟨A3, c3, hv2, _⟩ := ho.sliceN (n := 0) rfl; subst hv2; have O2 := Aside0.mk ho; have B2 := Aside0.mk hb; clear ho hb))
      clear y0 y1 y2
      go_loopg [6, 8, 27] 4 (fun kq v6 v8 v27 w' => ∃ (i : Nat) (acc : List Int), v27 = .int .i64 i ∧ kq = 4 - i ∧ ((i = 0 ∧ acc = []) ∨ (i = 1 ∧ acc = l1) ∨ (i = 2 ∧ acc = l1 ++ l2) ∨ (i = 3 ∧ acc = l1 ++ l2 ++ l3)) ∧ Aside0 (Own (Kd.int .u8) 5 w.heap.size w' v6 acc) ∧ Aside0 (Below w.heap.size w w'))
      case atStart => exact ⟨0, [], by simp, by omega, .inl ⟨rfl, rfl⟩, O2, B2⟩
      case round =>
        clear O2 B2
        obtain ⟨i, acc, rfl, hkq, hc, O4, B4⟩ := hrel
        have y0 := (HOB.out.below B4.out).at_ 0 rfl
        have y1 := (HOB.out.below B4.out).at_ 1 rfl
        have y2 := (HOB.out.below B4.out).at_ 2 rfl
        rcases hc with ⟨rfl, rfl⟩ | ⟨rfl, rfl⟩ | ⟨rfl, rfl⟩ | ⟨rfl, rfl⟩
        · go_wp2_with (first | (at_builtin; refine app_rowi Try.underlying24 info5 rfl (by decide) (.tmp 31) (.tmp 32) rfl rfl rfl rfl O4.out (R1.out.below B4.out) B4.out B4.out.size (by have := AL.out.1; omega) ?_; intro v5 w5 ho hb _; have O5 := Aside0.mk ho; have B5 := Aside0.mk hb; clear ho hb))
          go_roundg 3
          case measure => omega
          case rel => exact ⟨1, _, by simp, by omega, .inr (.inl ⟨rfl, by simp⟩), O5, B5⟩
        · go_wp2_with (first | (at_builtin; refine app_rowi Try.underlying24 info5 rfl (by decide) (.tmp 31) (.tmp 32) rfl rfl rfl rfl O4.out (R2.out.below B4.out) B4.out B4.out.size AL.out.2.1 ?_; intro v5 w5 ho hb _; have O5 := Aside0.mk ho; have B5 := Aside0.mk hb; clear ho hb))
          go_roundg 2
          case measure => omega
          case rel => exact ⟨2, _, by simp, by omega, .inr (.inr (.inl ⟨rfl, rfl⟩)), O5, B5⟩
        · go_wp2_with (first | (at_builtin; refine app_rowi Try.underlying24 info5 rfl (by decide) (.tmp 31) (.tmp 32) rfl rfl rfl rfl O4.out (R3.out.below B4.out) B4.out B4.out.size AL.out.2.2 ?_; intro v5 w5 ho hb _; have O5 := Aside0.mk ho; have B5 := Aside0.mk hb; clear ho hb))
          go_roundg 1
          case measure => omega
          case rel => exact ⟨3, _, by simp, by omega, .inr (.inr (.inr ⟨rfl, rfl⟩)), O5, B5⟩
        · go_wp2_with fail
          go_ret
          exact ⟨_, rfl, O4.out, B4.out⟩
theorem frame_cat (l : List Int) (wide : Bool) : [126] ++ midL l wide ++ [126] = frameL l wide := by simp [frameL]
theorem one8 (B : Nat) (w : World) (c : Int) (hB : B ≤ w.heap.size) : Own (Kd.int .u8) 5 B (w.alloc (.cells #[.int .u8 c] 5)) (.slice (some ⟨w.heap.size, 0, none⟩) 1 1) [c] := lit8 B w [c] hB (by simp)
theorem alloc_le (w : World) (o : Obj) : w.heap.size ≤ (w.alloc o).heap.size := by rw [World.size_alloc]; omega
theorem below_al (w : World) (o : Obj) : Below w.heap.size w (w.alloc o) := below_alloc (Below.refl _ _) _
set_option maxHeartbeats 8000000 in
set_option maxRecDepth 100000 in
theorem fput_ok (A : Option Addr) (n c : Nat) (l : List Int) (wide : Bool) (w : World) (hr : Rds (Kd.int .u8) w A n c l) (hl : octOk l) (hn : n ≤ 100000) :
    Calls Try.prog 11 #[.slice A n c, .bool wide] w fun e w' => ∃ v, e = .returned v ∧ Own (Kd.int .u8) 5 w.heap.size w' v (frameL l wide) ∧ Below w.heap.size w w' := by
  have e := frame_cat l wide
  have PT := put_ok A n c l wide (w.alloc (.cells #[.int .u8 126] 5)) (hr.alloc _) hl hn
  have L1 := Aside0.mk (one8 w.heap.size w 126 (Nat.le_refl _))
  obtain ⟨s, hs⟩ : ∃ s, s = l ++ tailL l wide := ⟨_, rfl⟩
  obtain ⟨k, hk⟩ : ∃ k, s.length = k := ⟨_, rfl⟩
  have hk2 : k ≤ 100004 := by rw [← hk, hs, List.length_append, tailL_len, ← hr.len]; have := (sizeT_b wide).2; omega
  obtain ⟨q, hq⟩ : ∃ q, (stuffO s).length = q := ⟨_, rfl⟩
  have hq2 : q ≤ 200008 := by have := (stuffO_len s).2; omega
  rw [midL, ← hs] at e
  obtain ⟨F, hF⟩ : ∃ F, F = frameL l wide := ⟨_, rfl⟩
  rw [← hF] at e ⊢
  have EF := Aside0.mk e
  rw [← hs] at PT
  have PT := Aside0.mk PT
  have HK := Aside0.mk hk
  have HQ := Aside0.mk hq
  clear e hs hr hl hk hq hF
  go_enter Try.func11, Try.ntmps11
  go_wp2_with (first
    | (go_at_call 21; (with_reducible refine PT.out.mono ?_); rintro e w1 ⟨v1, rfl, ho, hb⟩; obtain ⟨A1, c1, hv1, hc1⟩ := ho.sliceN HK.out; subst hv1; have O1 := Aside0.mk ho; have B1 := Aside0.mk hb; have W1 := Aside0.mk (below_step (below_al w _) hb); have LL1 := Aside0.mk (L1.out.below hb); clear ho hb L1)
    | (go_at_call 20; have hcall := OctO.stuff_ok A1 k c1 s w1 O1.out.rds (by have := HK.out; omega); rw [HQ.out] at hcall; (with_reducible refine hcall.mono ?_); clear hcall; rintro e w2 ⟨A2, c2, rfl, ho, hb⟩; have O2 := Aside0.mk ho; have B2 := Aside0.mk hb; have W2 := Aside0.mk (below_step W1.out hb); have LL2 := Aside0.mk (LL1.out.below hb); clear ho hb LL1)
    | (go_at_call 19; have hcall := concat3_ok (w2.heap.size + 1) _ A2 _ 1 q 1 1 c2 1 [126] (stuffO s) [126] ((w2.alloc (.cells #[.int .u8 126] 5)).alloc (.cells #[.slice (some ⟨w.heap.size, 0, none⟩) 1 1, .slice A2 q c2, .slice (some ⟨w2.heap.size, 0, none⟩) 1 1] 24)) (by have := Ob.new (w2.alloc (.cells #[.int .u8 126] 5)) 24 [.slice (some ⟨w.heap.size, 0, none⟩) 1 1, .slice A2 q c2, .slice (some ⟨w2.heap.size, 0, none⟩) 1 1]; rwa [World.size_alloc] at this) ((LL2.out.rds.alloc _).alloc _) ((O2.out.rds.alloc _).alloc _) ((one8 0 w2 126 (Nat.zero_le _)).rds.alloc _) (by omega); (with_reducible refine hcall.mono ?_); clear hcall; rintro e w3 ⟨v3, rfl, ho, hb⟩; rw [EF.out] at ho; have O3 := Aside0.mk (ho.lower (Nat.le_trans W2.out.size (Nat.le_trans (alloc_le _ _) (alloc_le _ _)))); have B3 := Aside0.mk (below_step (below_alloc (below_alloc W2.out _) _) hb); obtain ⟨A3, c3, hv3, _⟩ := ho.slice; subst hv3; clear ho hb))
  first | go_ret | go_ret2 | ((try simp only [Exit.inBlock, Exit.then]); refine bodyPost_ret (results_tmp3 rfl _ _ _) rfl ?_) | go_end0 | refine bodyPost_ret0 rfl rfl ?_
  exact ⟨_, rfl, O3.out, B3.out⟩
set_option maxHeartbeats 8000000 in
set_option maxRecDepth 100000 in
theorem rframe_ok (A : Option Addr) (n c : Nat) (l : List Int) (wide : Bool) (w : World) (hr : Rds (Kd.int .u8) w A n c l) (hl : octOk l) (hn : n ≤ 100000) :
    Calls Try.prog 13 #[.slice A n c, .bool wide] w fun e w' => ∃ v, e = .returned v ∧ Own (Kd.int .u8) 5 w.heap.size w' v (frameL l wide) ∧ Below w.heap.size w w' := by
  have e := frame_cat l wide
  have PT := rput_ok A n c l wide (w.alloc (.cells #[.int .u8 126] 5)) (hr.alloc _) hl (by omega)
  have L1 := Aside0.mk (one8 w.heap.size w 126 (Nat.le_refl _))
  obtain ⟨s, hs⟩ : ∃ s, s = l ++ tailL l wide := ⟨_, rfl⟩
  obtain ⟨k, hk⟩ : ∃ k, s.length = k := ⟨_, rfl⟩
  have hk2 : k ≤ 100004 := by rw [← hk, hs, List.length_append, tailL_len, ← hr.len]; have := (sizeT_b wide).2; omega
  obtain ⟨q, hq⟩ : ∃ q, (stuffO s).length = q := ⟨_, rfl⟩
  have hq2 : q ≤ 200008 := by have := (stuffO_len s).2; omega
  rw [midL, ← hs] at e
  obtain ⟨F, hF⟩ : ∃ F, F = frameL l wide := ⟨_, rfl⟩
  rw [← hF] at e ⊢
  have EF := Aside0.mk e
  rw [← hs] at PT
  have PT := Aside0.mk PT
  have HK := Aside0.mk hk
  have HQ := Aside0.mk hq
  clear e hs hr hl hk hq hF
  go_enter Try.func13, Try.ntmps13
  go_wp2_with (first
    | (go_at_call 18; (with_reducible refine PT.out.mono ?_); rintro e w1 ⟨v1, rfl, ho, hb⟩; obtain ⟨A1, c1, hv1, hc1⟩ := ho.sliceN HK.out; subst hv1; have O1 := Aside0.mk ho; have B1 := Aside0.mk hb; have W1 := Aside0.mk (below_step (below_al w _) hb); have LL1 := Aside0.mk (L1.out.below hb); clear ho hb L1)
    | (go_at_call 22; have hcall := OctO.stuffref_ok A1 k c1 s w1 O1.out.rds (by have := HK.out; omega); rw [HQ.out] at hcall; (with_reducible refine hcall.mono ?_); clear hcall; rintro e w2 ⟨A2, c2, rfl, ho, hb⟩; have O2 := Aside0.mk ho; have B2 := Aside0.mk hb; have W2 := Aside0.mk (below_step W1.out hb); have LL2 := Aside0.mk (LL1.out.below hb); clear ho hb LL1)
    | (at_builtin; refine app_rowi Try.underlying24 info5 rfl (by decide) (.tmp 5) (.tmp 9) rfl rfl rfl rfl LL2.out O2.out.rds W2.out W2.out.size (by simp; omega) ?_; intro v3 w3 ho hb _; have O3 := Aside0.mk ho; have B3 := Aside0.mk hb; obtain ⟨A3, c3, hv3, _⟩ := ho.slice; subst hv3; clear ho hb O2 LL2)
    | (at_builtin; refine app_int Try.underlying24 info5 rfl (by decide) (.tmp 10) (.tmp 11) rfl rfl rfl rfl O3.out B3.out B3.out.size (by simp; have := HQ.out; omega) ?_; intro v4 w4 ho hb _; rw [EF.out] at ho; have O4 := Aside0.mk ho; have B4 := Aside0.mk hb; obtain ⟨A4, c4, hv4, _⟩ := ho.slice; subst hv4; clear ho hb O3))
  first | go_ret | go_ret2 | ((try simp only [Exit.inBlock, Exit.then]); refine bodyPost_ret (results_tmp3 rfl _ _ _) rfl ?_) | go_end0 | refine bodyPost_ret0 rfl rfl ?_
  exact ⟨_, rfl, O4.out, B4.out⟩

end Go.Proofs.Ytlcemeligolabaa.FmF
