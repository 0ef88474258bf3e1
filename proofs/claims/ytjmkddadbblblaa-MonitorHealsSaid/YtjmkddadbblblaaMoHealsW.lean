/- The law MonitorHeals. -/
import Derived.Test.YtjmkddadbblblaaMoC
import Derived.Test.YtjmkddadbblblaaOpenB
namespace Go.Proofs.Ytjmkddadbblblaa.MoHealsW
open Go.Proofs.Ytjmkddadbblblaa.MoP (Mo Ok)
open Go.RowKit Go.Proofs.YtjmkddadbblblaaW.PrintWords Go.Proofs.YtjmkddadbblblaaW.PrintLast Go.Proofs.YtjmkddadbblblaaW.PrintMore Go.Proofs.Ytjmkddadbblblaa.K Go.Proofs.Ytjmkddadbblblaa.TaP Go.Proofs.Ytjmkddadbblblaa.TaA Go.Proofs.Ytjmkddadbblblaa.TaB Go.Proofs.Ytjmkddadbblblaa.TaR Go.Proofs.Ytjmkddadbblblaa.MoA Go.Proofs.Ytjmkddadbblblaa.MoR Go.Proofs.Ytjmkddadbblblaa.MoB Go.Proofs.Ytjmkddadbblblaa.MoC Go.Proofs.Ytjmkddadbblblaa.OpenB
set_option linter.unusedVariables false
set_option linter.unusedSimpArgs false
attribute [local go_sem] max2_int min2_int max_two min_two

theorem end_side (M : Mo) (h : List Bool) (s : Int) : (MoP.endM M h s).side = s ∧ (MoP.endM M h s).good = M.good := by
  unfold MoP.endM
  (repeat' split) <;> exact ⟨rfl, rfl⟩
theorem note_false (M : Mo) : (MoP.noteM M false).side = 0 ∧ (MoP.noteM M false).good = M.good := by
  unfold MoP.noteM
  exact end_side _ _ _
theorem note_good (M : Mo) (ok : Bool) : (MoP.noteM M ok).good = M.good := (end_side _ _ _).2
/-- So many of them side by side: the line is good; fewer: it is not. -/
theorem heal (M : Mo) (j : Nat) (hs : M.state ≠ 0) (hj : M.side = j) (hg : (j : Int) + 1 ≤ M.good) (h16 : M.good ≤ 16) :
    ((j : Int) + 1 = M.good → (MoP.noteM M true).state = 0 ∧ (MoP.noteM M true).h = []) ∧ ((j : Int) + 1 < M.good → (MoP.noteM M true).state ≠ 0 ∧ (MoP.noteM M true).side = ((j + 1 : Nat) : Int)) := by
  have e1 : MoP.sideM M true = ((j + 1 : Nat) : Int) := by
    unfold MoP.sideM
    rw [if_pos rfl, if_pos (by omega), hj]
    omega
  unfold MoP.noteM
  rw [e1]
  refine ⟨fun h => ?_, fun h => ⟨?_, (end_side _ _ _).1⟩⟩
  · unfold MoP.endM
    rw [if_pos ⟨hs, by omega⟩]
    exact ⟨rfl, rfl⟩
  · unfold MoP.endM
    rw [if_neg (fun h2 => by have := h2.2; omega)]
    split
    · simp
    · rw [if_neg (fun h2 => hs h2.2)]
      exact hs
structure Heals (was good : Int) (j : Nat) (M : Mo) : Prop where
  ok : Ok M
  gd : M.good = good
  less : was ≠ 0 → (j : Int) < good → M.state ≠ 0 ∧ M.side = j
  done : was ≠ 0 → (j : Int) = good → M.state = 0 ∧ M.h = []
theorem Heals.start {M : Mo} (ok : Ok M) (g0 : 1 ≤ M.good) : Heals (MoP.noteM M false).state M.good 0 (MoP.noteM M false) :=
  ⟨ok.note _, note_good _ _, fun h _ => ⟨h, (note_false M).1⟩, fun _ h => by simp at h; omega⟩
theorem Heals.step {was good : Int} {j : Nat} {M : Mo} (h : Heals was good j M) (hj : (j : Int) + 1 ≤ good) (h16 : good ≤ 16) :
    Heals was good (j + 1) (MoP.noteM M true) ∧ (was ≠ 0 → ((MoP.noteM M true).state == 0) = decide ((j : Int) + 1 = good)) := by
  have hg := h.gd
  have key : was ≠ 0 → _ := fun hw => heal M j (h.less hw (by omega)).1 (h.less hw (by omega)).2 (by rw [hg]; exact hj) (by rw [hg]; exact h16)
  rw [hg] at key
  refine ⟨⟨h.ok.note _, (note_good _ _).trans hg, fun hw h2 => (key hw).2 (by omega), fun hw h2 => (key hw).1 (by omega)⟩, fun hw => ?_⟩
  by_cases h2 : (j : Int) + 1 = good
  · rw [((key hw).1 h2).1, decide_eq_true h2]
    rfl
  · rw [decide_eq_false h2]
    exact beq_eq_false_iff_ne.mpr ((key hw).2 (by omega)).1
theorem new_good (bad good silent : Int) (h0 : 1 ≤ good) (h1 : good ≤ 16) : (MoP.newM bad good silent).good = good := by
  unfold MoP.newM MoP.cutQ
  simp only
  rw [if_neg (by omega : ¬ good < 1), if_neg (by omega : ¬ good > 16)]
set_option maxHeartbeats 8000000 in
set_option maxRecDepth 100000 in
theorem heals_in (bad good silent : Int) (A : Option Addr) (n c0 : Nat) (l : List Bool) (w : World) (hr : IsBools w A n c0 l) (h0 : 1 ≤ bad) (h1 : bad ≤ 16) (h2 : 1 ≤ good) (h3 : good ≤ 16) (h4 : 1 ≤ silent) (h5 : silent ≤ 1073741824) (hn : n ≤ 100) :
    Calls Try.prog 4 #[.int .i64 bad, .int .i64 good, .int .i64 silent, .slice A n c0] w fun e w' => e = .returned (.bool true) ∧ Below w.heap.size w w' := by
  have HR := Aside0.mk hr
  have KN := Aside0.mk (MoP.Ok.new bad good silent)
  have GN := Aside0.mk (new_good bad good silent h2 h3)
  clear hr
  go_enter Try.func4, Try.ntmps4
  go_wp2_with (first
      | (go_at_call 8; have hcall := alive_ok w; (with_reducible refine hcall.mono ?_); clear hcall; rintro e w1 ⟨rfl, hb⟩; have B1 := Aside0.mk hb; clear hb)
      | (go_at_call 9; (with_reducible refine (newm_ok bad good silent _).mono ?_); rintro e w2 ⟨p, g, c, rfl, hp, hg, hc, i, hb⟩; have HP := Aside0.mk (Nat.le_trans B1.out.size hp); have HG := Aside0.mk (Nat.le_trans B1.out.size hg); have HC := Aside0.mk (Nat.le_trans B1.out.size hc); have I2 := Aside0.mk i; have B2 := Aside0.mk (below_step B1.out hb); clear hp hg hc i hb))
  go_loopg [11] (n + 1) (fun kq v11 w' => ∃ (i : Nat) (M : Mo), v11 = .int .i64 i ∧ i ≤ n ∧ kq = n + 1 - i ∧ Aside0 (IsM w' p g c M) ∧ Aside0 (Ok M) ∧ Aside0 (M.good = good) ∧ Aside0 (Below w.heap.size w w'))
  case atStart => exact ⟨0, _, rfl, by omega, by omega, I2, KN, GN, B2⟩
  case round =>
    clear I2 B2
    obtain ⟨i, M, rfl, hi, hkq, I3, OM, GM, B3⟩ := hrel
    by_cases hlt : i < n
    · obtain ⟨ad, hA, x0⟩ := (HR.out.below B3.out).at_ i hlt
      subst hA
      obtain ⟨x, hx⟩ : ∃ x, x = l.getD i false := ⟨_, rfl⟩
      rw [← hx] at x0
      clear hx
      go_wp2_with (first
      | (go_at_call 10; (with_reducible refine (notem_ok p g c M x OM.out _ I3.out).mono ?_); rintro e w4 ⟨rfl, i, f⟩; have I4 := Aside0.mk i; have B4 := Aside0.mk (Fr.above B3.out B3.out.size f (fun i hi he => by have := HP.out; have := HG.out; have := HC.out; omega)); clear i f I3 B3))
      go_roundg (n - i)
      case measure => omega
      case rel => exact ⟨i + 1, _, by go_num, by omega, by omega, I4, ⟨OM.out.note x⟩, ⟨(note_good M x).trans GM.out⟩, B4⟩
    · obtain rfl : i = n := by omega
      have H0 := Aside0.mk (show Heals (MoP.noteM M false).state good 0 (MoP.noteM M false) from GM.out ▸ Heals.start OM.out (by rw [GM.out]; exact h2))
      obtain ⟨M1, hM1⟩ : ∃ M1, M1 = MoP.noteM M false := ⟨_, rfl⟩
      have E1 := Aside0.mk hM1
      rw [← hM1] at H0
      obtain ⟨was, hw⟩ : ∃ x, x = M1.state := ⟨_, rfl⟩
      rw [← hw] at H0
      have EW := Aside0.mk hw
      clear hM1 hw
      go_wp2_with (first
      | (go_at_call 10; (with_reducible refine (notem_ok p g c M false OM.out _ I3.out).mono ?_); rintro e w4 ⟨rfl, i, f⟩; have I4 := Aside0.mk (E1.out ▸ i : IsM w4 p g c M1); have B4 := Aside0.mk (Fr.above B3.out B3.out.size f (fun i hi he => by have := HP.out; have := HG.out; have := HC.out; omega)); clear i f I3 B3)
      | (go_at_call 11; (with_reducible refine (state_ok p g c M1 _ I4.out).mono ?_); rintro e wK ⟨rfl, rfl⟩; rw [← EW.out]))
      go_loopg [13, 14] (good.toNat + 1) (fun kq v13 v14 w' => ∃ (j : Nat) (M2 : Mo), v13 = .int .i64 ((j : Int) + 1) ∧ (j : Int) ≤ good ∧ kq = good.toNat + 1 - j ∧ Aside0 (IsM w' p g c M2) ∧ Aside0 (Heals was good j M2) ∧ Aside0 (Below w.heap.size w w'))
      case atStart => exact ⟨0, _, rfl, by omega, by omega, I4, H0, B4⟩
      case round =>
        clear I4 B4 H0
        obtain ⟨j, M2, rfl, hj, hkq2, I7, H7, B7⟩ := hrel
        by_cases hlt2 : (j : Int) + 1 ≤ good
        · have HS := Aside0.mk (H7.out.step hlt2 h3)
          have KO := Aside0.mk H7.out.ok
          obtain ⟨now, hnow⟩ : ∃ x, x = (MoP.noteM M2 true).state := ⟨_, rfl⟩
          have EN := Aside0.mk hnow
          have hst := HS.out.2
          rw [← hnow] at hst
          have e1 : IntKind.i64.wrap ((j : Int) + 1 + 1) = (j : Int) + 1 + 1 := w64 (by omega) (by omega)
          clear hnow
          by_cases hw0 : was = 0
          · have x1 : (was != 0) = false := by simp [hw0]
            clear hw0 hst
            go_wp2_with (first
      | (go_at_call 10; (with_reducible refine (notem_ok p g c M2 true KO.out _ I7.out).mono ?_); rintro e w8 ⟨rfl, i, f⟩; have I8 := Aside0.mk i; have B8 := Aside0.mk (Fr.above B7.out B7.out.size f (fun i hi he => by have := HP.out; have := HG.out; have := HC.out; omega)); clear i f I7 B7; rw [← EN.out])
      | fail)
            go_roundg (good.toNat - j)
            case measure => omega
            case rel => exact ⟨j + 1, _, by go_num, by omega, by omega, I8, ⟨HS.out.1⟩, B8⟩
          · have x1 : (was != 0) = true := by simp [bne, hw0]
            have hst := hst hw0
            clear hw0
            by_cases hd : (j : Int) + 1 = good
            · rw [decide_eq_true hd] at hst
              have xd : ((j : Int) + 1 == good) = true := by simp [hd]
              clear hd
              go_wp2_with (first
      | (go_at_call 10; (with_reducible refine (notem_ok p g c M2 true KO.out _ I7.out).mono ?_); rintro e w8 ⟨rfl, i, f⟩; have I8 := Aside0.mk i; have B8 := Aside0.mk (Fr.above B7.out B7.out.size f (fun i hi he => by have := HP.out; have := HG.out; have := HC.out; omega)); clear i f I7 B7; rw [← EN.out])
      | fail)
              go_roundg (good.toNat - j)
              case measure => omega
              case rel => exact ⟨j + 1, _, by go_num, by omega, by omega, I8, ⟨HS.out.1⟩, B8⟩
            · rw [decide_eq_false hd] at hst
              have xd : ((j : Int) + 1 == good) = false := beq_eq_false_iff_ne.mpr hd
              clear hd
              go_wp2_with (first
      | (go_at_call 10; (with_reducible refine (notem_ok p g c M2 true KO.out _ I7.out).mono ?_); rintro e w8 ⟨rfl, i, f⟩; have I8 := Aside0.mk i; have B8 := Aside0.mk (Fr.above B7.out B7.out.size f (fun i hi he => by have := HP.out; have := HG.out; have := HC.out; omega)); clear i f I7 B7; rw [← EN.out])
      | fail)
              go_roundg (good.toNat - j)
              case measure => omega
              case rel => exact ⟨j + 1, _, by go_num, by omega, by omega, I8, ⟨HS.out.1⟩, B8⟩
        · have hjg : (j : Int) = good := by omega
          have o0 : (FloatKind.f64.format.order 0 0 == some .eq) = true := by decide +kernel
          by_cases hw0 : was = 0
          · have x1 : (was == 0) = true := by simp [hw0]
            clear hw0 hjg
            go_wp2_with fail
            first | go_ret | go_ret2 | ((try simp only [Exit.inBlock, Exit.then]); refine bodyPost_ret (results_tmp3 rfl _ _ _) rfl ?_) | go_end0 | refine bodyPost_ret0 rfl rfl ?_
            exact ⟨rfl, B7.out⟩
          · have x1 : (was == 0) = false := beq_eq_false_iff_ne.mpr hw0
            obtain ⟨d1, d2⟩ := H7.out.done hw0 hjg
            have DC : Aside0 (fl (M2.h.count true) = 0 ∧ fl (M2.h.count false) = 0) := ⟨by rw [d2]; exact ⟨fl0, fl0⟩⟩
            have D1 := Aside0.mk d1
            clear hw0 hjg d1 d2
            go_wp2_with (first
      | (go_at_call 11; (with_reducible refine (state_ok p g c M2 _ I7.out).mono ?_); rintro e wK ⟨rfl, rfl⟩; rw [D1.out])
      | (go_at_call 12; (with_reducible refine (summ_ok p g c M2 _ I7.out).mono ?_); rintro e wK ⟨rfl, rfl⟩; rw [DC.out.1, DC.out.2]))
            first | go_ret | go_ret2 | ((try simp only [Exit.inBlock, Exit.then]); refine bodyPost_ret (results_tmp3 rfl _ _ _) rfl ?_) | go_end0 | refine bodyPost_ret0 rfl rfl ?_
            exact ⟨rfl, B7.out⟩
set_option maxHeartbeats 8000000 in
set_option maxRecDepth 100000 in
theorem heals_out (bad good silent : Int) (A : Option Addr) (n c0 : Nat) (w : World) (h : ¬ (1 ≤ bad ∧ bad ≤ 16 ∧ 1 ≤ good ∧ good ≤ 16 ∧ 1 ≤ silent ∧ silent ≤ 1073741824 ∧ n ≤ 100)) (hm : n ≤ 9223372036854775807) :
    Calls Try.prog 4 #[.int .i64 bad, .int .i64 good, .int .i64 silent, .slice A n c0] w fun e w' => e = .returned (.bool true) ∧ Below w.heap.size w w' := by
  by_cases h1 : bad < 1
  · clear h
    go_enter Try.func4, Try.ntmps4
    go_wp2_with (first
      | (go_at_call 8; have hcall := alive_ok w; (with_reducible refine hcall.mono ?_); clear hcall; rintro e w1 ⟨rfl, hb⟩; have B1 := Aside0.mk hb; clear hb))
    first | go_ret | go_ret2 | ((try simp only [Exit.inBlock, Exit.then]); refine bodyPost_ret (results_tmp3 rfl _ _ _) rfl ?_) | go_end0 | refine bodyPost_ret0 rfl rfl ?_
    exact ⟨rfl, B1.out⟩
  by_cases h2 : bad > 16
  · clear h
    go_enter Try.func4, Try.ntmps4
    go_wp2_with (first
      | (go_at_call 8; have hcall := alive_ok w; (with_reducible refine hcall.mono ?_); clear hcall; rintro e w1 ⟨rfl, hb⟩; have B1 := Aside0.mk hb; clear hb))
    first | go_ret | go_ret2 | ((try simp only [Exit.inBlock, Exit.then]); refine bodyPost_ret (results_tmp3 rfl _ _ _) rfl ?_) | go_end0 | refine bodyPost_ret0 rfl rfl ?_
    exact ⟨rfl, B1.out⟩
  by_cases h3 : good < 1
  · clear h
    go_enter Try.func4, Try.ntmps4
    go_wp2_with (first
      | (go_at_call 8; have hcall := alive_ok w; (with_reducible refine hcall.mono ?_); clear hcall; rintro e w1 ⟨rfl, hb⟩; have B1 := Aside0.mk hb; clear hb))
    first | go_ret | go_ret2 | ((try simp only [Exit.inBlock, Exit.then]); refine bodyPost_ret (results_tmp3 rfl _ _ _) rfl ?_) | go_end0 | refine bodyPost_ret0 rfl rfl ?_
    exact ⟨rfl, B1.out⟩
  by_cases h4 : good > 16
  · clear h
    go_enter Try.func4, Try.ntmps4
    go_wp2_with (first
      | (go_at_call 8; have hcall := alive_ok w; (with_reducible refine hcall.mono ?_); clear hcall; rintro e w1 ⟨rfl, hb⟩; have B1 := Aside0.mk hb; clear hb))
    first | go_ret | go_ret2 | ((try simp only [Exit.inBlock, Exit.then]); refine bodyPost_ret (results_tmp3 rfl _ _ _) rfl ?_) | go_end0 | refine bodyPost_ret0 rfl rfl ?_
    exact ⟨rfl, B1.out⟩
  by_cases h5 : silent < 1
  · clear h
    go_enter Try.func4, Try.ntmps4
    go_wp2_with (first
      | (go_at_call 8; have hcall := alive_ok w; (with_reducible refine hcall.mono ?_); clear hcall; rintro e w1 ⟨rfl, hb⟩; have B1 := Aside0.mk hb; clear hb))
    first | go_ret | go_ret2 | ((try simp only [Exit.inBlock, Exit.then]); refine bodyPost_ret (results_tmp3 rfl _ _ _) rfl ?_) | go_end0 | refine bodyPost_ret0 rfl rfl ?_
    exact ⟨rfl, B1.out⟩
  by_cases h6 : silent > 1073741824
  · clear h
    go_enter Try.func4, Try.ntmps4
    go_wp2_with (first
      | (go_at_call 8; have hcall := alive_ok w; (with_reducible refine hcall.mono ?_); clear hcall; rintro e w1 ⟨rfl, hb⟩; have B1 := Aside0.mk hb; clear hb))
    first | go_ret | go_ret2 | ((try simp only [Exit.inBlock, Exit.then]); refine bodyPost_ret (results_tmp3 rfl _ _ _) rfl ?_) | go_end0 | refine bodyPost_ret0 rfl rfl ?_
    exact ⟨rfl, B1.out⟩
  have h7 : (100 : Int) < (n : Int) := by omega
  clear h
  go_enter Try.func4, Try.ntmps4
  go_wp2_with (first
      | (go_at_call 8; have hcall := alive_ok w; (with_reducible refine hcall.mono ?_); clear hcall; rintro e w1 ⟨rfl, hb⟩; have B1 := Aside0.mk hb; clear hb))
  first | go_ret | go_ret2 | ((try simp only [Exit.inBlock, Exit.then]); refine bodyPost_ret (results_tmp3 rfl _ _ _) rfl ?_) | go_end0 | refine bodyPost_ret0 rfl rfl ?_
  exact ⟨rfl, B1.out⟩
theorem walk (a0 a1 a2 : Int) (a3 : Option Addr) (len3 cap3 : Nat) (z3 : List Bool) (W : World) (w0 : (Lit.int .i64 a0).wf = true) (w1 : (Lit.int .i64 a1).wf = true) (w2 : (Lit.int .i64 a2).wf = true) (w3 : IsBools W a3 len3 cap3 z3) :
    Calls Try.prog 4 #[.int .i64 a0, .int .i64 a1, .int .i64 a2, .slice a3 len3 cap3] W fun e W' => e = .returned (.bool true) ∧ Below W.heap.size W W' := by
  by_cases h : 1 ≤ a0 ∧ a0 ≤ 16 ∧ 1 ≤ a1 ∧ a1 ≤ 16 ∧ 1 ≤ a2 ∧ a2 ≤ 1073741824 ∧ len3 ≤ 100
  · obtain ⟨h1, h2, h3, h4, h5, h6, h7⟩ := h
    exact heals_in a0 a1 a2 a3 len3 cap3 z3 W w3 h1 h2 h3 h4 h5 h6 h7
  · exact heals_out a0 a1 a2 a3 len3 cap3 W h w3.len.2

end Go.Proofs.Ytjmkddadbblblaa.MoHealsW
