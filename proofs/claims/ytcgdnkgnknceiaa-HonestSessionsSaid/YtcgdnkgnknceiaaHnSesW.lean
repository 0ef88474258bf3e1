/- The law of sessions: the walk. -/
import Derived.Test.YtcgdnkgnknceiaaHnU
namespace Go.Proofs.Ytcgdnkgnknceiaa.HnSesW
open Go.RowKit Go.Proofs.YtcgdnkgnknceiaaW.PrintWords Go.Proofs.YtcgdnkgnknceiaaW.PrintLast Go.Proofs.YtcgdnkgnknceiaaW.PrintMore Go.Proofs.Ytcgdnkgnknceiaa.K Go.Proofs.Ytcgdnkgnknceiaa.OpenC Go.Proofs.Ytcgdnkgnknceiaa.HnA Go.Proofs.Ytcgdnkgnknceiaa.HnB Go.Proofs.Ytcgdnkgnknceiaa.HnC Go.Proofs.Ytcgdnkgnknceiaa.HnD Go.Proofs.Ytcgdnkgnknceiaa.HnS Go.Proofs.Ytcgdnkgnknceiaa.HnT Go.Proofs.Ytcgdnkgnknceiaa.HnU
set_option linter.unusedVariables false
set_option linter.unusedSimpArgs false
attribute [local go_sem] max2_int min2_int max_two min_two

set_option maxHeartbeats 8000000 in
set_option maxRecDepth 100000 in
theorem ses_in (A1 : Option Addr) (n1 c1 : Nat) (heard : List (List (List Int))) (A2 : Option Addr) (n2 c2 : Nat) (said : List (List (List Int))) (w : World) (r1 : Grid3 w A1 n1 c1 heard) (r2 : Grid3 w A2 n2 c2 said) (h1 : n1 ≤ 20) (h2 : n2 ≤ 20) :
    Calls Try.prog 5 #[.slice A1 n1 c1, .slice A2 n2 c2] w fun e w' => e = .returned (.bool true) ∧ Below w.heap.size w w' := by
  have R1 := Aside0.mk r1
  have R2 := Aside0.mk r2
  have hcn := r1.cap
  have hcn2 := r2.cap
  have g1 : ¬ (20 : Int) < ((n1 : Nat) : Int) := by omega
  have g2 : ¬ (20 : Int) < ((n2 : Nat) : Int) := by omega
  obtain ⟨b, hb⟩ : ∃ b, b = sess heard said := ⟨_, rfl⟩
  have QS := Aside0.mk (fun w' (h : Below w.heap.size w w') => (show Calls Try.prog 14 #[.slice A1 n1 c1, .slice A2 n2 c2] w' fun e w'' => e = .returned (.bool b) ∧ Below w'.heap.size w' w'' by rw [hb]; exact sessions_ok A1 n1 c1 heard A2 n2 c2 said w' (Grid3.below r1 h) (Grid3.below r2 h)))
  have QR := Aside0.mk (fun w' (h : Below w.heap.size w w') => (show Calls Try.prog 15 #[.slice A1 n1 c1, .slice A2 n2 c2] w' fun e w'' => e = .returned (.bool b) ∧ Below w'.heap.size w' w'' by rw [hb]; exact rsessions_ok A1 n1 c1 heard A2 n2 c2 said w' (Grid3.below r1 h) (Grid3.below r2 h)))
  clear r1 r2 hb
  go_enter Try.func5, Try.ntmps5
  go_wp2_with (first | (go_at_call 7; (with_reducible refine (alive_ok _).mono ?_); rintro e w1 ⟨rfl, hb1⟩; have HB1 := Aside0.mk hb1; clear hb1))
  have S1 := Aside0.mk (QS.out w1 HB1.out)
  have S2 := Aside0.mk (fun w' (h : Below w1.heap.size w1 w') => QR.out w' (below_step HB1.out h))
  go_loopg [6] (n1 + 1) (fun kq v6 w' => ∃ (i : Nat), v6 = .int .i64 i ∧ i ≤ n1 ∧ kq = n1 + 1 - i ∧ w1 = w')
  case atStart => exact ⟨0, rfl, by omega, by omega, rfl⟩
  case round =>
    obtain ⟨i, rfl, hi, hkqi, rfl⟩ := hrel
    by_cases hlti : i < n1
    · obtain ⟨x, ad, A3, n3, c3, hx, hA, hcell, hr⟩ := g3get R1.out i hlti
      cases hA
      have hc' := (HB1.out.cell (World.block_lt_of_cell? w _ hcell)).trans hcell
      have SM := Aside0.mk (sw (small_ok A3 n3 c3 x w1 (hr.below HB1.out)))
      clear hcell hr hx
      cases hs : smallB x
      · rw [hs] at SM
        clear hs
        go_wp2_with (first | (go_at_call 8; (with_reducible refine SM.out.mono ?_); rintro e wK ⟨rfl, rfl⟩))
        first | go_ret | go_ret2 | ((try simp only [Exit.inBlock, Exit.then]); refine bodyPost_ret (results_tmp3 rfl _ _ _) rfl ?_) | go_end0
        exact ⟨rfl, HB1.out⟩
      · rw [hs] at SM
        clear hs
        go_wp2_with (first | (go_at_call 8; (with_reducible refine SM.out.mono ?_); rintro e wK ⟨rfl, rfl⟩))
        go_roundg (n1 - i)
        case measure => omega
        case rel => exact ⟨i + 1, by go_num, by omega, by omega, rfl⟩
    · obtain rfl : i = n1 := by omega
      go_wp2_with fail
      go_loopg [7] (n2 + 1) (fun kq v7 w' => ∃ (j : Nat), v7 = .int .i64 j ∧ j ≤ n2 ∧ kq = n2 + 1 - j ∧ w1 = w')
      case atStart => exact ⟨0, rfl, by omega, by omega, rfl⟩
      case round =>
        obtain ⟨j, rfl, hj, hkqj, rfl⟩ := hrel
        by_cases hltj : j < n2
        · obtain ⟨x, ad, A3, n3, c3, hx, hA, hcell, hr⟩ := g3get R2.out j hltj
          cases hA
          have hc' := (HB1.out.cell (World.block_lt_of_cell? w _ hcell)).trans hcell
          have SM := Aside0.mk (sw (small_ok A3 n3 c3 x w1 (hr.below HB1.out)))
          clear hcell hr hx
          cases hs : smallB x
          · rw [hs] at SM
            clear hs
            go_wp2_with (first | (go_at_call 8; (with_reducible refine SM.out.mono ?_); rintro e wK ⟨rfl, rfl⟩))
            first | go_ret | go_ret2 | ((try simp only [Exit.inBlock, Exit.then]); refine bodyPost_ret (results_tmp3 rfl _ _ _) rfl ?_) | go_end0
            exact ⟨rfl, HB1.out⟩
          · rw [hs] at SM
            clear hs
            go_wp2_with (first | (go_at_call 8; (with_reducible refine SM.out.mono ?_); rintro e wK ⟨rfl, rfl⟩))
            go_roundg (n2 - j)
            case measure => omega
            case rel => exact ⟨j + 1, by go_num, by omega, by omega, rfl⟩
        · obtain rfl : j = n2 := by omega
          go_wp2_with (first
            | (go_at_call 14; (with_reducible refine S1.out.mono ?_); rintro e w2 ⟨rfl, hb⟩; have B2 := Aside0.mk hb; clear hb)
            | (go_at_call 15; (with_reducible refine (S2.out _ B2.out).mono ?_); rintro e w3 ⟨rfl, hb⟩; have B3 := Aside0.mk (below_step B2.out hb); clear hb))
          first | go_ret | go_ret2 | ((try simp only [Exit.inBlock, Exit.then]); refine bodyPost_ret (results_tmp3 rfl _ _ _) rfl ?_) | go_end0
          exact ⟨by first | rfl | simp, below_step HB1.out B3.out⟩

set_option maxHeartbeats 8000000 in
set_option maxRecDepth 100000 in
theorem ses_early (A1 : Option Addr) (n1 c1 : Nat) (A2 : Option Addr) (n2 c2 : Nat) (w : World) (h : 20 < n1 ∨ 20 < n2) (m1 : n1 ≤ 9223372036854775807) (m2 : n2 ≤ 9223372036854775807) :
    Calls Try.prog 5 #[.slice A1 n1 c1, .slice A2 n2 c2] w fun e w' => e = .returned (.bool true) ∧ Below w.heap.size w w' := by
  have key : (20 : Int) < (n1 : Int) ∨ (¬ (20 : Int) < (n1 : Int) ∧ (20 : Int) < (n2 : Int)) := by omega
  clear h
  rcases key with h1 | ⟨h1, h2⟩
  all_goals
    go_enter Try.func5, Try.ntmps5
    go_wp2_with (first | (go_at_call 7; (with_reducible refine (alive_ok _).mono ?_); rintro e w1 ⟨rfl, hb1⟩; have HB1 := Aside0.mk hb1; clear hb1))
    first | go_ret | go_ret2 | ((try simp only [Exit.inBlock, Exit.then]); refine bodyPost_ret (results_tmp3 rfl _ _ _) rfl ?_) | go_end0
    exact ⟨rfl, HB1.out⟩
theorem walk (a0 : Option Addr) (len0 cap0 : Nat) (z0 : List (List (List Int))) (a1 : Option Addr) (len1 cap1 : Nat) (z1 : List (List (List Int))) (W : World) (w0 : Grid3 W a0 len0 cap0 z0) (w1 : Grid3 W a1 len1 cap1 z1) :
    Calls Try.prog 5 #[.slice a0 len0 cap0, .slice a1 len1 cap1] W fun e w' => e = .returned (.bool true) ∧ Below W.heap.size W w' := by
  by_cases h : 20 < len0 ∨ 20 < len1
  · exact ses_early a0 len0 cap0 a1 len1 cap1 W h w0.max w1.max
  · exact ses_in a0 len0 cap0 z0 a1 len1 cap1 z1 W w0 w1 (by omega) (by omega)

end Go.Proofs.Ytcgdnkgnknceiaa.HnSesW
