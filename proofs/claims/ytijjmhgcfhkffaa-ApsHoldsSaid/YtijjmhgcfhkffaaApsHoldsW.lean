/- A line that fails for no longer than the hold-off switches nothing, and one that does switches just then: the walk. -/
import Derived.Test.YtijjmhgcfhkffaaApsF
namespace Go.Proofs.Ytijjmhgcfhkffaa.ApsHoldsW
open Go.RowKit Go.Proofs.YtijjmhgcfhkffaaW.PrintWords Go.Proofs.YtijjmhgcfhkffaaW.PrintLast Go.Proofs.YtijjmhgcfhkffaaW.PrintMore Go.Proofs.Ytijjmhgcfhkffaa.K Go.Proofs.Ytijjmhgcfhkffaa.ApsP Go.Proofs.Ytijjmhgcfhkffaa.ApsA Go.Proofs.Ytijjmhgcfhkffaa.ApsB Go.Proofs.Ytijjmhgcfhkffaa.ApsC Go.Proofs.Ytijjmhgcfhkffaa.ApsD Go.Proofs.Ytijjmhgcfhkffaa.ApsF
set_option linter.unusedVariables false
set_option linter.unusedSimpArgs false
attribute [local go_sem] max2_int min2_int max_two min_two

def holdS (hold st : Int) (k : Nat) : St := ⟨hold, 1, true, 0, 0, if (k : Int) ≤ hold then 0 else localQ 0 st 0, if (k : Int) ≤ hold then k else hold + 1, 0, if (k : Int) ≤ hold then 0 else 1⟩
theorem holdS_zero (hold st : Int) (h : 0 ≤ hold) (h1 : hold ≤ 300) : newS hold 1 true = holdS hold st 0 := by
  unfold newS holdS cutQ
  simp
  exact ⟨by (repeat' split) <;> omega, fun h2 => absurd h2 (by omega), fun h2 => absurd h2 (by omega), h⟩
theorem holdS_ok (hold st : Int) (k : Nat) (h : 0 ≤ hold) (h1 : hold ≤ 300) (hs : st = 1 ∨ st = 2) : Ok (holdS hold st k) := by
  have h2 : localQ 0 st 0 ≠ 2 := localQ_ne2 _ _ _
  refine ⟨?_, ?_, ?_, ?_, ?_, ?_, ?_, ?_, ?_⟩ <;> simp only [holdS] <;> (try omega) <;> (try (split <;> omega))
theorem holdS_step (hold st : Int) (k : Nat) (h : 0 ≤ hold) (h1 : hold ≤ 300) (hs : st = 1 ∨ st = 2) : passS (holdS hold st k) st 0 = holdS hold st (k + 1) := by
  have hst : ¬ st = 0 := by omega
  have hq : lineQ (winsQ (localQ 0 st 0) 0) = 1 ∧ localQ 0 st 0 ≠ 0 := by rcases hs with rfl | rfl <;> decide
  have hb : heldB (holdS hold st k) st = (holdS hold st (k + 1)).bad := by
    unfold heldB holdS
    rw [if_neg hst]
    simp only
    split <;> split <;> (try split) <;> omega
  by_cases hk : ((k + 1 : Nat) : Int) ≤ hold
  · have hw : heldW (holdS hold st k) st = 0 := by
      unfold heldW holdS
      rw [if_neg hst]
      simp only
      rw [if_pos (show (k : Int) ≤ hold by omega), if_pos (by omega)]
    have hz : localQ (holdS hold st k).command (heldW (holdS hold st k) st) 0 = 0 := by rw [hw]; rfl
    have ha : afterQ (holdS hold st k) = 0 ∧ afterL (holdS hold st k) = 0 := by
      unfold afterQ afterL holdS
      simp only
      rw [if_pos (show (k : Int) ≤ hold by omega)]
      constructor <;> simp
    unfold passS passQ passL
    rw [if_pos hz, if_pos hz, ha.1, ha.2, hb]
    unfold holdS
    simp only
    rw [if_pos hk, if_pos hk, if_pos hk]
    rfl
  · have hw : heldW (holdS hold st k) st = st := by
      unfold heldW holdS
      rw [if_neg hst]
      simp only
      split <;> (rw [if_neg (by omega)])
    have hz : ¬ localQ (holdS hold st k).command (heldW (holdS hold st k) st) 0 = 0 := by rw [hw]; exact hq.2
    unfold passS passQ passL
    rw [if_neg hz, if_neg hz, hb, hw]
    unfold holdS
    simp only
    rw [if_neg hk, if_neg hk, if_neg hk, hq.1]
theorem holdS_line (hold st : Int) (k : Nat) : (holdS hold st k).line = if (k : Int) ≤ hold then 0 else 1 := rfl
set_option maxHeartbeats 8000000 in
set_option maxRecDepth 100000 in
theorem holds_false (hold : Int) (n : Nat) (w : World) (h0 : 0 ≤ hold) (h1 : hold ≤ 300) (h2 : n ≤ 600) :
    Calls Try.prog 3 #[.int .i64 hold, .int .i64 n, .bool false] w fun e w' => e = .returned (.bool true) ∧ Below w.heap.size w w' := by
  have HB0 := Aside0.mk (Below.refl w.heap.size w)
  have n0 : ¬ hold < 0 := by omega
  have n1 : ¬ hold > 300 := by omega
  have HZ := Aside0.mk (holdS_zero hold 2 h0 h1)
  have HOK := Aside0.mk (fun k => holdS_ok hold 2 k h0 h1 (by omega))
  have HST := Aside0.mk (fun k => holdS_step hold 2 k h0 h1 (by omega))
  go_enter Try.func3, Try.ntmps3
  go_wp2_with (first
      | (go_at_call 10; (with_reducible refine (alive_ok _).mono ?_); rintro e w1 ⟨rfl, hb1⟩; have HB1 := Aside0.mk hb1; clear hb1)
      | (go_at_call 11; (with_reducible refine (new_ok hold 1 true _).mono ?_); rintro e w2 ⟨g, rfl, hg2, h2, hb2⟩; have HB2 := Aside0.mk (below_step HB1.out hb2); have HG := Aside0.mk (Nat.le_trans HB1.out.size hg2); have H2 := Aside0.mk h2; clear hb2 h2 hg2))
  rw [HZ.out] at H2
  go_loopg [6, 10, 11] (n + 1) (fun kq v6 v10 v11 w' => ∃ k : Nat, v10 = .int .i64 ((k + 1 : Nat) : Int) ∧ k ≤ n ∧ kq = n + 1 - k ∧ Aside0 (Ob w' g 44 (holdS hold 2 k).cells) ∧ Aside0 (Below w.heap.size w w'))
  case atStart => exact ⟨0, by simp, by omega, by omega, H2, HB2⟩
  case round =>
    obtain ⟨k, rfl, hk, hm, H3, HB3⟩ := hrel
    by_cases hlt : k < n
    · have hs := HST.out k
      have hl : (passS (holdS hold 2 k) 2 0).line = if ((k + 1 : Nat) : Int) ≤ hold then 0 else 1 := by rw [hs]; rfl
      have HS := Aside0.mk hs
      clear hs
      by_cases hc : ((k + 1 : Nat) : Int) ≤ hold
      · rw [if_pos hc] at hl
        go_wp2_with (first
      | (go_at_call 12; (with_reducible refine (pass_ok g (holdS hold 2 k) 2 0 (HOK.out k) _ H3.out).mono ?_); rintro e w4 ⟨rfl, h4, f4⟩; have HB4 := Aside0.mk (Fr.above HB3.out HB3.out.size f4 (fun i hi he => by have := HG.out; omega)); have H4 := Aside0.mk h4; clear h4 f4))
        go_roundg (n - k)
        case measure => omega
        case rel => exact ⟨k + 1, by go_num, by omega, by omega, ⟨by rw [← HS.out]; exact H4.out⟩, HB4⟩
      · rw [if_neg hc] at hl
        go_wp2_with (first
      | (go_at_call 12; (with_reducible refine (pass_ok g (holdS hold 2 k) 2 0 (HOK.out k) _ H3.out).mono ?_); rintro e w4 ⟨rfl, h4, f4⟩; have HB4 := Aside0.mk (Fr.above HB3.out HB3.out.size f4 (fun i hi he => by have := HG.out; omega)); have H4 := Aside0.mk h4; clear h4 f4))
        go_roundg (n - k)
        case measure => omega
        case rel => exact ⟨k + 1, by go_num, by omega, by omega, ⟨by rw [← HS.out]; exact H4.out⟩, HB4⟩
    · go_wp2_with fail
      go_ret
      exact ⟨rfl, HB3.out⟩
set_option maxHeartbeats 8000000 in
set_option maxRecDepth 100000 in
theorem holds_true (hold : Int) (n : Nat) (w : World) (h0 : 0 ≤ hold) (h1 : hold ≤ 300) (h2 : n ≤ 600) :
    Calls Try.prog 3 #[.int .i64 hold, .int .i64 n, .bool true] w fun e w' => e = .returned (.bool true) ∧ Below w.heap.size w w' := by
  have HB0 := Aside0.mk (Below.refl w.heap.size w)
  have n0 : ¬ hold < 0 := by omega
  have n1 : ¬ hold > 300 := by omega
  have HZ := Aside0.mk (holdS_zero hold 1 h0 h1)
  have HOK := Aside0.mk (fun k => holdS_ok hold 1 k h0 h1 (by omega))
  have HST := Aside0.mk (fun k => holdS_step hold 1 k h0 h1 (by omega))
  go_enter Try.func3, Try.ntmps3
  go_wp2_with (first
      | (go_at_call 10; (with_reducible refine (alive_ok _).mono ?_); rintro e w1 ⟨rfl, hb1⟩; have HB1 := Aside0.mk hb1; clear hb1)
      | (go_at_call 11; (with_reducible refine (new_ok hold 1 true _).mono ?_); rintro e w2 ⟨g, rfl, hg2, h2, hb2⟩; have HB2 := Aside0.mk (below_step HB1.out hb2); have HG := Aside0.mk (Nat.le_trans HB1.out.size hg2); have H2 := Aside0.mk h2; clear hb2 h2 hg2))
  rw [HZ.out] at H2
  go_loopg [6, 10, 11] (n + 1) (fun kq v6 v10 v11 w' => ∃ k : Nat, v10 = .int .i64 ((k + 1 : Nat) : Int) ∧ k ≤ n ∧ kq = n + 1 - k ∧ Aside0 (Ob w' g 44 (holdS hold 1 k).cells) ∧ Aside0 (Below w.heap.size w w'))
  case atStart => exact ⟨0, by simp, by omega, by omega, H2, HB2⟩
  case round =>
    obtain ⟨k, rfl, hk, hm, H3, HB3⟩ := hrel
    by_cases hlt : k < n
    · have hs := HST.out k
      have hl : (passS (holdS hold 1 k) 1 0).line = if ((k + 1 : Nat) : Int) ≤ hold then 0 else 1 := by rw [hs]; rfl
      have HS := Aside0.mk hs
      clear hs
      by_cases hc : ((k + 1 : Nat) : Int) ≤ hold
      · rw [if_pos hc] at hl
        go_wp2_with (first
      | (go_at_call 12; (with_reducible refine (pass_ok g (holdS hold 1 k) 1 0 (HOK.out k) _ H3.out).mono ?_); rintro e w4 ⟨rfl, h4, f4⟩; have HB4 := Aside0.mk (Fr.above HB3.out HB3.out.size f4 (fun i hi he => by have := HG.out; omega)); have H4 := Aside0.mk h4; clear h4 f4))
        go_roundg (n - k)
        case measure => omega
        case rel => exact ⟨k + 1, by go_num, by omega, by omega, ⟨by rw [← HS.out]; exact H4.out⟩, HB4⟩
      · rw [if_neg hc] at hl
        go_wp2_with (first
      | (go_at_call 12; (with_reducible refine (pass_ok g (holdS hold 1 k) 1 0 (HOK.out k) _ H3.out).mono ?_); rintro e w4 ⟨rfl, h4, f4⟩; have HB4 := Aside0.mk (Fr.above HB3.out HB3.out.size f4 (fun i hi he => by have := HG.out; omega)); have H4 := Aside0.mk h4; clear h4 f4))
        go_roundg (n - k)
        case measure => omega
        case rel => exact ⟨k + 1, by go_num, by omega, by omega, ⟨by rw [← HS.out]; exact H4.out⟩, HB4⟩
    · go_wp2_with fail
      go_ret
      exact ⟨rfl, HB3.out⟩
set_option maxHeartbeats 8000000 in
set_option maxRecDepth 100000 in
theorem holds_out (hold n : Int) (bad : Bool) (w : World) (h : hold < 0 ∨ 300 < hold ∨ n < 0 ∨ 600 < n) :
    Calls Try.prog 3 #[.int .i64 hold, .int .i64 n, .bool bad] w fun e w' => e = .returned (.bool true) ∧ Below w.heap.size w w' := by
  have HB0 := Aside0.mk (Below.refl w.heap.size w)
  by_cases a1 : hold < 0
  · go_enter Try.func3, Try.ntmps3
    go_wp2_with (first
      | (go_at_call 10; (with_reducible refine (alive_ok _).mono ?_); rintro e w1 ⟨rfl, hb1⟩; have HB1 := Aside0.mk hb1; clear hb1))
    go_ret
    exact ⟨rfl, HB1.out⟩
  · by_cases a2 : 300 < hold
    · go_enter Try.func3, Try.ntmps3
      go_wp2_with (first
      | (go_at_call 10; (with_reducible refine (alive_ok _).mono ?_); rintro e w1 ⟨rfl, hb1⟩; have HB1 := Aside0.mk hb1; clear hb1))
      go_ret
      exact ⟨rfl, HB1.out⟩
    · by_cases a3 : n < 0
      · go_enter Try.func3, Try.ntmps3
        go_wp2_with (first
      | (go_at_call 10; (with_reducible refine (alive_ok _).mono ?_); rintro e w1 ⟨rfl, hb1⟩; have HB1 := Aside0.mk hb1; clear hb1))
        go_ret
        exact ⟨rfl, HB1.out⟩
      · have a4 : 600 < n := by omega
        go_enter Try.func3, Try.ntmps3
        go_wp2_with (first
      | (go_at_call 10; (with_reducible refine (alive_ok _).mono ?_); rintro e w1 ⟨rfl, hb1⟩; have HB1 := Aside0.mk hb1; clear hb1))
        go_ret
        exact ⟨rfl, HB1.out⟩
theorem walk (a0 a1 : Int) (a2 : Bool) (W : World) (_h0 : (Lit.int .i64 a0).wf = true) (_h1 : (Lit.int .i64 a1).wf = true) :
    Calls Try.prog 3 #[.int .i64 a0, .int .i64 a1, .bool a2] W fun e w' => e = .returned (.bool true) ∧ Below W.heap.size W w' := by
  by_cases h : a0 < 0 ∨ 300 < a0 ∨ a1 < 0 ∨ 600 < a1
  · exact holds_out a0 a1 a2 W h
  · obtain ⟨n, rfl⟩ : ∃ n : Nat, a1 = n := ⟨a1.toNat, by omega⟩
    cases a2
    · exact holds_false a0 n W (by omega) (by omega) (by omega)
    · exact holds_true a0 n W (by omega) (by omega) (by omega)

end Go.Proofs.Ytijjmhgcfhkffaa.ApsHoldsW
