/- Behind a failure a revertive end is back when the wait is over, and one that is not stays: the walk. -/
import Derived.Test.YtijjmhgcfhkffaaApsF
namespace Go.Proofs.Ytijjmhgcfhkffaa.ApsWaitsW
open Go.RowKit Go.Proofs.YtijjmhgcfhkffaaW.PrintWords Go.Proofs.YtijjmhgcfhkffaaW.PrintLast Go.Proofs.YtijjmhgcfhkffaaW.PrintMore Go.Proofs.Ytijjmhgcfhkffaa.K Go.Proofs.Ytijjmhgcfhkffaa.ApsP Go.Proofs.Ytijjmhgcfhkffaa.ApsA Go.Proofs.Ytijjmhgcfhkffaa.ApsB Go.Proofs.Ytijjmhgcfhkffaa.ApsC Go.Proofs.Ytijjmhgcfhkffaa.ApsD Go.Proofs.Ytijjmhgcfhkffaa.ApsF
set_option linter.unusedVariables false
set_option linter.unusedSimpArgs false
attribute [local go_sem] max2_int min2_int max_two min_two

def waitS (wait : Int) (r : Bool) (k : Nat) : St :=
  if k = 0 then ⟨0, wait, r, 0, 0, 5, 1, 0, 1⟩ else if r then (if (k : Int) ≤ wait then ⟨0, wait, r, 0, 0, 2, 0, wait - k + 1, 1⟩ else ⟨0, wait, r, 0, 0, 0, 0, 0, 0⟩) else ⟨0, wait, r, 0, 0, 1, 0, 0, 1⟩
theorem waitS_zero (wait : Int) (r : Bool) (h : 1 ≤ wait) (h1 : wait ≤ 300) : passS (newS 0 wait r) 2 0 = waitS wait r 0 := by
  have : cutQ wait 1 1048576 = wait := by unfold cutQ; (repeat' split) <;> omega
  show St.mk (cutQ 0 0 1048576) (cutQ wait 1 1048576) r 0 0 5 1 0 1 = _
  rw [this]
  rfl
theorem waitS_ok (wait : Int) (r : Bool) (k : Nat) (h : 1 ≤ wait) (h1 : wait ≤ 300) : Ok (waitS wait r k) := by
  unfold waitS
  split
  · refine ⟨?_, ?_, ?_, ?_, ?_, ?_, ?_, ?_, ?_⟩ <;> simp only <;> omega
  · split
    · split
      · refine ⟨?_, ?_, ?_, ?_, ?_, ?_, ?_, ?_, ?_⟩ <;> simp only <;> omega
      · refine ⟨?_, ?_, ?_, ?_, ?_, ?_, ?_, ?_, ?_⟩ <;> simp only <;> omega
    · refine ⟨?_, ?_, ?_, ?_, ?_, ?_, ?_, ?_, ?_⟩ <;> simp only <;> omega
theorem waitS_A (wait : Int) (k : Nat) (h : ((k + 1 : Nat) : Int) ≤ wait) : waitS wait true (k + 1) = ⟨0, wait, true, 0, 0, 2, 0, wait - ((k + 1 : Nat) : Int) + 1, 1⟩ := by
  unfold waitS
  rw [if_neg (Nat.succ_ne_zero k), if_pos rfl, if_pos h]
theorem waitS_B (wait : Int) (k : Nat) (h : ¬ ((k + 1 : Nat) : Int) ≤ wait) : waitS wait true (k + 1) = ⟨0, wait, true, 0, 0, 0, 0, 0, 0⟩ := by
  unfold waitS
  rw [if_neg (Nat.succ_ne_zero k), if_pos rfl, if_neg h]
theorem waitS_C (wait : Int) (k : Nat) : waitS wait false (k + 1) = ⟨0, wait, false, 0, 0, 1, 0, 0, 1⟩ := by
  unfold waitS
  rw [if_neg (Nat.succ_ne_zero k), if_neg (by simp)]
theorem waitS_step (wait : Int) (r : Bool) (k : Nat) (h : 1 ≤ wait) (h1 : wait ≤ 300) : passS (waitS wait r k) 0 0 = waitS wait r (k + 1) := by
  cases r
  · cases k with
    | zero => rfl
    | succ k => rw [waitS_C, waitS_C]; rfl
  · cases k with
    | zero =>
      rw [waitS_A wait 0 (by omega)]
      show St.mk 0 wait true 0 0 2 0 wait 1 = _
      congr 1
      omega
    | succ k =>
      by_cases hk : ((k + 1 + 1 : Nat) : Int) ≤ wait
      · rw [waitS_A wait (k + 1) hk, waitS_A wait k (by omega)]
        have hz : ¬ wait - ((k + 1 : Nat) : Int) + 1 - 1 = 0 := by omega
        have hq : passQ ⟨0, wait, true, 0, 0, 2, 0, wait - ((k + 1 : Nat) : Int) + 1, 1⟩ 0 0 = 2 := by
          unfold passQ
          refine (if_pos ?_).trans ?_
          · rfl
          unfold afterQ
          simp only
          rw [if_neg (by omega), if_pos trivial, if_neg hz]
        have hl : passL ⟨0, wait, true, 0, 0, 2, 0, wait - ((k + 1 : Nat) : Int) + 1, 1⟩ 0 0 = wait - ((k + 1 : Nat) : Int) + 1 - 1 := rfl
        unfold passS
        rw [hq, hl]
        show St.mk 0 wait true 0 0 2 0 (wait - ((k + 1 : Nat) : Int) + 1 - 1) 1 = _
        congr 1
        omega
      · rw [waitS_B wait (k + 1) hk]
        by_cases hk2 : ((k + 1 : Nat) : Int) ≤ wait
        · rw [waitS_A wait k hk2]
          obtain rfl : wait = ((k + 1 : Nat) : Int) := by omega
          rw [show ((k + 1 : Nat) : Int) - ((k + 1 : Nat) : Int) + 1 = 1 by omega]
          rfl
        · rw [waitS_B wait k hk2]
          rfl
theorem waitS_line (wait : Int) (r : Bool) (k : Nat) : (waitS wait r (k + 1)).line = if r = true ∧ wait ≤ (k : Int) then 0 else 1 := by
  cases r
  · rw [waitS_C]
    simp
  · by_cases h : wait ≤ (k : Int)
    · rw [waitS_B wait k (by omega), if_pos ⟨rfl, h⟩]
    · rw [waitS_A wait k (by omega), if_neg (fun hh => h hh.2)]
theorem waitS_own (wait : Int) (r : Bool) (k : Nat) : (waitS wait r (k + 1)).own = if r = true then (if wait ≤ (k : Int) then 0 else 2) else 1 := by
  cases r
  · rw [waitS_C]
    simp
  · by_cases h : wait ≤ (k : Int)
    · rw [waitS_B wait k (by omega), if_pos rfl, if_pos h]
    · rw [waitS_A wait k (by omega), if_pos rfl, if_neg h]
theorem waitS_end (wait : Int) (r : Bool) (n : Nat) : (passS (commandS (waitS wait r n) 0) 0 0).line = if n = 0 then 1 else 0 := by
  cases n with
  | zero => cases r <;> rfl
  | succ n =>
    rw [if_neg (Nat.succ_ne_zero n)]
    cases r
    · rw [waitS_C]
      rfl
    · by_cases h : ((n + 1 : Nat) : Int) ≤ wait
      · rw [waitS_A wait n h]
        rfl
      · rw [waitS_B wait n h]
        rfl
set_option maxHeartbeats 8000000 in
set_option maxRecDepth 100000 in
theorem waits_false (wait : Int) (n : Nat) (w : World) (h0 : 1 ≤ wait) (h1 : wait ≤ 300) (h2 : n ≤ 600) :
    Calls Try.prog 5 #[.int .i64 wait, .bool false, .int .i64 n] w fun e w' => e = .returned (.bool true) ∧ Below w.heap.size w w' := by
  have HB0 := Aside0.mk (Below.refl w.heap.size w)
  have HZ := Aside0.mk (waitS_zero wait false h0 h1)
  have HOK := Aside0.mk (fun k => waitS_ok wait false k h0 h1)
  have HST := Aside0.mk (fun k => waitS_step wait false k h0 h1)
  have HEN := Aside0.mk (waitS_end wait false n)
  go_enter Try.func5, Try.ntmps5
  go_wp2_with (first
      | (go_at_call 10; (with_reducible refine (alive_ok _).mono ?_); rintro e w1 ⟨rfl, hb1⟩; have HB1 := Aside0.mk hb1; clear hb1)
      | (go_at_call 11; (with_reducible refine (new_ok 0 wait false _).mono ?_); rintro e w2 ⟨g, rfl, hg2, h2, hb2⟩; have HB2 := Aside0.mk (below_step HB1.out hb2); have HG := Aside0.mk (Nat.le_trans HB1.out.size hg2); have H2 := Aside0.mk h2; clear hb2 h2 hg2)
      | (go_at_call 12; (with_reducible refine (pass_ok g (newS 0 wait false) 2 0 (Ok.new 0 wait false) _ H2.out).mono ?_); rintro e w3 ⟨rfl, h3, f3⟩; have HB3 := Aside0.mk (Fr.above HB2.out HB2.out.size f3 (fun i hi he => by have := HG.out; omega)); have H3 := Aside0.mk h3; clear h3 f3))
  rw [HZ.out] at H3
  go_loopg [6, 9, 10, 11, 12] (n + 1) (fun kq v6 v9 v10 v11 v12 w' => ∃ k : Nat, v9 = .int .i64 k ∧ k ≤ n ∧ kq = n + 1 - k ∧ Aside0 (Ob w' g 44 (waitS wait false k).cells) ∧ Aside0 (Below w.heap.size w w'))
  case atStart => exact ⟨0, by simp, by omega, by omega, H3, HB3⟩
  case round =>
    clear H3 HB3 HZ
    obtain ⟨k, rfl, hk, hm, H3, HB3⟩ := hrel
    by_cases hlt : k < n
    · have hs := HST.out k
      have hl : (passS (waitS wait false k) 0 0).line = if false = true ∧ wait ≤ (k : Int) then 0 else 1 := by rw [hs]; exact waitS_line wait false k
      have ho : (passS (waitS wait false k) 0 0).own = if false = true then (if wait ≤ (k : Int) then 0 else 2) else 1 := by rw [hs]; exact waitS_own wait false k
      have HS := Aside0.mk hs
      clear hs
      rw [if_neg (by simp)] at hl
      rw [if_neg (by simp)] at ho
      go_wp2_with (first
      | (go_at_call 12; (with_reducible refine (pass_ok g (waitS wait false k) 0 0 (HOK.out k) _ H3.out).mono ?_); rintro e w4 ⟨rfl, h4, f4⟩; have HB4 := Aside0.mk (Fr.above HB3.out HB3.out.size f4 (fun i hi he => by have := HG.out; omega)); have H4 := Aside0.mk h4; clear h4 f4)
      | (go_at_call 14; (with_reducible refine (request_ok g (passS (waitS wait false k) 0 0) _ H4.out).mono ?_); rintro e w5 ⟨rfl, h5, f5⟩; have HB5 := Aside0.mk (Fr.above HB4.out HB4.out.size f5 (fun i hi he => by have := HG.out; omega)); have H5 := Aside0.mk h5; clear h5 f5))
      go_roundg (n - k)
      case measure => omega
      case rel => exact ⟨k + 1, by go_num, by omega, by omega, ⟨by rw [← HS.out]; exact H5.out⟩, HB5⟩
    · obtain rfl : k = n := by omega
      have hen := HEN.out
      rcases Nat.eq_zero_or_pos k with hz | hz
      · subst hz
        rw [if_pos rfl] at hen
        go_wp2_with (first
      | (go_at_call 15; (with_reducible refine (command_ok g (waitS wait false 0) 0 _ H3.out).mono ?_); rintro e w4 ⟨rfl, h4, f4⟩; have HB4 := Aside0.mk (Fr.above HB3.out HB3.out.size f4 (fun i hi he => by have := HG.out; omega)); have H4 := Aside0.mk h4; clear h4 f4)
      | (go_at_call 12; (with_reducible refine (pass_ok g (commandS (waitS wait false 0) 0) 0 0 ((HOK.out 0).command 0) _ H4.out).mono ?_); rintro e w5 ⟨rfl, h5, f5⟩; have HB5 := Aside0.mk (Fr.above HB4.out HB4.out.size f5 (fun i hi he => by have := HG.out; omega)); have H5 := Aside0.mk h5; clear h5 f5)
      | (go_at_call 16; (with_reducible refine (pick_ok _ _ _ _).mono ?_); rintro e w' ⟨rfl, rfl⟩))
        go_ret
        exact ⟨rfl, HB5.out⟩
      · rw [if_neg (by omega)] at hen
        have hkz : ((k : Int) == 0) = false := beq_eq_false_iff_ne.mpr (by omega)
        go_wp2_with (first
      | (go_at_call 15; (with_reducible refine (command_ok g (waitS wait false k) 0 _ H3.out).mono ?_); rintro e w4 ⟨rfl, h4, f4⟩; have HB4 := Aside0.mk (Fr.above HB3.out HB3.out.size f4 (fun i hi he => by have := HG.out; omega)); have H4 := Aside0.mk h4; clear h4 f4)
      | (go_at_call 12; (with_reducible refine (pass_ok g (commandS (waitS wait false k) 0) 0 0 ((HOK.out k).command 0) _ H4.out).mono ?_); rintro e w5 ⟨rfl, h5, f5⟩; have HB5 := Aside0.mk (Fr.above HB4.out HB4.out.size f5 (fun i hi he => by have := HG.out; omega)); have H5 := Aside0.mk h5; clear h5 f5)
      | (go_at_call 16; (with_reducible refine (pick_ok _ _ _ _).mono ?_); rintro e w' ⟨rfl, rfl⟩))
        go_ret
        exact ⟨rfl, HB5.out⟩
set_option maxHeartbeats 8000000 in
set_option maxRecDepth 100000 in
theorem waits_true (wait : Int) (n : Nat) (w : World) (h0 : 1 ≤ wait) (h1 : wait ≤ 300) (h2 : n ≤ 600) :
    Calls Try.prog 5 #[.int .i64 wait, .bool true, .int .i64 n] w fun e w' => e = .returned (.bool true) ∧ Below w.heap.size w w' := by
  have HB0 := Aside0.mk (Below.refl w.heap.size w)
  have HZ := Aside0.mk (waitS_zero wait true h0 h1)
  have HOK := Aside0.mk (fun k => waitS_ok wait true k h0 h1)
  have HST := Aside0.mk (fun k => waitS_step wait true k h0 h1)
  have HEN := Aside0.mk (waitS_end wait true n)
  go_enter Try.func5, Try.ntmps5
  go_wp2_with (first
      | (go_at_call 10; (with_reducible refine (alive_ok _).mono ?_); rintro e w1 ⟨rfl, hb1⟩; have HB1 := Aside0.mk hb1; clear hb1)
      | (go_at_call 11; (with_reducible refine (new_ok 0 wait true _).mono ?_); rintro e w2 ⟨g, rfl, hg2, h2, hb2⟩; have HB2 := Aside0.mk (below_step HB1.out hb2); have HG := Aside0.mk (Nat.le_trans HB1.out.size hg2); have H2 := Aside0.mk h2; clear hb2 h2 hg2)
      | (go_at_call 12; (with_reducible refine (pass_ok g (newS 0 wait true) 2 0 (Ok.new 0 wait true) _ H2.out).mono ?_); rintro e w3 ⟨rfl, h3, f3⟩; have HB3 := Aside0.mk (Fr.above HB2.out HB2.out.size f3 (fun i hi he => by have := HG.out; omega)); have H3 := Aside0.mk h3; clear h3 f3))
  rw [HZ.out] at H3
  go_loopg [6, 9, 10, 11, 12] (n + 1) (fun kq v6 v9 v10 v11 v12 w' => ∃ k : Nat, v9 = .int .i64 k ∧ k ≤ n ∧ kq = n + 1 - k ∧ Aside0 (Ob w' g 44 (waitS wait true k).cells) ∧ Aside0 (Below w.heap.size w w'))
  case atStart => exact ⟨0, by simp, by omega, by omega, H3, HB3⟩
  case round =>
    clear H3 HB3 HZ
    obtain ⟨k, rfl, hk, hm, H3, HB3⟩ := hrel
    by_cases hlt : k < n
    · have hs := HST.out k
      have hl : (passS (waitS wait true k) 0 0).line = if true = true ∧ wait ≤ (k : Int) then 0 else 1 := by rw [hs]; exact waitS_line wait true k
      have ho : (passS (waitS wait true k) 0 0).own = if true = true then (if wait ≤ (k : Int) then 0 else 2) else 1 := by rw [hs]; exact waitS_own wait true k
      have HS := Aside0.mk hs
      clear hs
      by_cases hc : wait ≤ (k : Int)
      · rw [if_pos ⟨rfl, hc⟩] at hl
        rw [if_pos rfl, if_pos hc] at ho
        go_wp2_with (first
      | (go_at_call 12; (with_reducible refine (pass_ok g (waitS wait true k) 0 0 (HOK.out k) _ H3.out).mono ?_); rintro e w4 ⟨rfl, h4, f4⟩; have HB4 := Aside0.mk (Fr.above HB3.out HB3.out.size f4 (fun i hi he => by have := HG.out; omega)); have H4 := Aside0.mk h4; clear h4 f4)
      | (go_at_call 14; (with_reducible refine (request_ok g (passS (waitS wait true k) 0 0) _ H4.out).mono ?_); rintro e w5 ⟨rfl, h5, f5⟩; have HB5 := Aside0.mk (Fr.above HB4.out HB4.out.size f5 (fun i hi he => by have := HG.out; omega)); have H5 := Aside0.mk h5; clear h5 f5))
        go_roundg (n - k)
        case measure => omega
        case rel => exact ⟨k + 1, by go_num, by omega, by omega, ⟨by rw [← HS.out]; exact H5.out⟩, HB5⟩
      · rw [if_neg (fun hh => hc hh.2)] at hl
        rw [if_pos rfl, if_neg hc] at ho
        go_wp2_with (first
      | (go_at_call 12; (with_reducible refine (pass_ok g (waitS wait true k) 0 0 (HOK.out k) _ H3.out).mono ?_); rintro e w4 ⟨rfl, h4, f4⟩; have HB4 := Aside0.mk (Fr.above HB3.out HB3.out.size f4 (fun i hi he => by have := HG.out; omega)); have H4 := Aside0.mk h4; clear h4 f4)
      | (go_at_call 14; (with_reducible refine (request_ok g (passS (waitS wait true k) 0 0) _ H4.out).mono ?_); rintro e w5 ⟨rfl, h5, f5⟩; have HB5 := Aside0.mk (Fr.above HB4.out HB4.out.size f5 (fun i hi he => by have := HG.out; omega)); have H5 := Aside0.mk h5; clear h5 f5))
        go_roundg (n - k)
        case measure => omega
        case rel => exact ⟨k + 1, by go_num, by omega, by omega, ⟨by rw [← HS.out]; exact H5.out⟩, HB5⟩
    · obtain rfl : k = n := by omega
      have hen := HEN.out
      rcases Nat.eq_zero_or_pos k with hz | hz
      · subst hz
        rw [if_pos rfl] at hen
        go_wp2_with (first
      | (go_at_call 15; (with_reducible refine (command_ok g (waitS wait true 0) 0 _ H3.out).mono ?_); rintro e w4 ⟨rfl, h4, f4⟩; have HB4 := Aside0.mk (Fr.above HB3.out HB3.out.size f4 (fun i hi he => by have := HG.out; omega)); have H4 := Aside0.mk h4; clear h4 f4)
      | (go_at_call 12; (with_reducible refine (pass_ok g (commandS (waitS wait true 0) 0) 0 0 ((HOK.out 0).command 0) _ H4.out).mono ?_); rintro e w5 ⟨rfl, h5, f5⟩; have HB5 := Aside0.mk (Fr.above HB4.out HB4.out.size f5 (fun i hi he => by have := HG.out; omega)); have H5 := Aside0.mk h5; clear h5 f5)
      | (go_at_call 16; (with_reducible refine (pick_ok _ _ _ _).mono ?_); rintro e w' ⟨rfl, rfl⟩))
        go_ret
        exact ⟨rfl, HB5.out⟩
      · rw [if_neg (by omega)] at hen
        have hkz : ((k : Int) == 0) = false := beq_eq_false_iff_ne.mpr (by omega)
        go_wp2_with (first
      | (go_at_call 15; (with_reducible refine (command_ok g (waitS wait true k) 0 _ H3.out).mono ?_); rintro e w4 ⟨rfl, h4, f4⟩; have HB4 := Aside0.mk (Fr.above HB3.out HB3.out.size f4 (fun i hi he => by have := HG.out; omega)); have H4 := Aside0.mk h4; clear h4 f4)
      | (go_at_call 12; (with_reducible refine (pass_ok g (commandS (waitS wait true k) 0) 0 0 ((HOK.out k).command 0) _ H4.out).mono ?_); rintro e w5 ⟨rfl, h5, f5⟩; have HB5 := Aside0.mk (Fr.above HB4.out HB4.out.size f5 (fun i hi he => by have := HG.out; omega)); have H5 := Aside0.mk h5; clear h5 f5)
      | (go_at_call 16; (with_reducible refine (pick_ok _ _ _ _).mono ?_); rintro e w' ⟨rfl, rfl⟩))
        go_ret
        exact ⟨rfl, HB5.out⟩
set_option maxHeartbeats 8000000 in
set_option maxRecDepth 100000 in
theorem waits_out (wait n : Int) (r : Bool) (w : World) (h : wait < 1 ∨ 300 < wait ∨ n < 0 ∨ 600 < n) :
    Calls Try.prog 5 #[.int .i64 wait, .bool r, .int .i64 n] w fun e w' => e = .returned (.bool true) ∧ Below w.heap.size w w' := by
  have HB0 := Aside0.mk (Below.refl w.heap.size w)
  by_cases a1 : wait < 1
  · skip
    go_enter Try.func5, Try.ntmps5
    go_wp2_with (first
      | (go_at_call 10; (with_reducible refine (alive_ok _).mono ?_); rintro e w1 ⟨rfl, hb1⟩; have HB1 := Aside0.mk hb1; clear hb1))
    go_ret
    exact ⟨rfl, HB1.out⟩
  · by_cases a2 : 300 < wait
    · skip
      go_enter Try.func5, Try.ntmps5
      go_wp2_with (first
      | (go_at_call 10; (with_reducible refine (alive_ok _).mono ?_); rintro e w1 ⟨rfl, hb1⟩; have HB1 := Aside0.mk hb1; clear hb1))
      go_ret
      exact ⟨rfl, HB1.out⟩
    · by_cases a3 : n < 0
      · skip
        go_enter Try.func5, Try.ntmps5
        go_wp2_with (first
      | (go_at_call 10; (with_reducible refine (alive_ok _).mono ?_); rintro e w1 ⟨rfl, hb1⟩; have HB1 := Aside0.mk hb1; clear hb1))
        go_ret
        exact ⟨rfl, HB1.out⟩
      · have a4 : 600 < n := by omega
        go_enter Try.func5, Try.ntmps5
        go_wp2_with (first
      | (go_at_call 10; (with_reducible refine (alive_ok _).mono ?_); rintro e w1 ⟨rfl, hb1⟩; have HB1 := Aside0.mk hb1; clear hb1))
        go_ret
        exact ⟨rfl, HB1.out⟩
theorem walk (a0 : Int) (a1 : Bool) (a2 : Int) (W : World) (_h0 : (Lit.int .i64 a0).wf = true) (_h1 : (Lit.int .i64 a2).wf = true) :
    Calls Try.prog 5 #[.int .i64 a0, .bool a1, .int .i64 a2] W fun e w' => e = .returned (.bool true) ∧ Below W.heap.size W w' := by
  by_cases h : a0 < 1 ∨ 300 < a0 ∨ a2 < 0 ∨ 600 < a2
  · exact waits_out a0 a2 a1 W h
  · obtain ⟨n, rfl⟩ : ∃ n : Nat, a2 = n := ⟨a2.toNat, by omega⟩
    cases a1
    · exact waits_false a0 n W (by omega) (by omega) (by omega)
    · exact waits_true a0 n W (by omega) (by omega) (by omega)

end Go.Proofs.Ytijjmhgcfhkffaa.ApsWaitsW
