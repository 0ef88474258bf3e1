/- A lock, and a protection line that failed, hold the working line: the walk. -/
import Derived.Test.YtijjmhgcfhkffaaApsF
import Derived.Test.YtijjmhgcfhkffaaOpenA
namespace Go.Proofs.Ytijjmhgcfhkffaa.ApsLocksW
open Go.RowKit Go.Proofs.YtijjmhgcfhkffaaW.PrintWords Go.Proofs.YtijjmhgcfhkffaaW.PrintLast Go.Proofs.YtijjmhgcfhkffaaW.PrintMore Go.Proofs.Ytijjmhgcfhkffaa.K Go.Proofs.Ytijjmhgcfhkffaa.ApsP Go.Proofs.Ytijjmhgcfhkffaa.ApsA Go.Proofs.Ytijjmhgcfhkffaa.ApsB Go.Proofs.Ytijjmhgcfhkffaa.ApsC Go.Proofs.Ytijjmhgcfhkffaa.ApsD Go.Proofs.Ytijjmhgcfhkffaa.ApsF Go.Proofs.Ytijjmhgcfhkffaa.OpenA
set_option linter.unusedVariables false
set_option linter.unusedSimpArgs false
attribute [local go_sem] max2_int min2_int max_two min_two

theorem line_high (q r : Int) (hq : q = 7 ∨ q = 8) : lineQ (winsQ q r) = 0 := by
  have h := ofQ_b r
  unfold winsQ lineQ
  generalize ofQ r = x at *
  rcases hq with rfl | rfl
  · have : ofQ 7 = 7 := by decide
    rw [this]
    (repeat' split) <;> omega
  · have : ofQ 8 = 8 := by decide
    rw [this]
    (repeat' split) <;> omega
theorem lock_line (s : St) (h : s.command = 3) (work spare : Int) : (passS s work spare).line = 0 := by
  have hq : passQ s work spare = 8 := by
    unfold passQ localQ
    rw [h]
    rfl
  show lineQ (winsQ (passQ s work spare) s.remote) = 0
  rw [hq]
  exact line_high 8 _ (Or.inr rfl)
theorem spare_line (s : St) (h : s.command = 0) (work : Int) : (passS s work 2).line = 0 := by
  have hq : passQ s work 2 = 7 := by
    unfold passQ localQ
    rw [h]
    rfl
  show lineQ (winsQ (passQ s work 2) s.remote) = 0
  rw [hq]
  exact line_high 7 _ (Or.inl rfl)
theorem lock_start (hold wait : Int) (r : Bool) : (commandS (newS hold wait r) 3).command = 3 := rfl
set_option maxHeartbeats 8000000 in
set_option maxRecDepth 100000 in
theorem locks_true (hold wait : Int) (r : Bool) (A : Option Addr) (n c : Nat) (z : List (Int × Int × Int)) (w : World) (hr : IsActs w A n c z) (hn : n ≤ 100) :
    Calls Try.prog 8 #[.int .i64 hold, .int .i64 wait, .bool r, .bool true, .slice A n c] w fun e w' => e = .returned (.bool true) ∧ Below w.heap.size w w' := by
  have HB0 := Aside0.mk (Below.refl w.heap.size w)
  have HR := Aside0.mk hr
  clear hr
  go_enter Try.func8, Try.ntmps8
  go_wp2_with (first
      | (go_at_call 10; (with_reducible refine (alive_ok _).mono ?_); rintro e w1 ⟨rfl, hb1⟩; have HB1 := Aside0.mk hb1; clear hb1)
      | (go_at_call 11; (with_reducible refine (new_ok hold wait r _).mono ?_); rintro e w2 ⟨g, rfl, hg2, h2, hb2⟩; have HB2 := Aside0.mk (below_step HB1.out hb2); have HG := Aside0.mk (Nat.le_trans HB1.out.size hg2); have H2 := Aside0.mk h2; clear hb2 h2 hg2)
      | (go_at_call 15; (with_reducible refine (command_ok g (newS hold wait r) 3 _ H2.out).mono ?_); rintro e w3 ⟨rfl, h3, f3⟩; have HB3 := Aside0.mk (Fr.above HB2.out HB2.out.size f3 (fun i hi he => by have := HG.out; omega)); have H3 := Aside0.mk h3; clear h3 f3))
  go_loopg [10, 13, 14] (n + 1) (fun kq v10 v13 v14 w' => ∃ (k : Nat) (s : St), v13 = .int .i64 k ∧ k ≤ n ∧ kq = n + 1 - k ∧ Aside0 (Ok s) ∧ Aside0 (s.command = 3) ∧ Aside0 (Ob w' g 44 s.cells) ∧ Aside0 (Below w.heap.size w w'))
  case atStart => exact ⟨0, _, by simp, by omega, by omega, ⟨(Ok.new hold wait r).command 3⟩, ⟨rfl⟩, H3, HB3⟩
  case round =>
    clear H2 HB2 H3 HB3
    obtain ⟨k, s, rfl, hk, hm, HO, HC, H4, HB4⟩ := hrel
    by_cases hlt : k < n
    · obtain ⟨ad, hA, x0, x1, x2⟩ := (HR.out.below HB4.out).at_ k (by omega)
      subst hA
      rw [add_field ad _ 1 (by decide)] at x1
      rw [add_field ad _ 2 (by decide)] at x2
      generalize hz : z.getD k (0, 0, 0) = x at *
      clear hz
      obtain ⟨way, a, b⟩ := x
      simp only at x0 x1 x2
      by_cases hw : way = 2
      · subst hw
        go_wp2_with (first
      | (go_at_call 13; (with_reducible refine (remote_ok g s a _ H4.out).mono ?_); rintro e w5 ⟨rfl, h5, f5⟩; have HB5 := Aside0.mk (Fr.above HB4.out HB4.out.size f5 (fun i hi he => by have := HG.out; omega)); have H5 := Aside0.mk h5; clear h5 f5))
        go_roundg (n - k)
        case measure => omega
        case rel => exact ⟨k + 1, remoteS s a, by go_num, by omega, by omega, ⟨HO.out.remote a⟩, ⟨HC.out⟩, H5, HB5⟩
      · have bw : (way == 2) = false := beq_eq_false_iff_ne.mpr hw
        have hl := lock_line s HC.out a b
        go_wp2_with (first
      | (go_at_call 12; (with_reducible refine (pass_ok g s a b HO.out _ H4.out).mono ?_); rintro e w5 ⟨rfl, h5, f5⟩; have HB5 := Aside0.mk (Fr.above HB4.out HB4.out.size f5 (fun i hi he => by have := HG.out; omega)); have H5 := Aside0.mk h5; clear h5 f5))
        go_roundg (n - k)
        case measure => omega
        case rel => exact ⟨k + 1, passS s a b, by go_num, by omega, by omega, ⟨HO.out.pass a b⟩, ⟨HC.out⟩, H5, HB5⟩
    · go_wp2_with fail
      go_ret
      exact ⟨rfl, HB4.out⟩
set_option maxHeartbeats 8000000 in
set_option maxRecDepth 100000 in
theorem locks_false (hold wait : Int) (r : Bool) (A : Option Addr) (n c : Nat) (z : List (Int × Int × Int)) (w : World) (hr : IsActs w A n c z) (hn : n ≤ 100) :
    Calls Try.prog 8 #[.int .i64 hold, .int .i64 wait, .bool r, .bool false, .slice A n c] w fun e w' => e = .returned (.bool true) ∧ Below w.heap.size w w' := by
  have HB0 := Aside0.mk (Below.refl w.heap.size w)
  have HR := Aside0.mk hr
  clear hr
  go_enter Try.func8, Try.ntmps8
  go_wp2_with (first
      | (go_at_call 10; (with_reducible refine (alive_ok _).mono ?_); rintro e w1 ⟨rfl, hb1⟩; have HB1 := Aside0.mk hb1; clear hb1)
      | (go_at_call 11; (with_reducible refine (new_ok hold wait r _).mono ?_); rintro e w2 ⟨g, rfl, hg2, h2, hb2⟩; have HB2 := Aside0.mk (below_step HB1.out hb2); have HG := Aside0.mk (Nat.le_trans HB1.out.size hg2); have H2 := Aside0.mk h2; clear hb2 h2 hg2))
  go_loopg [10, 13, 14] (n + 1) (fun kq v10 v13 v14 w' => ∃ (k : Nat) (s : St), v13 = .int .i64 k ∧ k ≤ n ∧ kq = n + 1 - k ∧ Aside0 (Ok s) ∧ Aside0 (s.command = 0) ∧ Aside0 (Ob w' g 44 s.cells) ∧ Aside0 (Below w.heap.size w w'))
  case atStart => exact ⟨0, _, by simp, by omega, by omega, ⟨Ok.new hold wait r⟩, ⟨rfl⟩, H2, HB2⟩
  case round =>
    clear H2 HB2
    obtain ⟨k, s, rfl, hk, hm, HO, HC, H4, HB4⟩ := hrel
    by_cases hlt : k < n
    · obtain ⟨ad, hA, x0, x1, x2⟩ := (HR.out.below HB4.out).at_ k (by omega)
      subst hA
      rw [add_field ad _ 1 (by decide)] at x1
      rw [add_field ad _ 2 (by decide)] at x2
      generalize hz : z.getD k (0, 0, 0) = x at *
      clear hz
      obtain ⟨way, a, b⟩ := x
      simp only at x0 x1 x2
      by_cases hw : way = 2
      · subst hw
        go_wp2_with (first
      | (go_at_call 13; (with_reducible refine (remote_ok g s a _ H4.out).mono ?_); rintro e w5 ⟨rfl, h5, f5⟩; have HB5 := Aside0.mk (Fr.above HB4.out HB4.out.size f5 (fun i hi he => by have := HG.out; omega)); have H5 := Aside0.mk h5; clear h5 f5))
        go_roundg (n - k)
        case measure => omega
        case rel => exact ⟨k + 1, remoteS s a, by go_num, by omega, by omega, ⟨HO.out.remote a⟩, ⟨HC.out⟩, H5, HB5⟩
      · have bw : (way == 2) = false := beq_eq_false_iff_ne.mpr hw
        have hl := spare_line s HC.out a
        go_wp2_with (first
      | (go_at_call 12; (with_reducible refine (pass_ok g s a 2 HO.out _ H4.out).mono ?_); rintro e w5 ⟨rfl, h5, f5⟩; have HB5 := Aside0.mk (Fr.above HB4.out HB4.out.size f5 (fun i hi he => by have := HG.out; omega)); have H5 := Aside0.mk h5; clear h5 f5))
        go_roundg (n - k)
        case measure => omega
        case rel => exact ⟨k + 1, passS s a 2, by go_num, by omega, by omega, ⟨HO.out.pass a 2⟩, ⟨HC.out⟩, H5, HB5⟩
    · go_wp2_with fail
      go_ret
      exact ⟨rfl, HB4.out⟩
set_option maxHeartbeats 8000000 in
set_option maxRecDepth 100000 in
theorem locks_out (hold wait : Int) (r lock : Bool) (A : Option Addr) (n c : Nat) (w : World) (hn : 100 < n) (hm : n ≤ 9223372036854775807) :
    Calls Try.prog 8 #[.int .i64 hold, .int .i64 wait, .bool r, .bool lock, .slice A n c] w fun e w' => e = .returned (.bool true) ∧ Below w.heap.size w w' := by
  have h1 : (100 : Int) < (n : Int) := by omega
  clear hn
  go_enter Try.func8, Try.ntmps8
  go_wp2_with (first
      | (go_at_call 10; (with_reducible refine (alive_ok _).mono ?_); rintro e w1 ⟨rfl, hb1⟩; have HB1 := Aside0.mk hb1; clear hb1))
  go_ret
  exact ⟨rfl, HB1.out⟩
theorem walk (a0 a1 : Int) (a2 a3 : Bool) (a4 : Option Addr) (len4 cap4 : Nat) (z4 : List (Int × Int × Int)) (W : World) (_h0 : (Lit.int .i64 a0).wf = true) (_h1 : (Lit.int .i64 a1).wf = true) (w4 : IsActs W a4 len4 cap4 z4) :
    Calls Try.prog 8 #[.int .i64 a0, .int .i64 a1, .bool a2, .bool a3, .slice a4 len4 cap4] W fun e w' => e = .returned (.bool true) ∧ Below W.heap.size W w' := by
  rcases Nat.lt_or_ge 100 len4 with h | h
  · exact locks_out a0 a1 a2 a3 a4 len4 cap4 W h w4.len.2
  · cases a3
    · exact locks_false a0 a1 a2 a4 len4 cap4 z4 W w4 h
    · exact locks_true a0 a1 a2 a4 len4 cap4 z4 W w4 h

end Go.Proofs.Ytijjmhgcfhkffaa.ApsLocksW
