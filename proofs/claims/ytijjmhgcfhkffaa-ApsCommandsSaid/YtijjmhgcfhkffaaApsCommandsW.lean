/- What commands select where both lines are good: the walk. -/
import Derived.Test.YtijjmhgcfhkffaaApsF
namespace Go.Proofs.Ytijjmhgcfhkffaa.ApsCommandsW
open Go.RowKit Go.Proofs.YtijjmhgcfhkffaaW.PrintWords Go.Proofs.YtijjmhgcfhkffaaW.PrintLast Go.Proofs.YtijjmhgcfhkffaaW.PrintMore Go.Proofs.Ytijjmhgcfhkffaa.K Go.Proofs.Ytijjmhgcfhkffaa.ApsP Go.Proofs.Ytijjmhgcfhkffaa.ApsA Go.Proofs.Ytijjmhgcfhkffaa.ApsB Go.Proofs.Ytijjmhgcfhkffaa.ApsC Go.Proofs.Ytijjmhgcfhkffaa.ApsD Go.Proofs.Ytijjmhgcfhkffaa.ApsF
set_option linter.unusedVariables false
set_option linter.unusedSimpArgs false
attribute [local go_sem] max2_int min2_int max_two min_two

theorem and3 (x : Int) : bits .and .i64 x 3 = 0 ∨ bits .and .i64 x 3 = 1 ∨ bits .and .i64 x 3 = 2 ∨ bits .and .i64 x 3 = 3 := by
  simp only [bits]
  have h1 : (BitVec.ofInt IntKind.i64.bits x &&& BitVec.ofInt IntKind.i64.bits 3).toNat ≤ 3 := by
    rw [BitVec.toNat_and]
    exact Nat.and_le_right
  generalize (BitVec.ofInt IntKind.i64.bits x &&& BitVec.ofInt IntKind.i64.bits 3).toNat = m at *
  rw [IntKind.wrap_i64]
  omega
structure Inv (s : St) : Prop where
  ok : Ok s
  rem : s.remote = 0
  own : s.own = 0 ∨ s.own = 3 ∨ s.own = 6 ∨ s.own = 8
theorem Inv.new (hold wait : Int) (r : Bool) : Inv (newS hold wait r) := ⟨Ok.new _ _ _, rfl, Or.inl rfl⟩
theorem Inv.step {s : St} (h : Inv s) (n : Int) (hn : n = 0 ∨ n = 1 ∨ n = 2 ∨ n = 3) : okC n = true ∧ Inv (passS (commandS s n) 0 0) ∧ (passS (commandS s n) 0 0).line = if n = 1 ∨ n = 2 then 1 else 0 := by
  obtain ⟨ok, rem, own⟩ := h
  have hok : okC n = true := by rcases hn with rfl | rfl | rfl | rfl <;> decide
  have hown : (commandS s n).own = 0 ∨ (commandS s n).own = 3 ∨ (commandS s n).own = 6 ∨ (commandS s n).own = 8 := by
    unfold commandS
    rw [hok]
    simp only [if_true]
    split
    · exact Or.inl rfl
    · exact own
  have hcmd : (commandS s n).command = n := by
    unfold commandS
    rw [hok]
    rfl
  have hrem : (commandS s n).remote = 0 := by
    unfold commandS
    rw [hok]
    exact rem
  have okc := ok.command n
  generalize commandS s n = c at hown hcmd hrem okc
  have hq : passQ c 0 0 = localQ n 0 0 := by
    unfold passQ
    rw [show heldW c 0 = 0 from rfl, hcmd]
    rcases hn with rfl | rfl | rfl | rfl
    · rw [if_pos (by decide)]
      unfold afterQ
      rw [if_neg (by omega), if_neg (by omega), if_neg (by omega)]
      decide
    all_goals rw [if_neg (by decide)]
  refine ⟨hok, ⟨okc.pass 0 0, hrem, ?_⟩, ?_⟩
  · show passQ c 0 0 = 0 ∨ passQ c 0 0 = 3 ∨ passQ c 0 0 = 6 ∨ passQ c 0 0 = 8
    rw [hq]
    rcases hn with rfl | rfl | rfl | rfl <;> decide
  · show lineQ (winsQ (passQ c 0 0) c.remote) = _
    rw [hq, hrem]
    rcases hn with rfl | rfl | rfl | rfl <;> decide
set_option maxHeartbeats 8000000 in
set_option maxRecDepth 100000 in
theorem commands_in (hold wait : Int) (r : Bool) (A : Option Addr) (n c : Nat) (l : List Int) (w : World) (hr : Rds (Kd.int .i64) w A n c l) (hn : n ≤ 50) :
    Calls Try.prog 6 #[.int .i64 hold, .int .i64 wait, .bool r, .slice A n c] w fun e w' => e = .returned (.bool true) ∧ Below w.heap.size w w' := by
  have HB0 := Aside0.mk (Below.refl w.heap.size w)
  have HR := Aside0.mk hr
  have hln := hr.len
  have HL := Aside0.mk hln
  clear hr hln
  go_enter Try.func6, Try.ntmps6
  go_wp2_with (first
      | (go_at_call 10; (with_reducible refine (alive_ok _).mono ?_); rintro e w1 ⟨rfl, hb1⟩; have HB1 := Aside0.mk hb1; clear hb1)
      | (go_at_call 11; (with_reducible refine (new_ok hold wait r _).mono ?_); rintro e w2 ⟨g, rfl, hg2, h2, hb2⟩; have HB2 := Aside0.mk (below_step HB1.out hb2); have HG := Aside0.mk (Nat.le_trans HB1.out.size hg2); have H2 := Aside0.mk h2; clear hb2 h2 hg2))
  go_loopg [8, 11, 12, 13, 14, 15] (n + 1) (fun kq v8 v11 v12 v13 v14 v15 w' => ∃ (k : Nat) (s : St), v11 = .int .i64 k ∧ k ≤ n ∧ kq = n + 1 - k ∧ Aside0 (Inv s) ∧ Aside0 (Ob w' g 44 s.cells) ∧ Aside0 (Below w.heap.size w w'))
  case atStart => exact ⟨0, _, by simp, by omega, by omega, ⟨Inv.new hold wait r⟩, H2, HB2⟩
  case round =>
    clear H2 HB2
    obtain ⟨k, s, rfl, hk, hm, HI, H3, HB3⟩ := hrel
    by_cases hlt : k < n
    · obtain ⟨ad, hA, hx⟩ := (HR.out.below HB3.out).int (k : Int) (by omega) (by omega)
      subst hA
      simp only [Int.toNat_natCast] at hx
      generalize hg : rd l k = x at *
      clear hg
      rcases and3 x with h3 | h3 | h3 | h3
      · obtain ⟨hok, hi, hl⟩ := HI.out.step 0 (by omega)
        rw [if_neg (by omega)] at hl
        go_wp2_with (first
      | (go_at_call 15; (with_reducible refine (command_ok g s 0 _ H3.out).mono ?_); rintro e w4 ⟨rfl, h4, f4⟩; have HB4 := Aside0.mk (Fr.above HB3.out HB3.out.size f4 (fun i hi he => by have := HG.out; omega)); have H4 := Aside0.mk h4; clear h4 f4)
      | (go_at_call 12; (with_reducible refine (pass_ok g (commandS s 0) 0 0 (HI.out.ok.command 0) _ H4.out).mono ?_); rintro e w5 ⟨rfl, h5, f5⟩; have HB5 := Aside0.mk (Fr.above HB4.out HB4.out.size f5 (fun i hi he => by have := HG.out; omega)); have H5 := Aside0.mk h5; clear h5 f5))
        go_roundg (n - k)
        case measure => omega
        case rel => exact ⟨k + 1, passS (commandS s 0) 0 0, by go_num, by omega, by omega, ⟨hi⟩, H5, HB5⟩
      · obtain ⟨hok, hi, hl⟩ := HI.out.step 1 (by omega)
        rw [if_pos (by omega)] at hl
        go_wp2_with (first
      | (go_at_call 15; (with_reducible refine (command_ok g s 1 _ H3.out).mono ?_); rintro e w4 ⟨rfl, h4, f4⟩; have HB4 := Aside0.mk (Fr.above HB3.out HB3.out.size f4 (fun i hi he => by have := HG.out; omega)); have H4 := Aside0.mk h4; clear h4 f4)
      | (go_at_call 12; (with_reducible refine (pass_ok g (commandS s 1) 0 0 (HI.out.ok.command 1) _ H4.out).mono ?_); rintro e w5 ⟨rfl, h5, f5⟩; have HB5 := Aside0.mk (Fr.above HB4.out HB4.out.size f5 (fun i hi he => by have := HG.out; omega)); have H5 := Aside0.mk h5; clear h5 f5))
        go_roundg (n - k)
        case measure => omega
        case rel => exact ⟨k + 1, passS (commandS s 1) 0 0, by go_num, by omega, by omega, ⟨hi⟩, H5, HB5⟩
      · obtain ⟨hok, hi, hl⟩ := HI.out.step 2 (by omega)
        rw [if_pos (by omega)] at hl
        go_wp2_with (first
      | (go_at_call 15; (with_reducible refine (command_ok g s 2 _ H3.out).mono ?_); rintro e w4 ⟨rfl, h4, f4⟩; have HB4 := Aside0.mk (Fr.above HB3.out HB3.out.size f4 (fun i hi he => by have := HG.out; omega)); have H4 := Aside0.mk h4; clear h4 f4)
      | (go_at_call 12; (with_reducible refine (pass_ok g (commandS s 2) 0 0 (HI.out.ok.command 2) _ H4.out).mono ?_); rintro e w5 ⟨rfl, h5, f5⟩; have HB5 := Aside0.mk (Fr.above HB4.out HB4.out.size f5 (fun i hi he => by have := HG.out; omega)); have H5 := Aside0.mk h5; clear h5 f5))
        go_roundg (n - k)
        case measure => omega
        case rel => exact ⟨k + 1, passS (commandS s 2) 0 0, by go_num, by omega, by omega, ⟨hi⟩, H5, HB5⟩
      · obtain ⟨hok, hi, hl⟩ := HI.out.step 3 (by omega)
        rw [if_neg (by omega)] at hl
        go_wp2_with (first
      | (go_at_call 15; (with_reducible refine (command_ok g s 3 _ H3.out).mono ?_); rintro e w4 ⟨rfl, h4, f4⟩; have HB4 := Aside0.mk (Fr.above HB3.out HB3.out.size f4 (fun i hi he => by have := HG.out; omega)); have H4 := Aside0.mk h4; clear h4 f4)
      | (go_at_call 12; (with_reducible refine (pass_ok g (commandS s 3) 0 0 (HI.out.ok.command 3) _ H4.out).mono ?_); rintro e w5 ⟨rfl, h5, f5⟩; have HB5 := Aside0.mk (Fr.above HB4.out HB4.out.size f5 (fun i hi he => by have := HG.out; omega)); have H5 := Aside0.mk h5; clear h5 f5))
        go_roundg (n - k)
        case measure => omega
        case rel => exact ⟨k + 1, passS (commandS s 3) 0 0, by go_num, by omega, by omega, ⟨hi⟩, H5, HB5⟩
    · have k4 : okC 4 = false := rfl
      have k1 : okC (-1) = false := rfl
      go_wp2_with (first
      | (go_at_call 15; (with_reducible refine (command_ok g s 4 _ H3.out).mono ?_); rintro e w4 ⟨rfl, h4, f4⟩; have HB4 := Aside0.mk (Fr.above HB3.out HB3.out.size f4 (fun i hi he => by have := HG.out; omega)); have H4 := Aside0.mk h4; clear h4 f4)
      | (go_at_call 15; (with_reducible refine (command_ok g (commandS s 4) (-1) _ H4.out).mono ?_); rintro e w5 ⟨rfl, h5, f5⟩; have HB5 := Aside0.mk (Fr.above HB4.out HB4.out.size f5 (fun i hi he => by have := HG.out; omega)); have H5 := Aside0.mk h5; clear h5 f5))
      go_ret
      exact ⟨rfl, HB5.out⟩
set_option maxHeartbeats 8000000 in
set_option maxRecDepth 100000 in
theorem commands_out (hold wait : Int) (r : Bool) (A : Option Addr) (n c : Nat) (w : World) (hn : 50 < n) (hm : n ≤ 9223372036854775807) :
    Calls Try.prog 6 #[.int .i64 hold, .int .i64 wait, .bool r, .slice A n c] w fun e w' => e = .returned (.bool true) ∧ Below w.heap.size w w' := by
  have h1 : (50 : Int) < (n : Int) := by omega
  clear hn
  go_enter Try.func6, Try.ntmps6
  go_wp2_with (first
      | (go_at_call 10; (with_reducible refine (alive_ok _).mono ?_); rintro e w1 ⟨rfl, hb1⟩; have HB1 := Aside0.mk hb1; clear hb1))
  go_ret
  exact ⟨rfl, HB1.out⟩
theorem walk (a0 a1 : Int) (a2 : Bool) (a3 : Option Addr) (len3 cap3 : Nat) (z3 : List Int) (W : World) (_h0 : (Lit.int .i64 a0).wf = true) (_h1 : (Lit.int .i64 a1).wf = true) (w3 : IsRow .i64 W a3 len3 cap3 z3) (_y3 : len3 * 8 ≤ 140737488351232) :
    Calls Try.prog 6 #[.int .i64 a0, .int .i64 a1, .bool a2, .slice a3 len3 cap3] W fun e w' => e = .returned (.bool true) ∧ Below W.heap.size W w' := by
  obtain ⟨l, hr, hm, hw⟩ := rds_of_row w3
  rcases Nat.lt_or_ge 50 len3 with h | h
  · exact commands_out a0 a1 a2 a3 len3 cap3 W h hm
  · exact commands_in a0 a1 a2 a3 len3 cap3 l W hr h

end Go.Proofs.Ytijjmhgcfhkffaa.ApsCommandsW
