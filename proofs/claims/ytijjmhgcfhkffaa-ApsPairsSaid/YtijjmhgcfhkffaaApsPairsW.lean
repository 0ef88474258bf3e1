/- Two ends that tell each other their requests select one line: the walk. -/
import Derived.Test.YtijjmhgcfhkffaaApsPairsP
import Derived.Test.YtijjmhgcfhkffaaApsE
import Derived.Test.YtijjmhgcfhkffaaApsF
import Derived.Test.YtijjmhgcfhkffaaOpenA
namespace Go.Proofs.Ytijjmhgcfhkffaa.ApsPairsW
open Go.RowKit Go.Proofs.YtijjmhgcfhkffaaW.PrintWords Go.Proofs.YtijjmhgcfhkffaaW.PrintLast Go.Proofs.YtijjmhgcfhkffaaW.PrintMore Go.Proofs.Ytijjmhgcfhkffaa.K Go.Proofs.Ytijjmhgcfhkffaa.ApsP Go.Proofs.Ytijjmhgcfhkffaa.ApsA Go.Proofs.Ytijjmhgcfhkffaa.ApsB Go.Proofs.Ytijjmhgcfhkffaa.ApsC Go.Proofs.Ytijjmhgcfhkffaa.ApsD Go.Proofs.Ytijjmhgcfhkffaa.ApsPairsP Go.Proofs.Ytijjmhgcfhkffaa.ApsF Go.Proofs.Ytijjmhgcfhkffaa.OpenA
set_option linter.unusedVariables false
set_option linter.unusedSimpArgs false
attribute [local go_sem] max2_int min2_int max_two min_two

theorem and1 (x : Int) : bits .and .i64 x 1 = 0 ∨ bits .and .i64 x 1 = 1 := by
  simp only [bits]
  have h1 : (BitVec.ofInt IntKind.i64.bits x &&& BitVec.ofInt IntKind.i64.bits 1).toNat ≤ 1 := by
    rw [BitVec.toNat_and]
    exact Nat.and_le_right
  generalize (BitVec.ofInt IntKind.i64.bits x &&& BitVec.ofInt IntKind.i64.bits 1).toNat = m at *
  rw [IntKind.wrap_i64]
  omega
set_option maxHeartbeats 8000000 in
set_option maxRecDepth 100000 in
theorem pairs_in (hold wait : Int) (r : Bool) (A : Option Addr) (n c : Nat) (z : List (Int × Int × Int)) (w : World) (hr : IsActs w A n c z) (hn : n ≤ 40) (q0 : 0 ≤ hold) (q1 : hold ≤ 20) (q2 : 1 ≤ wait) (q3 : wait ≤ 20) :
    Calls Try.prog 9 #[.int .i64 hold, .int .i64 wait, .bool r, .slice A n c] w fun e w' => e = .returned (.bool true) ∧ Below w.heap.size w w' := by
  have HB0 := Aside0.mk (Below.refl w.heap.size w)
  have HR := Aside0.mk hr
  clear hr
  have HN := Aside0.mk (Pok.new hold wait r q0 q1 q2 q3)
  obtain ⟨K, hK⟩ : ∃ K : Nat, (K : Int) = hold + wait + 4 := ⟨(hold + wait + 4).toNat, by omega⟩
  go_enter Try.func9, Try.ntmps9
  go_wp2_with (first
      | (go_at_call 10; (with_reducible refine (alive_ok _).mono ?_); rintro e w1 ⟨rfl, hb1⟩; have HB1 := Aside0.mk hb1; clear hb1)
      | (go_at_call 11; (with_reducible refine (new_ok hold wait r _).mono ?_); rintro e w2 ⟨g, rfl, hg2, h2, hb2⟩; have B2 := Aside0.mk (below_step HB1.out hb2); have G_a := Aside0.mk (Nat.le_trans HB1.out.size hg2); have H_a2 := Aside0.mk h2; clear hb2 h2 hg2)
      | (go_at_call 11; (with_reducible refine (new_ok hold wait r _).mono ?_); rintro e w3 ⟨go, rfl, hg3, h3, hb3⟩; have B3 := Aside0.mk (below_step B2.out hb3); have G_b := Aside0.mk (Nat.le_trans B2.out.size hg3); have H_b3 := Aside0.mk h3; have H_a3 := Aside0.mk (H_a2.out.below hb3); have N_a_b := Aside0.mk (Nat.ne_of_lt (Nat.lt_of_lt_of_le H_a2.out.lt hg3)); have N_b_a := Aside0.mk (Ne.symm N_a_b.out); clear hb3 h3 hg3))
  clear H_a2 B2
  go_loopg [8, 12, 13, 14, 15, 16, 17, 18] (n + 1) (fun kq v8 v12 v13 v14 v15 v16 v17 v18 w' => ∃ (k : Nat) (one two : Int) (sa sb : St), v12 = .int .i64 one ∧ v13 = .int .i64 two ∧ v14 = .int .i64 k ∧ k ≤ n ∧ kq = n + 1 - k ∧ Aside0 (Pok sa hold wait) ∧ Aside0 (Pok sb hold wait) ∧ Aside0 (Ob w' g 44 sa.cells) ∧ Aside0 (Ob w' go 44 sb.cells) ∧ Aside0 (Below w.heap.size w w'))
  case atStart => exact ⟨0, 0, 0, _, _, rfl, rfl, by simp, by omega, by omega, HN, HN, H_a3, H_b3, B3⟩
  case round =>
    clear H_a3 H_b3 B3
    obtain ⟨k, one, two, sa, sb, rfl, rfl, rfl, hk, hm, PA, PB, H_a4, H_b4, B4⟩ := hrel
    by_cases hlt : k < n
    · obtain ⟨ad, hA, x0, x1, x2⟩ := (HR.out.below B4.out).at_ k (by omega)
      subst hA
      rw [add_field ad _ 1 (by decide)] at x1
      rw [add_field ad _ 2 (by decide)] at x2
      generalize hz : z.getD k (0, 0, 0) = x at *
      clear hz
      obtain ⟨way, a, b⟩ := x
      simp only at x0 x1 x2
      go_upto_block 2 with fail
      go_cut [12, 13, 15] (fun v12 v13 v15 wc => ∃ (one two : Int) (sa sb : St), v12 = .int .i64 one ∧ v13 = .int .i64 two ∧ Aside0 (Pok sa hold wait) ∧ Aside0 (Pok sb hold wait) ∧ Aside0 (Ob wc g 44 sa.cells) ∧ Aside0 (Ob wc go 44 sb.cells) ∧ Aside0 (Below w.heap.size w wc))
      case first =>
        have bb := and1 b
        generalize bits .and .i64 b 1 = v at bb ⊢
        by_cases hv : v = 0
        · subst hv
          by_cases hw : way = 0
          · subst hw
            go_wp2_with fail
            go_meet
            case rel => exact ⟨a, two, sa, sb, rfl, rfl, PA, PB, H_a4, H_b4, B4⟩
          · have bw : (way == 0) = false := beq_eq_false_iff_ne.mpr hw
            go_wp2_with (first
      | (go_at_call 15; (with_reducible refine (command_ok g sa a _ H_a4.out).mono ?_); rintro e w5 ⟨rfl, h5, f5⟩; have B5 := Aside0.mk (Fr.above B4.out B4.out.size f5 (fun i hi he => by have := G_a.out; omega)); have H_a5 := Aside0.mk h5; have H_b5 := Aside0.mk (H_b4.out.fr f5 N_b_a.out); clear h5 f5 B4 H_a4 H_b4))
            go_meet
            case rel => exact ⟨one, two, _, sb, rfl, rfl, ⟨PA.out.command a⟩, PB, H_a5, H_b5, B5⟩
        · have bv : (v == 0) = false := beq_eq_false_iff_ne.mpr hv
          by_cases hw : way = 0
          · subst hw
            go_wp2_with fail
            go_meet
            case rel => exact ⟨one, a, sa, sb, rfl, rfl, PA, PB, H_a4, H_b4, B4⟩
          · have bw : (way == 0) = false := beq_eq_false_iff_ne.mpr hw
            go_wp2_with (first
      | (go_at_call 15; (with_reducible refine (command_ok go sb a _ H_b4.out).mono ?_); rintro e w5 ⟨rfl, h5, f5⟩; have B5 := Aside0.mk (Fr.above B4.out B4.out.size f5 (fun i hi he => by have := G_b.out; omega)); have H_b5 := Aside0.mk h5; have H_a5 := Aside0.mk (H_a4.out.fr f5 N_a_b.out); clear h5 f5 B4 H_a4 H_b4))
            go_meet
            case rel => exact ⟨one, two, sa, _, rfl, rfl, PA, ⟨PB.out.command a⟩, H_a5, H_b5, B5⟩
      case rest =>
        clear PA PB H_a4 H_b4 B4 x0 x1 x2
        obtain ⟨one, two, sa, sb, rfl, rfl, PA, PB, H_a5, H_b5, B5⟩ := hcut
        go_wp2_with fail
        go_loopg [16] (K + 1) (fun kq v16 w' => ∃ (j : Nat) (sa sb : St), v16 = .int .i64 j ∧ j ≤ K ∧ kq = K + 1 - j ∧ Aside0 (Two sa sb one two hold wait j) ∧ Aside0 (Ob w' g 44 sa.cells) ∧ Aside0 (Ob w' go 44 sb.cells) ∧ Aside0 (Below w.heap.size w w'))
        case atStart => exact ⟨0, sa, sb, by simp, by omega, by omega, ⟨Two.start PA.out PB.out⟩, H_a5, H_b5, B5⟩
        case round =>
          clear PA PB H_a5 H_b5 B5
          obtain ⟨j, sa, sb, rfl, hj, hmj, TW, H_a6, H_b6, B6⟩ := hrel
          by_cases hjl : j < K
          · go_wp2_with (first
      | (go_at_call 12; (with_reducible refine (pass_ok g sa one 0 TW.out.pa.ok _ H_a6.out).mono ?_); rintro e w7 ⟨rfl, h7, f7⟩; have B7 := Aside0.mk (Fr.above B6.out B6.out.size f7 (fun i hi he => by have := G_a.out; omega)); have H_a7 := Aside0.mk h7; have H_b7 := Aside0.mk (H_b6.out.fr f7 N_b_a.out); clear h7 f7 B6 H_a6 H_b6)
      | (go_at_call 12; (with_reducible refine (pass_ok go sb two 0 TW.out.pb.ok _ H_b7.out).mono ?_); rintro e w8 ⟨rfl, h8, f8⟩; have B8 := Aside0.mk (Fr.above B7.out B7.out.size f8 (fun i hi he => by have := G_b.out; omega)); have H_b8 := Aside0.mk h8; have H_a8 := Aside0.mk (H_a7.out.fr f8 N_a_b.out); clear h8 f8 B7 H_a7 H_b7)
      | (go_at_call 14; (with_reducible refine (request_ok go (passS sb two 0) _ H_b8.out).mono ?_); rintro e w9 ⟨rfl, h9, f9⟩; have B9 := Aside0.mk (Fr.above B8.out B8.out.size f9 (fun i hi he => by have := G_b.out; omega)); have H_b9 := Aside0.mk h9; have H_a9 := Aside0.mk (H_a8.out.fr f9 N_a_b.out); clear h9 f9 B8 H_a8 H_b8)
      | (go_at_call 13; (with_reducible refine (remote_ok g (passS sa one 0) (passS sb two 0).own _ H_a9.out).mono ?_); rintro e w10 ⟨rfl, h10, f10⟩; have B10 := Aside0.mk (Fr.above B9.out B9.out.size f10 (fun i hi he => by have := G_a.out; omega)); have H_a10 := Aside0.mk h10; have H_b10 := Aside0.mk (H_b9.out.fr f10 N_b_a.out); clear h10 f10 B9 H_a9 H_b9)
      | (go_at_call 14; (with_reducible refine (request_ok g (remoteS (passS sa one 0) (passS sb two 0).own) _ H_a10.out).mono ?_); rintro e w11 ⟨rfl, h11, f11⟩; have B11 := Aside0.mk (Fr.above B10.out B10.out.size f11 (fun i hi he => by have := G_a.out; omega)); have H_a11 := Aside0.mk h11; have H_b11 := Aside0.mk (H_b10.out.fr f11 N_b_a.out); clear h11 f11 B10 H_a10 H_b10)
      | (go_at_call 13; (with_reducible refine (remote_ok go (passS sb two 0) (remoteS (passS sa one 0) (passS sb two 0).own).own _ H_b11.out).mono ?_); rintro e w12 ⟨rfl, h12, f12⟩; have B12 := Aside0.mk (Fr.above B11.out B11.out.size f12 (fun i hi he => by have := G_b.out; omega)); have H_b12 := Aside0.mk h12; have H_a12 := Aside0.mk (H_a11.out.fr f12 N_a_b.out); clear h12 f12 B11 H_a11 H_b11))
            go_roundg (K - j)
            case measure => omega
            case rel => exact ⟨j + 1, _, _, by go_num, by omega, by omega, ⟨TW.out.next⟩, H_a12, H_b12, B12⟩
          · have hag := TW.out.agree (by omega) (by omega)
            obtain ⟨L, hL⟩ : ∃ L, L = (passS sa one 0).line := ⟨_, rfl⟩
            have e1 := hL.symm
            have e2 := hag.1.trans hL.symm
            have e3 := hag.2.trans hL.symm
            clear hag hL
            go_wp2_with (first
      | (go_at_call 12; (with_reducible refine (pass_ok g sa one 0 TW.out.pa.ok _ H_a6.out).mono ?_); rintro e w7 ⟨rfl, h7, f7⟩; have B7 := Aside0.mk (Fr.above B6.out B6.out.size f7 (fun i hi he => by have := G_a.out; omega)); have H_a7 := Aside0.mk h7; have H_b7 := Aside0.mk (H_b6.out.fr f7 N_b_a.out); clear h7 f7 B6 H_a6 H_b6)
      | (go_at_call 12; (with_reducible refine (pass_ok go sb two 0 TW.out.pb.ok _ H_b7.out).mono ?_); rintro e w8 ⟨rfl, h8, f8⟩; have B8 := Aside0.mk (Fr.above B7.out B7.out.size f8 (fun i hi he => by have := G_b.out; omega)); have H_b8 := Aside0.mk h8; have H_a8 := Aside0.mk (H_a7.out.fr f8 N_a_b.out); clear h8 f8 B7 H_a7 H_b7)
      | (go_at_call 21; (with_reducible refine (getline_ok g (passS sa one 0) _ H_a8.out).mono ?_); rintro e w9 ⟨rfl, h9, f9⟩; have B9 := Aside0.mk (Fr.above B8.out B8.out.size f9 (fun i hi he => by have := G_a.out; omega)); have H_a9 := Aside0.mk h9; have H_b9 := Aside0.mk (H_b8.out.fr f9 N_b_a.out); clear h9 f9 B8 H_a8 H_b8)
      | (go_at_call 21; (with_reducible refine (getline_ok go (passS sb two 0) _ H_b9.out).mono ?_); rintro e w10 ⟨rfl, h10, f10⟩; have B10 := Aside0.mk (Fr.above B9.out B9.out.size f10 (fun i hi he => by have := G_b.out; omega)); have H_b10 := Aside0.mk h10; have H_a10 := Aside0.mk (H_a9.out.fr f10 N_a_b.out); clear h10 f10 B9 H_a9 H_b9)
      | (go_at_call 14; (with_reducible refine (request_ok g (passS sa one 0) _ H_a10.out).mono ?_); rintro e w11 ⟨rfl, h11, f11⟩; have B11 := Aside0.mk (Fr.above B10.out B10.out.size f11 (fun i hi he => by have := G_a.out; omega)); have H_a11 := Aside0.mk h11; have H_b11 := Aside0.mk (H_b10.out.fr f11 N_b_a.out); clear h11 f11 B10 H_a10 H_b10)
      | (go_at_call 14; (with_reducible refine (request_ok go (passS sb two 0) _ H_b11.out).mono ?_); rintro e w12 ⟨rfl, h12, f12⟩; have B12 := Aside0.mk (Fr.above B11.out B11.out.size f12 (fun i hi he => by have := G_b.out; omega)); have H_b12 := Aside0.mk h12; have H_a12 := Aside0.mk (H_a11.out.fr f12 N_a_b.out); clear h12 f12 B11 H_a11 H_b11)
      | (go_at_call 25; (with_reducible refine (winsr_ok _ _ _).mono ?_); rintro e w' ⟨rfl, rfl⟩)
      | (go_at_call 24; (with_reducible refine (liner_ok _ _).mono ?_); rintro e w' ⟨rfl, rfl⟩))
            go_roundg (n - k)
            case measure => omega
            case rel => exact ⟨k + 1, one, two, _, _, rfl, rfl, by go_num, by omega, by omega, ⟨TW.out.pa.pass one⟩, ⟨TW.out.pb.pass two⟩, H_a12, H_b12, B12⟩
    · go_wp2_with fail
      go_ret
      exact ⟨rfl, B4.out⟩
set_option maxHeartbeats 8000000 in
set_option maxRecDepth 100000 in
theorem pairs_long (hold wait : Int) (r : Bool) (A : Option Addr) (n c : Nat) (w : World) (hn : 40 < n) (hm : n ≤ 9223372036854775807) :
    Calls Try.prog 9 #[.int .i64 hold, .int .i64 wait, .bool r, .slice A n c] w fun e w' => e = .returned (.bool true) ∧ Below w.heap.size w w' := by
  have h1 : (40 : Int) < (n : Int) := by omega
  clear hn
  go_enter Try.func9, Try.ntmps9
  go_wp2_with (first
      | (go_at_call 10; (with_reducible refine (alive_ok _).mono ?_); rintro e w1 ⟨rfl, hb1⟩; have HB1 := Aside0.mk hb1; clear hb1))
  go_ret
  exact ⟨rfl, HB1.out⟩
set_option maxHeartbeats 8000000 in
set_option maxRecDepth 100000 in
theorem pairs_a (hold wait : Int) (r : Bool) (A : Option Addr) (n c : Nat) (w : World) (hm : n ≤ 40) (h : hold < 0) :
    Calls Try.prog 9 #[.int .i64 hold, .int .i64 wait, .bool r, .slice A n c] w fun e w' => e = .returned (.bool true) ∧ Below w.heap.size w w' := by
  go_enter Try.func9, Try.ntmps9
  go_wp2_with (first
      | (go_at_call 10; (with_reducible refine (alive_ok _).mono ?_); rintro e w1 ⟨rfl, hb1⟩; have HB1 := Aside0.mk hb1; clear hb1))
  go_ret
  exact ⟨rfl, HB1.out⟩
set_option maxHeartbeats 8000000 in
set_option maxRecDepth 100000 in
theorem pairs_b (hold wait : Int) (r : Bool) (A : Option Addr) (n c : Nat) (w : World) (hm : n ≤ 40) (p0 : ¬ hold < 0) (h : 20 < hold) :
    Calls Try.prog 9 #[.int .i64 hold, .int .i64 wait, .bool r, .slice A n c] w fun e w' => e = .returned (.bool true) ∧ Below w.heap.size w w' := by
  go_enter Try.func9, Try.ntmps9
  go_wp2_with (first
      | (go_at_call 10; (with_reducible refine (alive_ok _).mono ?_); rintro e w1 ⟨rfl, hb1⟩; have HB1 := Aside0.mk hb1; clear hb1))
  go_ret
  exact ⟨rfl, HB1.out⟩
set_option maxHeartbeats 8000000 in
set_option maxRecDepth 100000 in
theorem pairs_c (hold wait : Int) (r : Bool) (A : Option Addr) (n c : Nat) (w : World) (hm : n ≤ 40) (p0 : ¬ hold < 0) (p1 : ¬ 20 < hold) (h : wait < 1) :
    Calls Try.prog 9 #[.int .i64 hold, .int .i64 wait, .bool r, .slice A n c] w fun e w' => e = .returned (.bool true) ∧ Below w.heap.size w w' := by
  go_enter Try.func9, Try.ntmps9
  go_wp2_with (first
      | (go_at_call 10; (with_reducible refine (alive_ok _).mono ?_); rintro e w1 ⟨rfl, hb1⟩; have HB1 := Aside0.mk hb1; clear hb1))
  go_ret
  exact ⟨rfl, HB1.out⟩
set_option maxHeartbeats 8000000 in
set_option maxRecDepth 100000 in
theorem pairs_d (hold wait : Int) (r : Bool) (A : Option Addr) (n c : Nat) (w : World) (hm : n ≤ 40) (p0 : ¬ hold < 0) (p1 : ¬ 20 < hold) (p2 : ¬ wait < 1) (h : 20 < wait) :
    Calls Try.prog 9 #[.int .i64 hold, .int .i64 wait, .bool r, .slice A n c] w fun e w' => e = .returned (.bool true) ∧ Below w.heap.size w w' := by
  go_enter Try.func9, Try.ntmps9
  go_wp2_with (first
      | (go_at_call 10; (with_reducible refine (alive_ok _).mono ?_); rintro e w1 ⟨rfl, hb1⟩; have HB1 := Aside0.mk hb1; clear hb1))
  go_ret
  exact ⟨rfl, HB1.out⟩
theorem walk (a0 a1 : Int) (a2 : Bool) (a3 : Option Addr) (len3 cap3 : Nat) (z3 : List (Int × Int × Int)) (W : World) (_h0 : (Lit.int .i64 a0).wf = true) (_h1 : (Lit.int .i64 a1).wf = true) (w3 : IsActs W a3 len3 cap3 z3) :
    Calls Try.prog 9 #[.int .i64 a0, .int .i64 a1, .bool a2, .slice a3 len3 cap3] W fun e w' => e = .returned (.bool true) ∧ Below W.heap.size W w' := by
  rcases Nat.lt_or_ge 40 len3 with h | h
  · exact pairs_long a0 a1 a2 a3 len3 cap3 W h w3.len.2
  · by_cases p0 : a0 < 0
    · exact pairs_a a0 a1 a2 a3 len3 cap3 W h p0
    · by_cases p1 : 20 < a0
      · exact pairs_b a0 a1 a2 a3 len3 cap3 W h p0 p1
      · by_cases p2 : a1 < 1
        · exact pairs_c a0 a1 a2 a3 len3 cap3 W h p0 p1 p2
        · by_cases p3 : 20 < a1
          · exact pairs_d a0 a1 a2 a3 len3 cap3 W h p0 p1 p2 p3
          · exact pairs_in a0 a1 a2 a3 len3 cap3 z3 W w3 h (by omega) (by omega) (by omega) (by omega)

end Go.Proofs.Ytijjmhgcfhkffaa.ApsPairsW
