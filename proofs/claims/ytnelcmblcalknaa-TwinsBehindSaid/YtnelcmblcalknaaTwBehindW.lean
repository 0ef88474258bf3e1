/- How far behind the highest one a number may come: the walk. -/
import Derived.Test.YtnelcmblcalknaaTwC
namespace Go.Proofs.Ytnelcmblcalknaa.TwBehindW
open Go.RowKit Go.Proofs.YtnelcmblcalknaaW.PrintWords Go.Proofs.YtnelcmblcalknaaW.PrintLast Go.Proofs.YtnelcmblcalknaaW.PrintMore Go.Proofs.Ytnelcmblcalknaa.K Go.Proofs.Ytnelcmblcalknaa.TwP Go.Proofs.Ytnelcmblcalknaa.TwA Go.Proofs.Ytnelcmblcalknaa.TwB Go.Proofs.Ytnelcmblcalknaa.TwQ Go.Proofs.Ytnelcmblcalknaa.TwC
set_option linter.unusedVariables false
set_option linter.unusedSimpArgs false
attribute [local go_sem] max2_int min2_int max_two min_two

theorem new_len (size : Int) (h0 : 1 ≤ size) (h1 : size ≤ 4096) : ((newT size).came.length : Int) = size := by
  simp only [newT, List.length_replicate, sizeQ]
  rw [if_neg (by omega), if_neg (by omega)]
  omega
theorem behind_law (size high : Int) (d : Nat) (h0 : 1 ≤ size) (h1 : size ≤ 4096) (h2 : 0 ≤ high) (h3 : high < 4294967296) (hd0 : 1 ≤ d) (hd1 : d ≤ 1048576) :
    freshB (newT size) high = true ∧ freshB (freshT (newT size) high) (sub32 high d) = decide ((d : Int) < size) ∧ freshB (freshT (freshT (newT size) high) (sub32 high d)) (sub32 high d) = false ∧ freshB (freshT (freshT (freshT (newT size) high) (sub32 high d)) (sub32 high d)) ((high + d) % 4294967296) = true := by
  have hn := new_len size h0 h1
  have ok0 := Ok.new size
  obtain ⟨a1, a2, a3, a4⟩ := fresh_unknown (newT size) ok0 high rfl (has_new size 0)
  have hm := sub32_b high d
  have ok1 := ok0.fresh high h2 h3
  have l1 := fresh_len (newT size) high
  obtain ⟨b1, b2, b3, b4⟩ := fresh_back (freshT (newT size) high) ok1 (sub32 high d) a2 d (by rw [a3]; unfold sub32; omega) (by omega) (by rw [a3]; unfold sub32; omega)
  rw [l1] at b1 b4
  have ok2 := ok1.fresh (sub32 high d) hm.1 hm.2
  have l2 := fresh_len (freshT (newT size) high) (sub32 high d)
  obtain ⟨c1, c2, c3, c4⟩ := fresh_back (freshT (freshT (newT size) high) (sub32 high d)) ok2 (sub32 high d) b2 d (by rw [b3, a3]; unfold sub32; omega) (by omega) (by rw [b3, a3]; unfold sub32; omega)
  rw [l2, l1] at c1
  have ok3 := ok2.fresh (sub32 high d) hm.1 hm.2
  obtain ⟨d1, _⟩ := fresh_up (freshT (freshT (freshT (newT size) high) (sub32 high d)) (sub32 high d)) ok3 ((high + d) % 4294967296) c2 d (by rw [c3, b3, a3]; unfold sub32; omega) (by rw [c3, b3, a3]; unfold sub32; omega) (by omega) (by omega)
  refine ⟨a1, ?_, ?_, d1⟩
  · rw [b1]
    by_cases hlt : d < (newT size).came.length
    · rw [a4 d hlt, if_neg (by omega), has_new]
      have : (d : Int) < size := by omega
      simp [hlt, this]
    · have : ¬ (d : Int) < size := by omega
      simp [hlt, this]
  · rw [c1]
    by_cases hlt : d < (newT size).came.length
    · rw [b4 d hlt, if_pos rfl]
      simp
    · simp [hlt]
set_option maxHeartbeats 8000000 in
set_option maxRecDepth 100000 in
theorem behind_in (size high : Int) (d : Nat) (w : World) (h0 : 1 ≤ size) (h1 : size ≤ 4096) (h2 : 0 ≤ high) (h3 : high < 4294967296) (hd0 : 1 ≤ d) (hd1 : d ≤ 1048576) :
    Calls Try.prog 6 #[.int .i64 size, .int .u32 high, .int .i64 d] w fun e w' => e = .returned (.bool true) ∧ Below w.heap.size w w' := by
  have B0 := Aside0.mk (Below.refl w.heap.size w)
  obtain ⟨l1, l2, l3, l4⟩ := behind_law size high d h0 h1 h2 h3 hd0 hd1
  have hm := sub32_b high d
  have ok1 := (Ok.new size).fresh high h2 h3
  have ok2 := ok1.fresh (sub32 high d) hm.1 hm.2
  have ok3 := ok2.fresh (sub32 high d) hm.1 hm.2
  have OK1 := Aside0.mk ok1
  have OK2 := Aside0.mk ok2
  have OK3 := Aside0.mk ok3
  have HM := Aside0.mk hm
  have e1 : IntKind.u32.wrap (d : Int) = (d : Int) := by rw [u32_w]; omega
  have e2 : IntKind.u32.wrap (high - (d : Int)) = sub32 high d := by rw [u32_w]; rfl
  have e3 : IntKind.u32.wrap (high + (d : Int)) = (high + d) % 4294967296 := by rw [u32_w]
  have p1 : 0 ≤ (high + (d : Int)) % 4294967296 := by omega
  have p2 : (high + (d : Int)) % 4294967296 < 4294967296 := by omega
  clear ok1 ok2 ok3 hm
  generalize hA : newT size = A at *
  have HOK := Aside0.mk (show Ok A by rw [← hA]; exact Ok.new size)
  have HA := Aside0.mk hA
  clear hA
  generalize sub32 high (d : Int) = m at *
  generalize (high + (d : Int)) % 4294967296 = n at *
  obtain ⟨B4, hB4⟩ : ∃ b, b = decide ((d : Int) < size) := ⟨_, rfl⟩
  go_enter Try.func6, Try.ntmps6
  go_wp2_with (first
      | (go_at_call 8; (with_reducible refine (alive_ok _).mono ?_); rintro e w1 ⟨rfl, hb1⟩; have B1 := Aside0.mk (below_step B0.out hb1); clear hb1)
      | (go_at_call 9; (with_reducible refine (new_ok size _).mono ?_); rintro e w2 ⟨g, c, rfl, hg, hc, h, hb⟩; rw [HA.out] at h; have B2 := Aside0.mk (below_step B1.out hb); have G_a := Aside0.mk (And.intro (Nat.le_trans B1.out.size hg) (Nat.le_trans B1.out.size hc)); have I_a2 := Aside0.mk h; clear hg hc h hb)
      | (go_at_call 10; (with_reducible refine (fresh_ok g c A HOK.out high h2 h3 _ I_a2.out).mono ?_); rintro e w3 ⟨rfl, h3, f3⟩; have B3 := Aside0.mk (Fr.above B2.out B2.out.size f3 (fun i hi he => by have := G_a.out; omega)); have I_a3 := Aside0.mk h3; clear h3 f3 B2 I_a2)
      | (go_at_call 10; (with_reducible refine (fresh_ok g c (freshT A high) OK1.out m HM.out.1 HM.out.2 _ I_a3.out).mono ?_); rintro e w4 ⟨rfl, h4, f4⟩; have B4 := Aside0.mk (Fr.above B3.out B3.out.size f4 (fun i hi he => by have := G_a.out; omega)); have I_a4 := Aside0.mk h4; clear h4 f4 B3 I_a3)
      | (go_at_call 10; (with_reducible refine (fresh_ok g c (freshT (freshT A high) m) OK2.out m HM.out.1 HM.out.2 _ I_a4.out).mono ?_); rintro e w5 ⟨rfl, h5, f5⟩; have B5 := Aside0.mk (Fr.above B4.out B4.out.size f5 (fun i hi he => by have := G_a.out; omega)); have I_a5 := Aside0.mk h5; clear h5 f5 B4 I_a4)
      | (go_at_call 10; (with_reducible refine (fresh_ok g c (freshT (freshT (freshT A high) m) m) OK3.out n p1 p2 _ I_a5.out).mono ?_); rintro e w6 ⟨rfl, h6, f6⟩; have B6 := Aside0.mk (Fr.above B5.out B5.out.size f6 (fun i hi he => by have := G_a.out; omega)); have I_a6 := Aside0.mk h6; clear h6 f6 B5 I_a5))
  go_ret
  exact ⟨rfl, B6.out⟩
set_option maxHeartbeats 8000000 in
set_option maxRecDepth 100000 in
theorem behind_out (size high d : Int) (w : World) (h : size < 1 ∨ 4096 < size ∨ d < 1 ∨ 1048576 < d) :
    Calls Try.prog 6 #[.int .i64 size, .int .u32 high, .int .i64 d] w fun e w' => e = .returned (.bool true) ∧ Below w.heap.size w w' := by
  have B0 := Aside0.mk (Below.refl w.heap.size w)
  by_cases a1 : size < 1
  · skip
    go_enter Try.func6, Try.ntmps6
    go_wp2_with (first
      | (go_at_call 8; (with_reducible refine (alive_ok _).mono ?_); rintro e w1 ⟨rfl, hb1⟩; have B1 := Aside0.mk (below_step B0.out hb1); clear hb1))
    go_ret
    exact ⟨rfl, B1.out⟩
  · by_cases a2 : 4096 < size
    · skip
      go_enter Try.func6, Try.ntmps6
      go_wp2_with (first
      | (go_at_call 8; (with_reducible refine (alive_ok _).mono ?_); rintro e w1 ⟨rfl, hb1⟩; have B1 := Aside0.mk (below_step B0.out hb1); clear hb1))
      go_ret
      exact ⟨rfl, B1.out⟩
    · by_cases a3 : d < 1
      · skip
        go_enter Try.func6, Try.ntmps6
        go_wp2_with (first
      | (go_at_call 8; (with_reducible refine (alive_ok _).mono ?_); rintro e w1 ⟨rfl, hb1⟩; have B1 := Aside0.mk (below_step B0.out hb1); clear hb1))
        go_ret
        exact ⟨rfl, B1.out⟩
      · have a4 : 1048576 < d := by omega
        go_enter Try.func6, Try.ntmps6
        go_wp2_with (first
      | (go_at_call 8; (with_reducible refine (alive_ok _).mono ?_); rintro e w1 ⟨rfl, hb1⟩; have B1 := Aside0.mk (below_step B0.out hb1); clear hb1))
        go_ret
        exact ⟨rfl, B1.out⟩
theorem wf_u32 {x : Int} (h : (Lit.int .u32 x).wf = true) : 0 ≤ x ∧ x < 4294967296 := by
  have h1 : IntKind.u32.min = 0 := by decide
  have h2 : IntKind.u32.max = 4294967295 := by decide
  simp [Lit.wf, h1, h2] at h
  omega
theorem walk (a0 a1 a2 : Int) (W : World) (_h0 : (Lit.int .i64 a0).wf = true) (_h1 : (Lit.int .u32 a1).wf = true) (_h2 : (Lit.int .i64 a2).wf = true) :
    Calls Try.prog 6 #[.int .i64 a0, .int .u32 a1, .int .i64 a2] W fun e w' => e = .returned (.bool true) ∧ Below W.heap.size W w' := by
  by_cases h : a0 < 1 ∨ 4096 < a0 ∨ a2 < 1 ∨ 1048576 < a2
  · exact behind_out a0 a1 a2 W h
  · obtain ⟨d, rfl⟩ : ∃ d : Nat, a2 = d := ⟨a2.toNat, by omega⟩
    have := wf_u32 _h1
    exact behind_in a0 a1 d W (by omega) (by omega) this.1 this.2 (by omega) (by omega)

end Go.Proofs.Ytnelcmblcalknaa.TwBehindW
