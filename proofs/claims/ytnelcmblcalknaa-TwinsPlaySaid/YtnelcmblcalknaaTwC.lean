/- The example of the chapter on twins. -/
import Derived.Test.YtnelcmblcalknaaTwQ
namespace Go.Proofs.Ytnelcmblcalknaa.TwC
open Go.RowKit Go.Proofs.YtnelcmblcalknaaW.PrintWords Go.Proofs.YtnelcmblcalknaaW.PrintLast Go.Proofs.YtnelcmblcalknaaW.PrintMore Go.Proofs.Ytnelcmblcalknaa.K Go.Proofs.Ytnelcmblcalknaa.TwP Go.Proofs.Ytnelcmblcalknaa.TwA Go.Proofs.Ytnelcmblcalknaa.TwB Go.Proofs.Ytnelcmblcalknaa.TwQ
set_option linter.unusedVariables false
set_option linter.unusedSimpArgs false
attribute [local go_sem] max2_int min2_int max_two min_two

theorem rd_mem (l : List Int) (i : Nat) (h : i < l.length) : rd l i ∈ l := by
  unfold rd
  simp [h]
theorem apart_of {g c g2 c2 B : Nat} (h : g < B ∧ c < B) (h1 : B ≤ g2) (h2 : B ≤ c2) : ¬ (g = g2 ∨ g = c2) ∧ ¬ (c = g2 ∨ c = c2) := by omega
theorem apart_sym {g c g2 c2 : Nat} (h : ¬ (g = g2 ∨ g = c2) ∧ ¬ (c = g2 ∨ c = c2)) : ¬ (g2 = g ∨ g2 = c) ∧ ¬ (c2 = g ∨ c2 = c) := by omega
set_option maxHeartbeats 8000000 in
set_option maxRecDepth 100000 in
theorem alive_ok (w : World) : Calls Try.prog 8 #[] w fun e w' => e = .returned (.bool true) ∧ Below w.heap.size w w' := by
  have B0 := Aside0.mk (Below.refl w.heap.size w)
  have e1 : freshB (newT 8) 5 = true := by decide +kernel
  have e2 : freshB (freshT (newT 8) 5) 5 = false := by decide +kernel
  have e3 : freshB (freshT (freshT (newT 8) 5) 5) 6 = true := by decide +kernel
  have k1 : Ok (freshT (newT 8) 5) := (Ok.new 8).fresh 5 (by decide) (by decide)
  have k2 : Ok (freshT (freshT (newT 8) 5) 5) := k1.fresh 5 (by decide) (by decide)
  have K1 := Aside0.mk k1
  have K2 := Aside0.mk k2
  clear k1 k2
  go_enter Try.func8, Try.ntmps8
  go_wp2_with (first
      | (go_at_call 9; (with_reducible refine (new_ok 8 _).mono ?_); rintro e w1 ⟨g, c, rfl, hg, hc, h, hb⟩; have B1 := Aside0.mk (below_step B0.out hb); have G_a := Aside0.mk (And.intro (Nat.le_trans B0.out.size hg) (Nat.le_trans B0.out.size hc)); have I_a1 := Aside0.mk h; clear hg hc h hb)
      | (go_at_call 10; (with_reducible refine (fresh_ok g c (newT 8) (Ok.new 8) 5 (by decide) (by decide) _ I_a1.out).mono ?_); rintro e w2 ⟨rfl, h2, f2⟩; have B2 := Aside0.mk (Fr.above B1.out B1.out.size f2 (fun i hi he => by have := G_a.out; omega)); have I_a2 := Aside0.mk h2; clear h2 f2 B1 I_a1)
      | (go_at_call 10; (with_reducible refine (fresh_ok g c (freshT (newT 8) 5) K1.out 5 (by decide) (by decide) _ I_a2.out).mono ?_); rintro e w3 ⟨rfl, h3, f3⟩; have B3 := Aside0.mk (Fr.above B2.out B2.out.size f3 (fun i hi he => by have := G_a.out; omega)); have I_a3 := Aside0.mk h3; clear h3 f3 B2 I_a2)
      | (go_at_call 10; (with_reducible refine (fresh_ok g c (freshT (freshT (newT 8) 5) 5) K2.out 6 (by decide) (by decide) _ I_a3.out).mono ?_); rintro e w4 ⟨rfl, h4, f4⟩; have B4 := Aside0.mk (Fr.above B3.out B3.out.size f4 (fun i hi he => by have := G_a.out; omega)); have I_a4 := Aside0.mk h4; clear h4 f4 B3 I_a3))
  go_ret
  exact ⟨rfl, B4.out⟩

end Go.Proofs.Ytnelcmblcalknaa.TwC
