/- The example of the chapter on selectors. -/
import Derived.Test.YtijjmhgcfhkffaaApsD
namespace Go.Proofs.Ytijjmhgcfhkffaa.ApsF
open Go.RowKit Go.Proofs.YtijjmhgcfhkffaaW.PrintWords Go.Proofs.YtijjmhgcfhkffaaW.PrintLast Go.Proofs.YtijjmhgcfhkffaaW.PrintMore Go.Proofs.Ytijjmhgcfhkffaa.K Go.Proofs.Ytijjmhgcfhkffaa.ApsP Go.Proofs.Ytijjmhgcfhkffaa.ApsA Go.Proofs.Ytijjmhgcfhkffaa.ApsB Go.Proofs.Ytijjmhgcfhkffaa.ApsC Go.Proofs.Ytijjmhgcfhkffaa.ApsD
set_option linter.unusedVariables false
set_option linter.unusedSimpArgs false
attribute [local go_sem] max2_int min2_int max_two min_two

def aliveS : St := passS (newS 0 5 true) 2 0
theorem aliveS_eq : aliveS = ⟨0, 5, true, 0, 0, 5, 1, 0, 1⟩ := by rfl
set_option maxHeartbeats 8000000 in
set_option maxRecDepth 100000 in
theorem alive_ok (w : World) : Calls Try.prog 10 #[] w fun e w' => e = .returned (.bool true) ∧ Below w.heap.size w w' := by
  have HB0 := Aside0.mk (Below.refl w.heap.size w)
  have e1 : (newS 0 5 true).line = 0 := rfl
  have e2 : (passS (newS 0 5 true) 2 0).line = 1 := rfl
  have e3 : (passS (newS 0 5 true) 2 0).own = 5 := rfl
  go_enter Try.func10, Try.ntmps10
  go_wp2_with (first
      | (go_at_call 11; (with_reducible refine (new_ok 0 5 true _).mono ?_); rintro e w1 ⟨g, rfl, hg1, h1, hb1⟩; have HB1 := Aside0.mk (below_step HB0.out hb1); have HG := Aside0.mk (Nat.le_trans HB0.out.size hg1); have H1 := Aside0.mk h1; clear hb1 h1 hg1)
      | (go_at_call 21; (with_reducible refine (getline_ok g (newS 0 5 true) _ H1.out).mono ?_); rintro e w2 ⟨rfl, h2, f2⟩; have HB2 := Aside0.mk (Fr.above HB1.out HB1.out.size f2 (fun i hi he => by have := HG.out; omega)); have H2 := Aside0.mk h2; clear h2 f2)
      | (go_at_call 12; (with_reducible refine (pass_ok g (newS 0 5 true) 2 0 (Ok.new 0 5 true) _ H2.out).mono ?_); rintro e w3 ⟨rfl, h3, f3⟩; have HB3 := Aside0.mk (Fr.above HB2.out HB2.out.size f3 (fun i hi he => by have := HG.out; omega)); have H3 := Aside0.mk h3; clear h3 f3)
      | (go_at_call 14; (with_reducible refine (request_ok g (passS (newS 0 5 true) 2 0) _ H3.out).mono ?_); rintro e w4 ⟨rfl, h4, f4⟩; have HB4 := Aside0.mk (Fr.above HB3.out HB3.out.size f4 (fun i hi he => by have := HG.out; omega)); have H4 := Aside0.mk h4; clear h4 f4))
  go_ret
  exact ⟨rfl, HB4.out⟩

end Go.Proofs.Ytijjmhgcfhkffaa.ApsF
