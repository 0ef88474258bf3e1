/- An end that asks for nothing selects what the other one asks for: the walk. -/
import Derived.Test.YtijjmhgcfhkffaaApsF
namespace Go.Proofs.Ytijjmhgcfhkffaa.ApsRemoteW
open Go.RowKit Go.Proofs.YtijjmhgcfhkffaaW.PrintWords Go.Proofs.YtijjmhgcfhkffaaW.PrintLast Go.Proofs.YtijjmhgcfhkffaaW.PrintMore Go.Proofs.Ytijjmhgcfhkffaa.K Go.Proofs.Ytijjmhgcfhkffaa.ApsP Go.Proofs.Ytijjmhgcfhkffaa.ApsA Go.Proofs.Ytijjmhgcfhkffaa.ApsB Go.Proofs.Ytijjmhgcfhkffaa.ApsC Go.Proofs.Ytijjmhgcfhkffaa.ApsD Go.Proofs.Ytijjmhgcfhkffaa.ApsF
set_option linter.unusedVariables false
set_option linter.unusedSimpArgs false
attribute [local go_sem] max2_int min2_int max_two min_two

theorem rem_line (q : Int) (r : Bool) : (passS (remoteS (newS 0 5 r) q) 0 0).line = if 1 ≤ q then if q ≤ 6 then 1 else 0 else 0 := by
  show lineQ (winsQ 0 (ofQ q)) = _
  unfold lineQ winsQ ofQ
  (repeat' split) <;> omega
theorem rem_own (q : Int) (r : Bool) : (passS (remoteS (newS 0 5 r) q) 0 0).own = 0 := rfl
set_option maxHeartbeats 8000000 in
set_option maxRecDepth 100000 in
theorem walk (q : Int) (r : Bool) (w : World) (_h0 : (Lit.int .i64 q).wf = true) :
    Calls Try.prog 4 #[.int .i64 q, .bool r] w fun e w' => e = .returned (.bool true) ∧ Below w.heap.size w w' := by
  have HB0 := Aside0.mk (Below.refl w.heap.size w)
  have hl := rem_line q r
  have ho := rem_own q r
  have HOK := Aside0.mk ((Ok.new 0 5 r).remote q)
  by_cases h1 : 1 ≤ q
  · rw [if_pos h1] at hl
    by_cases h2 : q ≤ 6
    · rw [if_pos h2] at hl
      go_enter Try.func4, Try.ntmps4
      go_wp2_with (first
      | (go_at_call 10; (with_reducible refine (alive_ok _).mono ?_); rintro e w1 ⟨rfl, hb1⟩; have HB1 := Aside0.mk hb1; clear hb1)
      | (go_at_call 11; (with_reducible refine (new_ok 0 5 r _).mono ?_); rintro e w2 ⟨g, rfl, hg2, h2, hb2⟩; have HB2 := Aside0.mk (below_step HB1.out hb2); have HG := Aside0.mk (Nat.le_trans HB1.out.size hg2); have H2 := Aside0.mk h2; clear hb2 h2 hg2)
      | (go_at_call 13; (with_reducible refine (remote_ok g (newS 0 5 r) q _ H2.out).mono ?_); rintro e w3 ⟨rfl, h3, f3⟩; have HB3 := Aside0.mk (Fr.above HB2.out HB2.out.size f3 (fun i hi he => by have := HG.out; omega)); have H3 := Aside0.mk h3; clear h3 f3)
      | (go_at_call 12; (with_reducible refine (pass_ok g (remoteS (newS 0 5 r) q) 0 0 HOK.out _ H3.out).mono ?_); rintro e w4 ⟨rfl, h4, f4⟩; have HB4 := Aside0.mk (Fr.above HB3.out HB3.out.size f4 (fun i hi he => by have := HG.out; omega)); have H4 := Aside0.mk h4; clear h4 f4)
      | (go_at_call 14; (with_reducible refine (request_ok g (passS (remoteS (newS 0 5 r) q) 0 0) _ H4.out).mono ?_); rintro e w5 ⟨rfl, h5, f5⟩; have HB5 := Aside0.mk (Fr.above HB4.out HB4.out.size f5 (fun i hi he => by have := HG.out; omega)); have H5 := Aside0.mk h5; clear h5 f5))
      go_ret
      exact ⟨rfl, HB5.out⟩
    · rw [if_neg h2] at hl
      go_enter Try.func4, Try.ntmps4
      go_wp2_with (first
      | (go_at_call 10; (with_reducible refine (alive_ok _).mono ?_); rintro e w1 ⟨rfl, hb1⟩; have HB1 := Aside0.mk hb1; clear hb1)
      | (go_at_call 11; (with_reducible refine (new_ok 0 5 r _).mono ?_); rintro e w2 ⟨g, rfl, hg2, h2, hb2⟩; have HB2 := Aside0.mk (below_step HB1.out hb2); have HG := Aside0.mk (Nat.le_trans HB1.out.size hg2); have H2 := Aside0.mk h2; clear hb2 h2 hg2)
      | (go_at_call 13; (with_reducible refine (remote_ok g (newS 0 5 r) q _ H2.out).mono ?_); rintro e w3 ⟨rfl, h3, f3⟩; have HB3 := Aside0.mk (Fr.above HB2.out HB2.out.size f3 (fun i hi he => by have := HG.out; omega)); have H3 := Aside0.mk h3; clear h3 f3)
      | (go_at_call 12; (with_reducible refine (pass_ok g (remoteS (newS 0 5 r) q) 0 0 HOK.out _ H3.out).mono ?_); rintro e w4 ⟨rfl, h4, f4⟩; have HB4 := Aside0.mk (Fr.above HB3.out HB3.out.size f4 (fun i hi he => by have := HG.out; omega)); have H4 := Aside0.mk h4; clear h4 f4)
      | (go_at_call 14; (with_reducible refine (request_ok g (passS (remoteS (newS 0 5 r) q) 0 0) _ H4.out).mono ?_); rintro e w5 ⟨rfl, h5, f5⟩; have HB5 := Aside0.mk (Fr.above HB4.out HB4.out.size f5 (fun i hi he => by have := HG.out; omega)); have H5 := Aside0.mk h5; clear h5 f5))
      go_ret
      exact ⟨rfl, HB5.out⟩
  · rw [if_neg h1] at hl
    go_enter Try.func4, Try.ntmps4
    go_wp2_with (first
      | (go_at_call 10; (with_reducible refine (alive_ok _).mono ?_); rintro e w1 ⟨rfl, hb1⟩; have HB1 := Aside0.mk hb1; clear hb1)
      | (go_at_call 11; (with_reducible refine (new_ok 0 5 r _).mono ?_); rintro e w2 ⟨g, rfl, hg2, h2, hb2⟩; have HB2 := Aside0.mk (below_step HB1.out hb2); have HG := Aside0.mk (Nat.le_trans HB1.out.size hg2); have H2 := Aside0.mk h2; clear hb2 h2 hg2)
      | (go_at_call 13; (with_reducible refine (remote_ok g (newS 0 5 r) q _ H2.out).mono ?_); rintro e w3 ⟨rfl, h3, f3⟩; have HB3 := Aside0.mk (Fr.above HB2.out HB2.out.size f3 (fun i hi he => by have := HG.out; omega)); have H3 := Aside0.mk h3; clear h3 f3)
      | (go_at_call 12; (with_reducible refine (pass_ok g (remoteS (newS 0 5 r) q) 0 0 HOK.out _ H3.out).mono ?_); rintro e w4 ⟨rfl, h4, f4⟩; have HB4 := Aside0.mk (Fr.above HB3.out HB3.out.size f4 (fun i hi he => by have := HG.out; omega)); have H4 := Aside0.mk h4; clear h4 f4)
      | (go_at_call 14; (with_reducible refine (request_ok g (passS (remoteS (newS 0 5 r) q) 0 0) _ H4.out).mono ?_); rintro e w5 ⟨rfl, h5, f5⟩; have HB5 := Aside0.mk (Fr.above HB4.out HB4.out.size f5 (fun i hi he => by have := HG.out; omega)); have H5 := Aside0.mk h5; clear h5 f5))
    go_ret
    exact ⟨rfl, HB5.out⟩

end Go.Proofs.Ytijjmhgcfhkffaa.ApsRemoteW
