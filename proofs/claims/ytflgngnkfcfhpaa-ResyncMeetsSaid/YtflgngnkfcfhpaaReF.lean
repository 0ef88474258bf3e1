/- The example of the chapter on ends, and what the laws share. -/
import Derived.Test.YtflgngnkfcfhpaaReD
namespace Go.Proofs.Ytflgngnkfcfhpaa.ReF
open Go.RowKit Go.Proofs.YtflgngnkfcfhpaaW.PrintWords Go.Proofs.YtflgngnkfcfhpaaW.PrintLast Go.Proofs.YtflgngnkfcfhpaaW.PrintMore Go.Proofs.Ytflgngnkfcfhpaa.K Go.Proofs.Ytflgngnkfcfhpaa.ReP Go.Proofs.Ytflgngnkfcfhpaa.ReA Go.Proofs.Ytflgngnkfcfhpaa.ReB Go.Proofs.Ytflgngnkfcfhpaa.ReC Go.Proofs.Ytflgngnkfcfhpaa.ReD
set_option linter.unusedVariables false
set_option linter.unusedSimpArgs false
attribute [local go_sem] max2_int min2_int max_two min_two

attribute [local go_sem] eq39
set_option maxHeartbeats 8000000 in
set_option maxRecDepth 100000 in
theorem alive_ok (w : World) : Calls Try.prog 7 #[] w fun e w' => e = .returned (.bool true) ∧ Below w.heap.size w w' := by
  have HB0 := Aside0.mk (Below.refl w.heap.size w)
  have s2 : (newE 1 5).state = 0 := rfl
  have s3 : (failE (newE 1 5)).state = 1 := rfl
  have s4 : (outE (noteE (failE (newE 1 5)) true) []).state = 2 := rfl
  go_enter Try.func7, Try.ntmps7
  go_wp2_with (first
      | (go_at_call 8; have hcall := new_ok 1 5 w.heap.size _ HB0.out.size; (with_reducible refine hcall.mono ?_); clear hcall; rintro e w1 ⟨g, rfl, hg, i, hb⟩; have HG := Aside0.mk (Nat.le_trans HB0.out.size hg); have HB1 := Aside0.mk (below_step HB0.out hb); have I1 := Aside0.mk i; clear hg i hb)
      | (go_at_call 9; have hcall := fail_ok w.heap.size g _ (newE 1 5) (Ok.new 1 5) _ HB1.out.size I1.out; (with_reducible refine hcall.mono ?_); clear hcall; rintro e w2 ⟨rfl, i, m⟩; have HB2 := Aside0.mk (I1.out.down HG.out m HB1.out); have I2 := Aside0.mk i; clear i m)
      | (go_at_call 11; have hcall := note_ok w.heap.size g _ (failE (newE 1 5)) true (Ok.new 1 5).fail (by decide) _ HB2.out.size I2.out; (with_reducible refine hcall.mono ?_); clear hcall; rintro e w3 ⟨rfl, u, i, m⟩; have HB3 := Aside0.mk (I2.out.down HG.out m HB2.out); have I3 := Aside0.mk i; clear i m)
      | (go_at_call 20; have hcall := output_ok w.heap.size g _ (noteE (failE (newE 1 5)) true) (by decide) _ HB3.out.size I3.out; (with_reducible refine hcall.mono ?_); clear hcall; rintro e w4 ⟨v1, rfl, o1, i, m⟩; obtain ⟨b4, c4, hv4, _, _, pp⟩ := own_pair (n := 1) o1 rfl (by omega); subst hv4; have p0 : w4.cell? ⟨b4, 0, none⟩ = some (.int .i64 1) := (pp 0 (by omega)).1; have p1 : w4.cell? ⟨b4, 1, none⟩ = some (.int .i64 1) := (pp 0 (by omega)).2; clear pp; have O4 := Aside0.mk o1; clear o1; have HB4 := Aside0.mk (I3.out.down HG.out m HB3.out); have I4 := Aside0.mk i; clear i m)
      | (go_at_call 10; have hcall := state_ok w.heap.size g _ (newE 1 5) _ HB1.out.size I1.out; (with_reducible refine hcall.mono ?_); clear hcall; rintro e w' ⟨rfl, rfl⟩)
      | (go_at_call 10; have hcall := state_ok w.heap.size g _ (failE (newE 1 5)) _ HB2.out.size I2.out; (with_reducible refine hcall.mono ?_); clear hcall; rintro e w' ⟨rfl, rfl⟩)
      | (go_at_call 10; have hcall := state_ok w.heap.size g _ (outE (noteE (failE (newE 1 5)) true) []) _ HB4.out.size I4.out; (with_reducible refine hcall.mono ?_); clear hcall; rintro e w' ⟨rfl, rfl⟩))
  go_ret
  exact ⟨rfl, HB4.out⟩

end Go.Proofs.Ytflgngnkfcfhpaa.ReF
