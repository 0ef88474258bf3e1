/- The example of the document runs: alive. -/
import Derived.Test.YtjmkddadbblblaaMoB
namespace Go.Proofs.Ytjmkddadbblblaa.MoC
open Go.Proofs.Ytjmkddadbblblaa.MoP (Mo Ok)
open Go.RowKit Go.Proofs.YtjmkddadbblblaaW.PrintWords Go.Proofs.YtjmkddadbblblaaW.PrintLast Go.Proofs.YtjmkddadbblblaaW.PrintMore Go.Proofs.Ytjmkddadbblblaa.K Go.Proofs.Ytjmkddadbblblaa.TaP Go.Proofs.Ytjmkddadbblblaa.TaA Go.Proofs.Ytjmkddadbblblaa.TaB Go.Proofs.Ytjmkddadbblblaa.TaR Go.Proofs.Ytjmkddadbblblaa.MoA Go.Proofs.Ytjmkddadbblblaa.MoR Go.Proofs.Ytjmkddadbblblaa.MoB
set_option linter.unusedVariables false
set_option linter.unusedSimpArgs false
attribute [local go_sem] max2_int min2_int max_two min_two

def A0 : Mo := MoP.newM 2 1 9
def A1 : Mo := MoP.noteM A0 false
def A2 : Mo := MoP.noteM A1 false
theorem kA0 : Ok A0 := MoP.Ok.new _ _ _
theorem kA1 : Ok A1 := kA0.note _
theorem kA2 : Ok A2 := kA1.note _
theorem sA0 : A0.state = 0 := by decide
theorem sA1 : (MoP.noteM A0 false).state = 1 := by decide
theorem sA2 : (MoP.noteM A1 false).state = 2 := by decide
theorem sA3 : (MoP.noteM A2 true).state = 0 := by decide
set_option maxHeartbeats 8000000 in
set_option maxRecDepth 100000 in
theorem alive_ok (w : World) : Calls Try.prog 8 #[] w fun e w' => e = .returned (.bool true) ∧ Below w.heap.size w w' := by
  go_enter Try.func8, Try.ntmps8
  go_wp2_with (first
      | (go_at_call 9; (with_reducible refine (newm_ok 2 1 9 _).mono ?_); rintro e w1 ⟨p, g, c, rfl, hp, hg, hc, i, hb⟩; have HP := Aside0.mk (hp); have HG := Aside0.mk (hg); have HC := Aside0.mk (hc); have I1 := Aside0.mk (show IsM w1 p g c A0 from i); have B1 := Aside0.mk (hb); clear hp hg hc i hb)
      | (go_at_call 11; (with_reducible refine (state_ok p g c A0 _ I1.out).mono ?_); rintro e wK ⟨rfl, rfl⟩; rw [sA0])
      | (go_at_call 10; (with_reducible refine (notem_ok p g c A0 false kA0 _ I1.out).mono ?_); rintro e w2 ⟨rfl, i, f⟩; have I2 := Aside0.mk (show IsM w2 p g c A1 from i); have B2 := Aside0.mk (Fr.above B1.out B1.out.size f (fun i hi he => by have := HP.out; have := HG.out; have := HC.out; omega)); clear i f I1 B1; rw [sA1])
      | (go_at_call 10; (with_reducible refine (notem_ok p g c A1 false kA1 _ I2.out).mono ?_); rintro e w3 ⟨rfl, i, f⟩; have I3 := Aside0.mk (show IsM w3 p g c A2 from i); have B3 := Aside0.mk (Fr.above B2.out B2.out.size f (fun i hi he => by have := HP.out; have := HG.out; have := HC.out; omega)); clear i f I2 B2; rw [sA2])
      | (go_at_call 10; (with_reducible refine (notem_ok p g c A2 true kA2 _ I3.out).mono ?_); rintro e w4 ⟨rfl, i, f⟩; have I4 := Aside0.mk i; have B4 := Aside0.mk (Fr.above B3.out B3.out.size f (fun i hi he => by have := HP.out; have := HG.out; have := HC.out; omega)); clear i f I3 B3; rw [sA3]))
  first | go_ret | go_ret2 | ((try simp only [Exit.inBlock, Exit.then]); refine bodyPost_ret (results_tmp3 rfl _ _ _) rfl ?_) | go_end0 | refine bodyPost_ret0 rfl rfl ?_
  exact ⟨rfl, B4.out⟩

end Go.Proofs.Ytjmkddadbblblaa.MoC
