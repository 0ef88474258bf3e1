/- The example of the document: stuffed and unstuffed, by a walk. No condition. -/
import Derived.Test.YtlohfdmaeopdeaaOctW2
namespace Go.Proofs.Ytlohfdmaeopdeaa.OctW
open Go.RowKit Go.Proofs.YtlohfdmaeopdeaaW.PrintWords Go.Proofs.YtlohfdmaeopdeaaW.PrintLast Go.Proofs.YtlohfdmaeopdeaaW.PrintMore Go.Proofs.Ytlohfdmaeopdeaa.K Go.Proofs.Ytlohfdmaeopdeaa.OctPure
set_option linter.unusedVariables false
set_option linter.unusedSimpArgs false

set_option maxHeartbeats 8000000 in
set_option maxRecDepth 100000 in
theorem alive_ok (w : World) : Calls Try.prog 8 #[] w fun e w' => e = .returned (.bool true) ∧ Below w.heap.size w w' := by
  have hs : stuffO [126] = [125, 94] := by decide +kernel
  have hu : unO false [125, 94] [] = ([126], 0) := by decide +kernel
  have HS := Aside0.mk hs
  have HU := Aside0.mk hu
  clear hs hu
  go_enter Try.func8, Try.ntmps8
  go_wp2_with (first
    | (go_at_call 9; have hl1 : Rds (Kd.int .u8) (w.alloc (.cells #[.int .u8 126] 5)) (some ⟨w.heap.size, 0, none⟩) 1 1 [126] := (own_lit (enc := Value.int .u8) (h1 := fun _ => rfl) 5 0 w [126] (Nat.zero_le _) (by decide)).rds; (with_reducible refine (stuff_ok _ _ _ [126] _ hl1 (by decide)).mono ?_); rintro e w2 ⟨A2, c2, rfl, HO2, hn⟩; have HB2 := below_step (below_alloc (Below.refl _ _) _) hn; clear hn hl1; rw [HS.out] at HO2 ⊢; have HO2' : Own (Kd.int .u8) 5 (w.alloc (.cells #[.int .u8 126] 5)).heap.size w2 (.slice A2 2 c2) [125, 94] := HO2)
    | (go_at_call 10; (with_reducible refine (unstuff_ok _ _ _ [125, 94] _ HO2'.rds (by decide)).mono ?_); rintro e w3 ⟨A3, c3, rfl, HO3, hn⟩; have HB3 := below_step HB2 hn; have HO23 := HO2'.below hn; clear hn; rw [HU.out] at HO3 ⊢; have HO3' : Own (Kd.int .u8) 5 w2.heap.size w3 (.slice A3 1 c3) [126] := HO3; clear HO3; obtain ⟨ad2, hA2⟩ := HO23.rds.some_at 0 (by decide); subst hA2; obtain ⟨ad3, hA3⟩ := HO3'.rds.some_at 0 (by decide); subst hA3; have x20 := HO23.rds.cell_int (Below.refl _ _) 0 (by decide); have x21 := HO23.rds.cell_int (Below.refl _ _) 1 (by decide); have x30 := HO3'.rds.cell_int (Below.refl _ _) 0 (by decide); rw [show ad2.add 0 = ad2 from rfl, show rd [125, 94] ((0 : Nat) : Int) = 125 from rfl] at x20; rw [show ad2.add 1 = ⟨ad2.block, ad2.off + 1, none⟩ from rfl, show rd [125, 94] ((1 : Nat) : Int) = 94 from rfl] at x21; rw [show ad3.add 0 = ad3 from rfl, show rd [126] ((0 : Nat) : Int) = 126 from rfl] at x30)
    | (go_at_call 12; (with_reducible refine (num_ok _ _).mono ?_); rintro e w' ⟨rfl, rfl⟩))
  go_ret
  exact ⟨rfl, HB3⟩

end Go.Proofs.Ytlohfdmaeopdeaa.OctW
