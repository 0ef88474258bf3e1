/- The example of the document, by a walk. No condition. -/
import Derived.Test.YtdeaeeihmdpcdaaKW2
namespace Go.Proofs.Ytdeaeeihmdpcdaa.KW
open Go.RowKit Go.Proofs.YtdeaeeihmdpcdaaW.PrintWords Go.Proofs.YtdeaeeihmdpcdaaW.PrintLast Go.Proofs.YtdeaeeihmdpcdaaW.PrintMore Go.Proofs.Ytdeaeeihmdpcdaa.K 
set_option linter.unusedVariables false
set_option linter.unusedSimpArgs false

set_option maxHeartbeats 8000000 in
set_option maxRecDepth 100000 in
theorem alive_ok (w : World) : Calls Try.prog 5 #[] w fun e w' => e = .returned (.bool true) ∧ Below w.heap.size w w' := by
  have hp : putB 0 0 = 0 := by decide
  have hr : readK [81, 174] = (5, 1, 0) := by decide
  have HP := Aside0.mk hp
  have HR := Aside0.mk hr
  clear hp hr
  go_enter Try.func5, Try.ntmps5
  go_wp2_with (first
    | (go_at_call 8; (with_reducible refine (put_ok _ _ _).mono ?_); rintro e w1 ⟨A1, c1, rfl, HO1, HB1⟩; rw [HP.out] at HO1; have HO2 := HO1.alloc (.cells #[.int .u8 81, .int .u8 174] 5); have HB2 := below_alloc HB1 (.cells #[.int .u8 81, .int .u8 174] 5))
    | (go_at_call 6; have hl1 : Rds (Kd.int .u8) (w1.alloc (.cells #[.int .u8 81, .int .u8 174] 5)) (some ⟨w1.heap.size, 0, none⟩) 2 2 [81, 174] := (lit_own (enc := Value.int .u8) (h1 := fun _ => rfl) 5 0 w1 [81, 174] (Nat.zero_le _) (by decide)).rds; (with_reducible refine (read_ok _ _ _ [81, 174] _ hl1 (by unfold octOk; decide) (by decide)).mono ?_); rintro e w3 ⟨rfl, hn⟩; have HB3 := below_step HB2 hn; have HO3 := HO2.below hn; clear hn hl1; rw [HR.out]; obtain ⟨ad, hA⟩ := HO3.rds.some_at 0 (by decide); subst hA; have x0 := HO3.rds.cell_int (Below.refl _ _) 0 (by decide); have x1 := HO3.rds.cell_int (Below.refl _ _) 1 (by decide); rw [show ad.add 0 = ad from rfl, show rd [0, 255 - 0] ((0 : Nat) : Int) = 0 from rfl] at x0; rw [show ad.add 1 = ⟨ad.block, ad.off + 1, none⟩ from rfl, show rd [0, 255 - 0] ((1 : Nat) : Int) = 255 from rfl] at x1)
    | (go_at_call 10; (with_reducible refine (num_ok _ _).mono ?_); rintro e w' ⟨rfl, rfl⟩))
  go_ret
  exact ⟨rfl, HB3⟩

end Go.Proofs.Ytdeaeeihmdpcdaa.KW
