/- The example of the document runs: alive; a window by the notes that it keeps. -/
import Derived.Test.YtoaoebkllcmanaaTaR
namespace Go.Proofs.Ytoaoebkllcmanaa.TcA
open Go.RowKit Go.Proofs.YtoaoebkllcmanaaW.PrintWords Go.Proofs.YtoaoebkllcmanaaW.PrintLast Go.Proofs.YtoaoebkllcmanaaW.PrintMore Go.Proofs.Ytoaoebkllcmanaa.K Go.Proofs.Ytoaoebkllcmanaa.TaP Go.Proofs.Ytoaoebkllcmanaa.TaA Go.Proofs.Ytoaoebkllcmanaa.TaB Go.Proofs.Ytoaoebkllcmanaa.TaR
set_option linter.unusedVariables false
set_option linter.unusedSimpArgs false
attribute [local go_sem] max2_int min2_int max_two min_two

/-- A window of n notes that keeps the notes h. -/
structure IsV (w : World) (g c n : Nat) (h : List Bool) : Prop where
  out : ∃ W, IsW w g c W ∧ Keeps W h ∧ W.l.length = n
theorem count_le (h : List Bool) (n : Nat) (hl : h.length ≤ n) : h.count true ≤ n ∧ h.count false ≤ n := by
  have := count_both h
  omega
section
variable {w w' : World} {g c n : Nat} {h : List Bool} {S : Nat → Prop}
theorem IsV.fr (i : IsV w g c n h) (hf : Fr S w w') (h1 : ¬ S g) (h2 : ¬ S c) : IsV w' g c n h := by
  obtain ⟨W, x, y⟩ := i.out
  exact ⟨W, x.fr hf h1 h2, y⟩
theorem IsV.below (i : IsV w g c n h) (hb : Below w.heap.size w w') : IsV w' g c n h := by
  obtain ⟨W, x, y⟩ := i.out
  exact ⟨W, x.below hb, y⟩
theorem IsV.lt (i : IsV w g c n h) : g < w.heap.size ∧ c < w.heap.size := by
  obtain ⟨W, x, y⟩ := i.out
  exact x.lt
theorem IsV.len (i : IsV w g c n h) : h.length ≤ n ∧ 1 ≤ n ∧ n ≤ 1000 := by
  obtain ⟨W, x, y, z⟩ := i.out
  have a := y.len
  have b := y.le
  have c := y.one
  have d := y.most
  omega
end
theorem v_new (n : Int) (w : World) : Calls Try.prog 7 #[.int .i64 n] w fun e w' => ∃ g c, e = .returned (.pointer (some ⟨g, 0, none⟩)) ∧ w.heap.size ≤ g ∧ w.heap.size ≤ c ∧ IsV w' g c (sizeW n) [] ∧ Below w.heap.size w w' :=
  (new_ok n w).mono fun e w' ⟨g, c, h1, h2, h3, h4, h5⟩ => ⟨g, c, h1, h2, h3, ⟨_, h4, Keeps.start _ (sizeW_b n).1 (sizeW_b n).2, by simp [newW]⟩, h5⟩
theorem v_note (g c n : Nat) (h : List Bool) (ok : Bool) (hl : h.length ≤ 200) (w : World) (i : IsV w g c n h) : Calls Try.prog 8 #[.pointer (some ⟨g, 0, none⟩), .bool ok] w fun e w' => e = .returned (.tuple #[]) ∧ IsV w' g c n (keep n h ok) ∧ Fr (fun k => k = g ∨ k = c) w w' := by
  obtain ⟨W, x, y, z⟩ := i.out
  have hc := count_le h 200 hl
  refine (note_ok g c W ok h y (by rw [y.good]; omega) (by rw [y.bad]; omega) w x).mono fun e w' q => ⟨q.1, ⟨noteW W ok, q.2.1, ?_, by simp [noteW, z]⟩, q.2.2⟩
  have := y.note ok
  rw [z] at this
  exact this
theorem v_clear (g c n : Nat) (h : List Bool) (w : World) (i : IsV w g c n h) : Calls Try.prog 12 #[.pointer (some ⟨g, 0, none⟩)] w fun e w' => e = .returned (.tuple #[]) ∧ IsV w' g c n [] ∧ Fr (fun k => k = g ∨ k = c) w w' := by
  obtain ⟨W, x, y, z⟩ := i.out
  exact (clear_ok g c W w x).mono fun e w' q => ⟨q.1, ⟨clearW W, q.2.1, y.clear, z⟩, q.2.2⟩
theorem v_sum (g c n : Nat) (h : List Bool) (w : World) (i : IsV w g c n h) : Calls Try.prog 9 #[.pointer (some ⟨g, 0, none⟩)] w fun e w' => e = .returned (.complex .f64 (fl (h.count true)) (fl (h.count false))) ∧ w' = w := by
  obtain ⟨W, x, y, z⟩ := i.out
  exact (sum_ok g c W w x).mono fun e w' q => ⟨by rw [q.1, y.good, y.bad], q.2.symm⟩
theorem of_s (a b : Nat) (ha : a ≤ 4294967295) (hb : b ≤ 4294967295) (w : World) : Calls Try.prog 10 #[.int .i64 a, .int .i64 b] w fun e w' => e = .returned (.complex .f64 (fl a) (fl b)) ∧ w' = w := (of_ok a b ha hb w).mono fun _ _ h => ⟨h.1, h.2.symm⟩
theorem ordS (h : List Bool) (hl : h.length ≤ 200) : (FloatKind.f64.format.order (fl (h.count true)) (fl (h.count true)) == some .eq) = true ∧ (FloatKind.f64.format.order (fl (h.count false)) (fl (h.count false)) == some .eq) = true := by
  have := count_le h 200 hl
  exact ⟨by rw [ordE _ (by omega)]; rfl, by rw [ordE _ (by omega)]; rfl⟩
theorem s0 : fl (([] : List Bool).count true) = 0 ∧ fl (([] : List Bool).count false) = 0 := ⟨fl0, fl0⟩
theorem s1 : fl ((keep 3 [] false).count true) = 0 ∧ fl ((keep 3 [] false).count false) = 4607182418800017408 := ⟨fl0, fl1⟩
theorem fl2 : fl 2 = 4611686018427387904 := by kernel_rfl
theorem fl3 : fl 3 = 4613937818241073152 := by kernel_rfl
theorem of23 (w : World) : Calls Try.prog 10 #[.int .i64 2, .int .i64 3] w fun e w' => e = .returned (.complex .f64 4611686018427387904 4613937818241073152) ∧ w' = w := by
  have := of_s 2 3 (by decide) (by decide) w
  rw [fl2, fl3] at this
  exact this
theorem o0 : (FloatKind.f64.format.order 0 0 == some .eq) = true := by decide +kernel
theorem o1 : (FloatKind.f64.format.order 4607182418800017408 4607182418800017408 == some .eq) = true := by decide +kernel
theorem o2 : (FloatKind.f64.format.order 4611686018427387904 4611686018427387904 == some .eq) = true := by decide +kernel
theorem o3 : (FloatKind.f64.format.order 4613937818241073152 4613937818241073152 == some .eq) = true := by decide +kernel
set_option maxHeartbeats 8000000 in
set_option maxRecDepth 100000 in
theorem alive_ok (w : World) : Calls Try.prog 6 #[] w fun e w' => e = .returned (.bool true) ∧ Below w.heap.size w w' := by
  have q0 := o0
  have q1 := o1
  have q2 := o2
  have q3 := o3
  go_enter Try.func6, Try.ntmps6
  go_wp2_with (first
      | (go_at_call 7; (with_reducible refine (v_new 3 _).mono ?_); rintro e w1 ⟨g, c, rfl, hg, hc, i, hb⟩; have HG := Aside0.mk hg; have HC := Aside0.mk hc; have I1 := Aside0.mk (show IsV w1 g c 3 [] from i); have B1 := Aside0.mk hb; clear hg hc i hb)
      | (go_at_call 9; (with_reducible refine (v_sum g c 3 [] _ I1.out).mono ?_); rintro e wK ⟨rfl, rfl⟩; rw [s0.1, s0.2])
      | (go_at_call 8; (with_reducible refine (v_note g c 3 [] false (by simp) _ I1.out).mono ?_); rintro e w2 ⟨rfl, i, f⟩; have I2 := Aside0.mk i; have B2 := Aside0.mk (Fr.above B1.out B1.out.size f (fun i hi he => by have := HG.out; have := HC.out; omega)); clear i f I1 B1)
      | (go_at_call 9; (with_reducible refine (v_sum g c 3 _ _ I2.out).mono ?_); rintro e wK ⟨rfl, rfl⟩; rw [s1.1, s1.2])
      | (go_at_call 10; (with_reducible refine (of23 _).mono ?_); rintro e wK ⟨rfl, rfl⟩))
  first | go_ret | go_ret2 | ((try simp only [Exit.inBlock, Exit.then]); refine bodyPost_ret (results_tmp3 rfl _ _ _) rfl ?_) | go_end0 | refine bodyPost_ret0 rfl rfl ?_
  exact ⟨rfl, B2.out⟩

end Go.Proofs.Ytoaoebkllcmanaa.TcA
