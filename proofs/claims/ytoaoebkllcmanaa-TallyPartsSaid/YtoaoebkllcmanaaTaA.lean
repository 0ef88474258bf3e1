/- Contracts of a window of notes, and of tallies. -/
import Derived.Test.YtoaoebkllcmanaaTaP
namespace Go.Proofs.Ytoaoebkllcmanaa.TaA
open Go.RowKit Go.Proofs.YtoaoebkllcmanaaW.PrintWords Go.Proofs.YtoaoebkllcmanaaW.PrintLast Go.Proofs.YtoaoebkllcmanaaW.PrintMore Go.Proofs.Ytoaoebkllcmanaa.K Go.Proofs.Ytoaoebkllcmanaa.TaP
set_option linter.unusedVariables false
set_option linter.unusedSimpArgs false
attribute [local go_sem] max2_int min2_int max_two min_two

theorem bodyPost_ret0 {P : Program} {fn : Func} {R : Ending → World → Prop} {a : Act} {w : World} (hr : fn.results = #[]) (hd : a.defers = []) (hR : R (.returned (.tuple #[])) w) : bodyPost P fn R .ret a w := ⟨hd, _, results_none hr _ _ _, hR⟩
theorem w64 {x : Int} (h0 : -9223372036854775808 ≤ x) (h1 : x ≤ 9223372036854775807) : IntKind.i64.wrap x = x := by
  rw [i64_w]
  unfold wrap64
  omega
structure IsW (w : World) (g c : Nat) (W : Wn) : Prop where
  tab : Ob w g 43 (W.cells c)
  row : Ob w c 4 (W.l.map Value.bool)
section
variable {w w' : World} {g c : Nat} {W : Wn} {S : Nat → Prop}
theorem IsW.fr (h : IsW w g c W) (hf : Fr S w w') (h1 : ¬ S g) (h2 : ¬ S c) : IsW w' g c W := ⟨h.tab.fr hf h1, h.row.fr hf h2⟩
theorem IsW.below (h : IsW w g c W) (hb : Below w.heap.size w w') : IsW w' g c W := ⟨h.tab.below hb, h.row.below hb⟩
theorem IsW.heap (h : IsW w g c W) (he : w'.heap = w.heap) : IsW w' g c W := ⟨h.tab.heap he, h.row.heap he⟩
theorem IsW.lt (h : IsW w g c W) : g < w.heap.size ∧ c < w.heap.size := ⟨h.tab.lt, h.row.lt⟩
theorem IsW.ne (h : IsW w g c W) : g ≠ c := fun e => blk_ne h.tab h.row (by decide) e
end
theorem map_at (l : List Bool) (i : Nat) (h : i < l.length) : (l.map Value.bool)[i]? = some (.bool (l.getD i false)) := by simp [h]
theorem fr_g {w w' : World} {g c i : Nat} (h : Fr (fun k => k = g ∨ k = c) w w') (u : Value) : Fr (fun k => k = g ∨ k = c) w (w'.setCell ⟨g, i, none⟩ u) := h.set (p := ⟨g, i, none⟩) (Or.inl rfl) u
theorem fr_c {w w' : World} {g c i : Nat} (h : Fr (fun k => k = g ∨ k = c) w w') (u : Value) : Fr (fun k => k = g ∨ k = c) w (w'.setCell ⟨c, i, none⟩ u) := h.set (p := ⟨c, i, none⟩) (Or.inr rfl) u
/-- The parts of a window in memory, each by itself. -/
structure Raw (w : World) (g c : Nat) (l : List Bool) (n a k : Nat) (re im : Nat) : Prop where
  tab : Ob w g 43 [.slice (some ⟨c, 0, none⟩) n n, .int .i64 a, .int .i64 k, .complex .f64 re im]
  row : Ob w c 4 (l.map Value.bool)
section
variable {w w' : World} {g c n a k re im : Nat} {l : List Bool}
theorem Raw.heap (h : Raw w g c l n a k re im) (he : w'.heap = w.heap) : Raw w' g c l n a k re im := ⟨h.tab.heap he, h.row.heap he⟩
theorem Raw.ne (h : Raw w g c l n a k re im) : g ≠ c := fun e => blk_ne h.tab h.row (by decide) e
theorem Raw.put1 (h : Raw w g c l n a k re im) (a' : Nat) : Raw (w.setCell ⟨g, 1, none⟩ (.int .i64 a')) g c l n a' k re im := ⟨h.tab.set 1 (.int .i64 a'), h.row.far (p := ⟨g, 1, none⟩) (Ne.symm h.ne) _⟩
theorem Raw.put2 (h : Raw w g c l n a k re im) (k' : Nat) : Raw (w.setCell ⟨g, 2, none⟩ (.int .i64 k')) g c l n a k' re im := ⟨h.tab.set 2 (.int .i64 k'), h.row.far (p := ⟨g, 2, none⟩) (Ne.symm h.ne) _⟩
theorem Raw.put3 (h : Raw w g c l n a k re im) (r i : Nat) : Raw (w.setCell ⟨g, 3, none⟩ (.complex .f64 r i)) g c l n a k r i := ⟨h.tab.set 3 (.complex .f64 r i), h.row.far (p := ⟨g, 3, none⟩) (Ne.symm h.ne) _⟩
theorem Raw.putR (h : Raw w g c l n a k re im) (i : Nat) (x : Bool) : Raw (w.setCell ⟨c, i, none⟩ (.bool x)) g c (l.set i x) n a k re im := ⟨h.tab.far (p := ⟨c, i, none⟩) h.ne _, by have := h.row.set i (.bool x); rwa [List.map_set]⟩
theorem Raw.at_ (h : Raw w g c l n a k re im) (i : Nat) (hi : i < l.length) : w.cell? ⟨c, i, none⟩ = some (.bool (l.getD i false)) ∧ w.frozen? ⟨c, i, none⟩ = false := ⟨h.row.at_ i (map_at _ i hi), h.row.frozen i⟩
end
theorem run_store_complex (P : Program) (w : World) (a : Addr) (k : FloatKind) (x y : Nat) (m : Mode) : (store a (.complex k x y) m).run P w = stored P w a (.complex k x y) m := run_store P w a _ m rfl
attribute [local go_sem] run_store_complex
set_option maxHeartbeats 8000000 in
set_option maxRecDepth 100000 in
theorem one_ok (ok : Bool) (w : World) : Calls Try.prog 20 #[.bool ok] w fun e w' => e = .returned (.complex .f64 (oneRe ok) (oneIm ok)) ∧ w = w' := by
  cases ok
  · go_enter Try.func20, Try.ntmps20
    go_wp2
    go_ret
    exact ⟨rfl, rfl⟩
  · go_enter Try.func20, Try.ntmps20
    go_wp2
    go_ret
    exact ⟨rfl, rfl⟩
theorem one_s (ok : Bool) (w : World) : Calls Try.prog 20 #[.bool ok] w fun e w' => e = .returned (.complex .f64 (oneRe ok) (oneIm ok)) ∧ w' = w := (one_ok _ _).mono fun _ _ h => ⟨h.1, h.2.symm⟩
theorem one_q (ok : Bool) (w : World) (n : Nat) : Calls Try.prog 20 #[.bool ok] (w.drewN n) fun e w' => e = .returned (.complex .f64 (oneRe ok) (oneIm ok)) ∧ ∃ m, w' = w.drewN m := (one_ok _ _).mono fun _ _ h => ⟨h.1, n, h.2.symm⟩
set_option maxHeartbeats 8000000 in
set_option maxRecDepth 100000 in
theorem sum_ok (g c : Nat) (W : Wn) (w : World) (h : IsW w g c W) : Calls Try.prog 9 #[.pointer (some ⟨g, 0, none⟩)] w fun e w' => e = .returned (.complex .f64 (fl W.good) (fl W.bad)) ∧ w = w' := by
  have c3 := h.tab.at_ 3 (v := .complex .f64 (fl W.good) (fl W.bad)) rfl
  clear h
  go_enter Try.func9, Try.ntmps9
  go_wp2
  go_ret
  exact ⟨rfl, rfl⟩

theorem Raw.win {w : World} {g c n i k x y : Nat} {l : List Bool} (h : Raw w g c l n i k (fl x) (fl y)) (hn : n = l.length) : IsW w g c ⟨l, i, k, x, y⟩ := by
  subst hn
  exact ⟨h.tab, h.row⟩
set_option maxHeartbeats 8000000 in
set_option maxRecDepth 100000 in
theorem note_ok (g c : Nat) (W : Wn) (ok : Bool) (h : List Bool) (K : Keeps W h) (hg : W.good ≤ 200) (hb : W.bad ≤ 200) (w : World) (hi : IsW w g c W) :
    Calls Try.prog 8 #[.pointer (some ⟨g, 0, none⟩), .bool ok] w fun e w' => e = .returned (.tuple #[]) ∧ IsW w' g c (noteW W ok) ∧ Fr (fun k => k = g ∨ k = c) w w' := by
  obtain ⟨l, i, k, a0, b0⟩ := W
  have k1 := K.le
  have k2 := K.one
  have k3 := K.most
  have k4 := K.at_
  have k5 := K.need
  simp only at k1 k2 k3 k4 k5 hg hb
  obtain ⟨n, hn⟩ : ∃ n, n = l.length := ⟨_, rfl⟩
  have R0 : Raw w g c l n i k (fl a0) (fl b0) := ⟨by rw [hn]; exact hi.tab, hi.row⟩
  obtain ⟨r0, f0⟩ := R0.at_ i k4
  have c0 := R0.tab.at_ 0 (v := .slice (some ⟨c, 0, none⟩) n n) rfl
  have c1 := R0.tab.at_ 1 (v := .int .i64 i) rfl
  have c2 := R0.tab.at_ 2 (v := .int .i64 k) rfl
  have c3 := R0.tab.at_ 3 (v := .complex .f64 (fl a0) (fl b0)) rfl
  have f2 := R0.tab.frozen 2
  have f3 := R0.tab.frozen 3
  rw [← hn] at k1 k2 k3 k4 k5
  obtain ⟨j, hj⟩ : ∃ j, j = (i + 1) % n := ⟨_, rfl⟩
  have he : ((i : Int) + 1).tmod (n : Int) = (j : Int) := by
    rw [Int.tmod_eq_emod_of_nonneg (by omega), hj, Int.natCast_emod]
    rfl
  have e1 : IntKind.i64.wrap ((i : Int) + 1) = (i : Int) + 1 := w64 (by omega) (by omega)
  have HN := Aside0.mk hn
  have HJ := Aside0.mk hj
  have I0 := Aside0.mk R0
  have F0 := Aside0.mk (Fr.refl (fun k => k = g ∨ k = c) w)
  have n0 : ¬ n = 0 := by omega
  have hji : j < n := by rw [hj]; exact Nat.mod_lt _ (by omega)
  obtain ⟨old, ho⟩ : ∃ old, old = l.getD i false := ⟨_, rfl⟩
  rw [← ho] at r0
  by_cases hk : k = n
  · subst hk
    have nd := k5 rfl
    have hob : oldB ⟨l, i, k, a0, b0⟩ = old := by rw [ho]; rfl
    rw [hob] at nd
    have CS := Aside0.mk (csub a0 b0 old hg hb nd)
    have EQ0 : ∀ a b, a = (if old = true then a0 - 1 else a0) → b = (if old = true then b0 else b0 - 1) → (Wn.mk (l.set i ok) j k (if ok = true then a + 1 else a) (if ok = true then b else b + 1)) = noteW ⟨l, i, k, a0, b0⟩ ok := by
      intro a b ea eb
      have q : k = l.length := hn
      unfold noteW good1 bad1
      simp only [hob]
      rw [if_pos q, if_pos q, if_pos q, ← ea, ← eb, ← hn, ← hj]
    obtain ⟨a, ea⟩ : ∃ a, a = (if old = true then a0 - 1 else a0) := ⟨_, rfl⟩
    obtain ⟨b, eb⟩ : ∃ b, b = (if old = true then b0 else b0 - 1) := ⟨_, rfl⟩
    have EQ := Aside0.mk (EQ0 a b ea eb)
    have ha2 : a ≤ 200 := by rw [ea]; split <;> omega
    have hb2 : b ≤ 200 := by rw [eb]; split <;> omega
    have CA0 := cadd a b ok ha2 hb2
    obtain ⟨a2, ea2⟩ : ∃ a2, a2 = (if ok = true then a + 1 else a) := ⟨_, rfl⟩
    obtain ⟨b2, eb2⟩ : ∃ b2, b2 = (if ok = true then b else b + 1) := ⟨_, rfl⟩
    rw [← ea2, ← eb2] at EQ CA0
    have CA := Aside0.mk CA0
    rw [← ea, ← eb] at CS
    have RW := fun (w' : World) (h : Raw w' g c (l.set i ok) k j k (fl a2) (fl b2)) => h.win (by rw [List.length_set]; exact HN.out)
    have RW := Aside0.mk RW
    clear K k5 nd hob EQ0 ea eb ea2 eb2 CA0 hi R0 hn hj ho k1
    go_enter Try.func8, Try.ntmps8
    go_wp2
    refine region_still (by kernel_rfl) (by kernel_rfl) ?_
    intro w1 hb1 hc1 hf1 hh1
    replace c0 := (hc1 _).trans c0
    replace c1 := (hc1 _).trans c1
    replace c2 := (hc1 _).trans c2
    replace c3 := (hc1 _).trans c3
    replace r0 := (hc1 _).trans r0
    replace f0 := (hf1 _).trans f0
    replace f3 := (hf1 _).trans f3
    have I1 := Aside0.mk (I0.out.heap hh1)
    have F1 := Aside0.mk (F0.out.comp (Fr.of_below hb1))
    clear hb1 hc1 hf1 hh1
    repeat still_step
    refine wpStill_nil ?_
    go_wp2_with fail
    refine region_tail 18 (by kernel_rfl) (by kernel_rfl) ?_
    intro w2 hb2 hc2 hf2 hh2
    replace c0 := (hc2 _).trans c0
    replace c1 := (hc2 _).trans c1
    replace c3 := (hc2 _).trans c3
    replace r0 := (hc2 _).trans r0
    replace f3 := (hf2 _).trans f3
    have I2 := Aside0.mk (I1.out.heap hh2)
    have F2 := Aside0.mk (F1.out.comp (Fr.of_below hb2))
    clear hb2 hc2 hf2 hh2
    have cs := run_complex_sum (P := Try.prog) w2 .sub (.inr rfl) 27 .f64 _ _ _ _ _ _ CS.out
    replace f0 := True.intro
    simp only [List.take_succ_cons, List.take_zero, List.drop_succ_cons, List.drop_zero]
    repeat still_step
    still_call (one_s _ _)
    repeat still_step
    refine wpStill_nil ?_
    go_wp2_with fail
    have I3' := I2.out.put3 (fl a) (fl b)
    have F3' := fr_g (i := 3) F2.out (.complex .f64 (fl a) (fl b))
    clear cs f0
    generalize w2.setCell ⟨g, 3, none⟩ (.complex .f64 (fl a) (fl b)) = w3 at I3' F3' ⊢
    clear c0 c1 c2 c3 r0 f2 f3
    have c0 := I3'.tab.at_ 0 (v := .slice (some ⟨c, 0, none⟩) k k) rfl
    have c1 := I3'.tab.at_ 1 (v := .int .i64 i) rfl
    obtain ⟨r0, f0⟩ := I3'.at_ i (by rw [← HN.out]; exact k4)
    have I3 := Aside0.mk I3'
    have F3 := Aside0.mk F3'
    clear I3' F3'
    refine region_tail 10 (by kernel_rfl) (by kernel_rfl) ?_
    intro w4 hb4 hc4 hf4 hh4
    replace c0 := (hc4 _).trans c0
    replace c1 := (hc4 _).trans c1
    replace r0 := (hc4 _).trans r0
    replace f0 := (hf4 _).trans f0
    have I4 := Aside0.mk (I3.out.heap hh4)
    have F4 := Aside0.mk (F3.out.comp (Fr.of_below hb4))
    clear hb4 hc4 hf4 hh4
    simp only [List.take_succ_cons, List.take_zero, List.drop_succ_cons, List.drop_zero]
    repeat still_step
    refine wpStill_nil ?_
    go_wp2_with fail
    have I5' := I4.out.putR i ok
    have F5' := fr_c (i := i) F4.out (.bool ok)
    generalize w4.setCell ⟨c, i, none⟩ (.bool ok) = w5 at I5' F5' ⊢
    clear c0 c1 r0 f0
    have c0 := I5'.tab.at_ 0 (v := .slice (some ⟨c, 0, none⟩) k k) rfl
    have c1 := I5'.tab.at_ 1 (v := .int .i64 i) rfl
    have c3 := I5'.tab.at_ 3 (v := .complex .f64 (fl a) (fl b)) rfl
    have f1 := I5'.tab.frozen 1
    have f3 := I5'.tab.frozen 3
    have I5 := Aside0.mk I5'
    have F5 := Aside0.mk F5'
    clear I5' F5'
    refine region_tail 9 (by kernel_rfl) (by kernel_rfl) ?_
    intro w6 hb6 hc6 hf6 hh6
    replace c0 := (hc6 _).trans c0
    replace c1 := (hc6 _).trans c1
    replace c3 := (hc6 _).trans c3
    replace f1 := (hf6 _).trans f1
    replace f3 := (hf6 _).trans f3
    have I6 := Aside0.mk (I5.out.heap hh6)
    have F6 := Aside0.mk (F5.out.comp (Fr.of_below hb6))
    clear hb6 hc6 hf6 hh6
    have ca := run_complex_sum (P := Try.prog) w6 .add (.inl rfl) 27 .f64 _ _ _ _ _ _ CA.out
    simp only [List.take_succ_cons, List.take_zero, List.drop_succ_cons, List.drop_zero]
    repeat still_step
    still_call (one_s _ _)
    repeat still_step
    refine wpStill_nil ?_
    go_wp2_with fail
    have I7' := I6.out.put3 (fl a2) (fl b2)
    have F7' := fr_g (i := 3) F6.out (.complex .f64 (fl a2) (fl b2))
    clear ca
    generalize w6.setCell ⟨g, 3, none⟩ (.complex .f64 (fl a2) (fl b2)) = w7 at I7' F7' ⊢
    clear c0 c1 c3 f1 f3
    have c0 := I7'.tab.at_ 0 (v := .slice (some ⟨c, 0, none⟩) k k) rfl
    have c1 := I7'.tab.at_ 1 (v := .int .i64 i) rfl
    have f1 := I7'.tab.frozen 1
    have I7 := Aside0.mk I7'
    have F7 := Aside0.mk F7'
    clear I7' F7'
    refine region_tail 14 (by kernel_rfl) (by kernel_rfl) ?_
    intro w8 hb8 hc8 hf8 hh8
    replace c0 := (hc8 _).trans c0
    replace c1 := (hc8 _).trans c1
    replace f1 := (hf8 _).trans f1
    have I8 := Aside0.mk (I7.out.heap hh8)
    have F8 := Aside0.mk (F7.out.comp (Fr.of_below hb8))
    clear hb8 hc8 hf8 hh8
    simp only [List.take_succ_cons, List.take_zero, List.drop_succ_cons, List.drop_zero]
    repeat still_step
    refine wpStill_nil ?_
    go_wp2_with fail
    first | go_ret | go_ret2 | ((try simp only [Exit.inBlock, Exit.then]); refine bodyPost_ret (results_tmp3 rfl _ _ _) rfl ?_) | go_end0 | refine bodyPost_ret0 rfl rfl ?_
    exact ⟨rfl, EQ.out ▸ RW.out _ (I8.out.put1 j), fr_g F8.out _⟩
  · have bk : ((k : Int) == (n : Int)) = false := by simp; omega
    have e2 : IntKind.i64.wrap ((k : Int) + 1) = (k : Int) + 1 := w64 (by omega) (by omega)
    have EQ : Aside0 ((Wn.mk (l.set i ok) j (k + 1) (if ok = true then a0 + 1 else a0) (if ok = true then b0 else b0 + 1)) = noteW ⟨l, i, k, a0, b0⟩ ok) := ⟨by
      have q : ¬ k = l.length := by rw [← hn]; exact hk
      unfold noteW good1 bad1
      simp only
      rw [if_neg q, if_neg q, if_neg q, ← hn, ← hj]⟩
    have CA0 := cadd a0 b0 ok hg hb
    obtain ⟨a2, ea2⟩ : ∃ a2, a2 = (if ok = true then a0 + 1 else a0) := ⟨_, rfl⟩
    obtain ⟨b2, eb2⟩ : ∃ b2, b2 = (if ok = true then b0 else b0 + 1) := ⟨_, rfl⟩
    rw [← ea2, ← eb2] at EQ CA0
    have CA := Aside0.mk CA0
    have RW := fun (w' : World) (h : Raw w' g c (l.set i ok) n j (k + 1) (fl a2) (fl b2)) => h.win (by rw [List.length_set]; exact HN.out)
    have RW := Aside0.mk RW
    clear K k5 hi R0 hn hj ho hk ea2 eb2 CA0
    go_enter Try.func8, Try.ntmps8
    go_wp2
    refine region_still (by kernel_rfl) (by kernel_rfl) ?_
    intro w1 hb1 hc1 hf1 hh1
    replace c0 := (hc1 _).trans c0
    replace c2 := (hc1 _).trans c2
    replace f2 := (hf1 _).trans f2
    have I1 := Aside0.mk (I0.out.heap hh1)
    have F1 := Aside0.mk (F0.out.comp (Fr.of_below hb1))
    clear hb1 hc1 hf1 hh1
    repeat still_step
    refine wpStill_nil ?_
    go_wp2_with fail
    have I3' : Raw (w1.setCell ⟨g, 2, none⟩ (.int .i64 ((k : Int) + 1))) g c l n i (k + 1) (fl a0) (fl b0) := I1.out.put2 (k + 1)
    have F3' := fr_g (i := 2) F1.out (.int .i64 ((k : Int) + 1))
    generalize w1.setCell ⟨g, 2, none⟩ (.int .i64 ((k : Int) + 1)) = w3 at I3' F3' ⊢
    clear c0 c1 c2 c3 r0 f0 f2 f3
    have c0 := I3'.tab.at_ 0 (v := .slice (some ⟨c, 0, none⟩) n n) rfl
    have c1 := I3'.tab.at_ 1 (v := .int .i64 i) rfl
    obtain ⟨r0, f0⟩ := I3'.at_ i (by rw [← HN.out]; exact k4)
    have I3 := Aside0.mk I3'
    have F3 := Aside0.mk F3'
    clear I3' F3'
    refine region_tail 10 (by kernel_rfl) (by kernel_rfl) ?_
    intro w4 hb4 hc4 hf4 hh4
    replace c0 := (hc4 _).trans c0
    replace c1 := (hc4 _).trans c1
    replace r0 := (hc4 _).trans r0
    replace f0 := (hf4 _).trans f0
    have I4 := Aside0.mk (I3.out.heap hh4)
    have F4 := Aside0.mk (F3.out.comp (Fr.of_below hb4))
    clear hb4 hc4 hf4 hh4
    simp only [List.take_succ_cons, List.take_zero, List.drop_succ_cons, List.drop_zero]
    repeat still_step
    refine wpStill_nil ?_
    go_wp2_with fail
    have I5' := I4.out.putR i ok
    have F5' := fr_c (i := i) F4.out (.bool ok)
    generalize w4.setCell ⟨c, i, none⟩ (.bool ok) = w5 at I5' F5' ⊢
    clear c0 c1 r0 f0
    have c0 := I5'.tab.at_ 0 (v := .slice (some ⟨c, 0, none⟩) n n) rfl
    have c1 := I5'.tab.at_ 1 (v := .int .i64 i) rfl
    have c3 := I5'.tab.at_ 3 (v := .complex .f64 (fl a0) (fl b0)) rfl
    have f1 := I5'.tab.frozen 1
    have f3 := I5'.tab.frozen 3
    have I5 := Aside0.mk I5'
    have F5 := Aside0.mk F5'
    clear I5' F5'
    refine region_tail 9 (by kernel_rfl) (by kernel_rfl) ?_
    intro w6 hb6 hc6 hf6 hh6
    replace c0 := (hc6 _).trans c0
    replace c1 := (hc6 _).trans c1
    replace c3 := (hc6 _).trans c3
    replace f1 := (hf6 _).trans f1
    replace f3 := (hf6 _).trans f3
    have I6 := Aside0.mk (I5.out.heap hh6)
    have F6 := Aside0.mk (F5.out.comp (Fr.of_below hb6))
    clear hb6 hc6 hf6 hh6
    have ca := run_complex_sum (P := Try.prog) w6 .add (.inl rfl) 27 .f64 _ _ _ _ _ _ CA.out
    simp only [List.take_succ_cons, List.take_zero, List.drop_succ_cons, List.drop_zero]
    repeat still_step
    still_call (one_s _ _)
    repeat still_step
    refine wpStill_nil ?_
    go_wp2_with fail
    have I7' := I6.out.put3 (fl a2) (fl b2)
    have F7' := fr_g (i := 3) F6.out (.complex .f64 (fl a2) (fl b2))
    clear ca
    generalize w6.setCell ⟨g, 3, none⟩ (.complex .f64 (fl a2) (fl b2)) = w7 at I7' F7' ⊢
    clear c0 c1 c3 f1 f3
    have c0 := I7'.tab.at_ 0 (v := .slice (some ⟨c, 0, none⟩) n n) rfl
    have c1 := I7'.tab.at_ 1 (v := .int .i64 i) rfl
    have f1 := I7'.tab.frozen 1
    have I7 := Aside0.mk I7'
    have F7 := Aside0.mk F7'
    clear I7' F7'
    refine region_tail 14 (by kernel_rfl) (by kernel_rfl) ?_
    intro w8 hb8 hc8 hf8 hh8
    replace c0 := (hc8 _).trans c0
    replace c1 := (hc8 _).trans c1
    replace f1 := (hf8 _).trans f1
    have I8 := Aside0.mk (I7.out.heap hh8)
    have F8 := Aside0.mk (F7.out.comp (Fr.of_below hb8))
    clear hb8 hc8 hf8 hh8
    simp only [List.take_succ_cons, List.take_zero, List.drop_succ_cons, List.drop_zero]
    repeat still_step
    refine wpStill_nil ?_
    go_wp2_with fail
    first | go_ret | go_ret2 | ((try simp only [Exit.inBlock, Exit.then]); refine bodyPost_ret (results_tmp3 rfl _ _ _) rfl ?_) | go_end0 | refine bodyPost_ret0 rfl rfl ?_
    exact ⟨rfl, EQ.out ▸ RW.out _ (I8.out.put1 j), fr_g F8.out _⟩

end Go.Proofs.Ytoaoebkllcmanaa.TaA
