/- Contracts of a monitor. -/
import Derived.Test.YtjmkddadbblblaaTaR
import Derived.Test.YtjmkddadbblblaaMoP
namespace Go.Proofs.Ytjmkddadbblblaa.MoA
open Go.Proofs.Ytjmkddadbblblaa.MoP (Mo Ok)
open Go.RowKit Go.Proofs.YtjmkddadbblblaaW.PrintWords Go.Proofs.YtjmkddadbblblaaW.PrintLast Go.Proofs.YtjmkddadbblblaaW.PrintMore Go.Proofs.Ytjmkddadbblblaa.K Go.Proofs.Ytjmkddadbblblaa.TaP Go.Proofs.Ytjmkddadbblblaa.TaA Go.Proofs.Ytjmkddadbblblaa.TaB Go.Proofs.Ytjmkddadbblblaa.TaR
set_option linter.unusedVariables false
set_option linter.unusedSimpArgs false
attribute [local go_sem] max2_int min2_int max_two min_two
attribute [local go_sem] run_store_complex

theorem cutE : MoP.cutQ = cutQ := rfl
set_option maxHeartbeats 8000000 in
set_option maxRecDepth 100000 in
theorem cutm_ok (n l h : Int) (hlh : l < h) (w : World) : Calls Try.prog 20 #[.int .i64 n, .int .i64 l, .int .i64 h] w fun e w' => e = .returned (.int .i64 (MoP.cutQ n l h)) ∧ w' = w := by
  have key : (n < l ∧ n < h ∧ ¬ n > h ∧ cutQ n l h = l) ∨ (¬ n < l ∧ n > h ∧ ¬ n ≤ l ∧ cutQ n l h = h) ∨ (¬ n < l ∧ ¬ n > h ∧ cutQ n l h = n) := by
    unfold cutQ
    (repeat' split) <;> omega
  rw [cutE]
  rcases key with ⟨h1, h3, h2, e⟩ | ⟨h1, h2, h3, e⟩ | ⟨h1, h2, e⟩
  all_goals
    rw [e]
    clear e
    go_enter Try.func20, Try.ntmps20
    go_wp2
    all_goals (go_ret; exact ⟨by first | rfl | exact ret_eq (by omega), rfl⟩)
theorem cutr_s (n l h : Int) (hlh : l < h) (w : World) : Calls Try.prog 27 #[.int .i64 n, .int .i64 l, .int .i64 h] w fun e w' => e = .returned (.int .i64 (MoP.cutQ n l h)) ∧ w' = w := (cutr_ok n l h hlh w).mono fun _ _ h => ⟨h.1, h.2.symm⟩
theorem count_le (h : List Bool) (n : Nat) (hl : h.length ≤ n) : h.count true ≤ n ∧ h.count false ≤ n := by
  have := count_both h
  omega
structure IsM (w : World) (p g c : Nat) (M : Mo) : Prop where
  tab : Ob w p 46 (M.cells (.pointer (some ⟨g, 0, none⟩)))
  win : ∃ W, IsW w g c W ∧ Keeps W M.h ∧ W.l.length = 16
section
variable {w w' : World} {p g c : Nat} {M : Mo} {S : Nat → Prop}
theorem IsM.ne (i : IsM w p g c M) : p ≠ g ∧ p ≠ c ∧ g ≠ c := by
  obtain ⟨W, h, _⟩ := i.win
  exact ⟨fun e => blk_ne i.tab h.tab (by decide) e, fun e => blk_ne i.tab h.row (by decide) e, h.ne⟩
theorem IsM.lt (i : IsM w p g c M) : p < w.heap.size ∧ g < w.heap.size ∧ c < w.heap.size := by
  obtain ⟨W, h, _⟩ := i.win
  exact ⟨i.tab.lt, h.lt⟩
theorem IsM.fr (i : IsM w p g c M) (hf : Fr S w w') (h1 : ¬ S p) (h2 : ¬ S g) (h3 : ¬ S c) : IsM w' p g c M := by
  obtain ⟨W, h, k⟩ := i.win
  exact ⟨i.tab.fr hf h1, W, h.fr hf h2 h3, k⟩
theorem IsM.below (i : IsM w p g c M) (hb : Below w.heap.size w w') : IsM w' p g c M := by
  obtain ⟨W, h, k⟩ := i.win
  exact ⟨i.tab.below hb, W, h.below hb, k⟩
theorem IsM.heap (i : IsM w p g c M) (he : w'.heap = w.heap) (hb : Below w.heap.size w w') : IsM w' p g c M := i.below hb
theorem IsM.put (i : IsM w p g c M) (j : Nat) (u : Value) (M' : Mo) (h1 : M'.cells (.pointer (some ⟨g, 0, none⟩)) = (M.cells (.pointer (some ⟨g, 0, none⟩))).set j u) (h2 : M'.h = M.h) : IsM (w.setCell ⟨p, j, none⟩ u) p g c M' := by
  obtain ⟨W, h, k⟩ := i.win
  have n := i.ne
  exact ⟨by rw [h1]; exact i.tab.set j u, W, h.fr (Fr.put (Fr.refl (fun x => x = p) w) j u) (fun e => n.1 e.symm) (fun e => n.2.1 e.symm), by rw [h2]; exact k⟩
theorem fr3 {i : Nat} (h : Fr (fun k => k = p ∨ k = g ∨ k = c) w w') (u : Value) : Fr (fun k => k = p ∨ k = g ∨ k = c) w (w'.setCell ⟨p, i, none⟩ u) := h.set (p := ⟨p, i, none⟩) (Or.inl rfl) u
end

theorem win_note (w : World) (p g c : Nat) (M : Mo) (ok : Bool) (k : Ok M) (i : IsM w p g c M) : Calls Try.prog 22 #[.pointer (some ⟨g, 0, none⟩), .bool ok] w fun e w' => e = .returned (.tuple #[]) ∧ IsM w' p g c { M with h := keep 16 M.h ok } ∧ Fr (fun k => k = p ∨ k = g ∨ k = c) w w' := by
  obtain ⟨W, h, kk, hl⟩ := i.win
  have hc := count_le M.h 16 k.h1
  have n := i.ne
  refine (note_ok g c W ok M.h kk (by rw [kk.good]; omega) (by rw [kk.bad]; omega) w h).mono fun e w' q => ⟨q.1, ⟨?_, noteW W ok, q.2.1, ?_, ?_⟩, q.2.2.mono (fun x hx => Or.inr hx)⟩
  · exact i.tab.fr q.2.2 (fun e => e.elim n.1 n.2.1)
  · have := kk.note ok
    rw [hl] at this
    exact this
  · simp [noteW, hl]
theorem win_clear (w : World) (p g c : Nat) (M : Mo) (i : IsM w p g c M) : Calls Try.prog 25 #[.pointer (some ⟨g, 0, none⟩)] w fun e w' => e = .returned (.tuple #[]) ∧ IsM w' p g c { M with h := [] } ∧ Fr (fun k => k = p ∨ k = g ∨ k = c) w w' := by
  obtain ⟨W, h, kk, hl⟩ := i.win
  have n := i.ne
  refine (clear_ok g c W w h).mono fun e w' q => ⟨q.1, ⟨?_, clearW W, q.2.1, kk.clear, hl⟩, q.2.2.mono (fun x hx => Or.inr hx)⟩
  exact i.tab.fr q.2.2 (fun e => e.elim n.1 n.2.1)
theorem win_sum (w : World) (p g c : Nat) (M : Mo) (i : IsM w p g c M) : Calls Try.prog 24 #[.pointer (some ⟨g, 0, none⟩)] w fun e w' => e = .returned (.complex .f64 (fl (M.h.count true)) (fl (M.h.count false))) ∧ w' = w := by
  obtain ⟨W, h, kk, hl⟩ := i.win
  exact (sum_ok g c W w h).mono fun e w' q => ⟨by rw [q.1, kk.good, kk.bad], q.2.symm⟩
theorem parts_s (a b : Nat) (ha : a ≤ 201) (hb : b ≤ 201) (w : World) : Calls Try.prog 23 #[.complex .f64 (fl a) (fl b)] w fun e w' => e = .returned (.tuple #[.int .i64 a, .int .i64 b, .bool true]) ∧ w' = w := (parts_ok a b ha hb w).mono fun _ _ h => ⟨h.1, h.2.symm⟩
theorem bad_l {a b s : Int} (h : a = b) : Ending.returned (Value.int .i64 a) = Ending.returned (Value.int .i64 b) := by rw [h]

set_option maxHeartbeats 8000000 in
set_option maxRecDepth 100000 in
theorem state_ok (p g c : Nat) (M : Mo) (w : World) (i : IsM w p g c M) : Calls Try.prog 11 #[.pointer (some ⟨p, 0, none⟩)] w fun e w' => e = .returned (.int .i64 M.state) ∧ w = w' := by
  have c6 := i.tab.at_ 6 (v := .int .i64 M.state) rfl
  clear i
  go_enter Try.func11, Try.ntmps11
  go_wp2
  go_ret
  exact ⟨rfl, rfl⟩

set_option maxHeartbeats 8000000 in
set_option maxRecDepth 100000 in
theorem summ_ok (p g c : Nat) (M : Mo) (w : World) (i : IsM w p g c M) : Calls Try.prog 12 #[.pointer (some ⟨p, 0, none⟩)] w fun e w' => e = .returned (.complex .f64 (fl (M.h.count true)) (fl (M.h.count false))) ∧ w = w' := by
  have c3 := i.tab.at_ 3 (v := .pointer (some ⟨g, 0, none⟩)) rfl
  have I := Aside0.mk i
  clear i
  go_enter Try.func12, Try.ntmps12
  go_wp2_with (first | (go_at_call 24; (with_reducible refine (win_sum w p g c M I.out).mono ?_); rintro e wK ⟨rfl, rfl⟩))
  go_ret
  exact ⟨rfl, rfl⟩
theorem size16 : sizeW 16 = 16 := by decide
set_option maxHeartbeats 8000000 in
set_option maxRecDepth 100000 in
theorem newm_ok (bad good silent : Int) (w : World) : Calls Try.prog 9 #[.int .i64 bad, .int .i64 good, .int .i64 silent] w fun e w' => ∃ p g c, e = .returned (.pointer (some ⟨p, 0, none⟩)) ∧ w.heap.size ≤ p ∧ w.heap.size ≤ g ∧ w.heap.size ≤ c ∧ IsM w' p g c (MoP.newM bad good silent) ∧ Below w.heap.size w w' := by
  go_enter Try.func9, Try.ntmps9
  go_wp2_with (first | (go_at_call 20; (with_reducible refine (cutm_ok _ _ _ (by decide) _).mono ?_); rintro e wK ⟨rfl, rfl⟩) | (go_at_call 21; (with_reducible refine (new_ok 16 _).mono ?_); rintro e wK ⟨g, c, rfl, hg, hc, hw, hb⟩; have HG := Aside0.mk hg; have HC := Aside0.mk hc; have HW := Aside0.mk hw; have HB := Aside0.mk hb; clear hg hc hw hb))
  go_ret
  have hw := HW.out
  rw [size16] at hw
  exact ⟨_, g, c, rfl, HB.out.size, HG.out, HC.out, ⟨Ob.new _ 46 _, newW 16, hw.below (below_alloc (Below.refl _ _) _), Keeps.start 16 (by omega) (by omega), by simp [newW]⟩, below_alloc HB.out _⟩

theorem half_t (b : Int) (h0 : 1 ≤ b) : (b + 1).tdiv 2 = (b + 1) / 2 := Int.tdiv_eq_ediv_of_nonneg (by omega)
set_option maxHeartbeats 8000000 in
set_option maxRecDepth 100000 in
theorem notem_ok (p g c : Nat) (M : Mo) (ok : Bool) (k : Ok M) (w : World) (i : IsM w p g c M) :
    Calls Try.prog 10 #[.pointer (some ⟨p, 0, none⟩), .bool ok] w fun e w' => e = .returned (.int .i64 (MoP.noteM M ok).state) ∧ IsM w' p g c (MoP.noteM M ok) ∧ Fr (fun k => k = p ∨ k = g ∨ k = c) w w' := by
  have k1 := k.b0
  have k2 := k.b1
  have k3 := k.g0
  have k4 := k.g1
  have k7 := k.d0
  have k8 := k.d1
  have c3 := i.tab.at_ 3 (v := .pointer (some ⟨g, 0, none⟩)) rfl
  have I0 := Aside0.mk i
  have HK := Aside0.mk k
  obtain ⟨h2, hh2⟩ : ∃ h2, h2 = keep 16 M.h ok := ⟨_, rfl⟩
  have hlen := (keep_le 16 M.h ok (by omega) k.h1).1
  rw [← hh2] at hlen
  have hcl := count_le h2 16 hlen
  obtain ⟨z, hz⟩ : ∃ z, z = h2.count false := ⟨_, rfl⟩
  obtain ⟨s, hs⟩ : ∃ s, s = MoP.sideM M ok := ⟨_, rfl⟩
  obtain ⟨half, hf⟩ : ∃ x, x = (M.bad + 1) / 2 := ⟨_, rfl⟩
  have et : (M.bad + 1).tdiv 2 = half := by rw [half_t _ k1, hf]
  have ew : IntKind.i64.wrap (M.bad + 1) = M.bad + 1 := w64 (by omega) (by omega)
  have eh : IntKind.i64.wrap half = half := w64 (by omega) (by omega)
  have es : IntKind.i64.wrap (M.side + 1) = M.side + 1 := w64 (by omega) (by omega)
  have EN : Aside0 (MoP.noteM M ok = MoP.endM M h2 s) := ⟨by rw [hh2, hs]; rfl⟩
  have HL := Aside0.mk (show h2.length ≤ 1000 by omega)
  have HL1 := Aside0.mk (show h2.count true ≤ 201 by omega)
  have HL2 := Aside0.mk (show h2.count false ≤ 201 by omega)
  have HZ := Aside0.mk hz
  have HH := Aside0.mk hh2
  have key : (M.state ≠ 0 ∧ M.good ≤ s ∧ MoP.endM M h2 s = (Mo.mk M.bad M.good M.silent s 0 0 [])) ∨ (¬ (M.state ≠ 0 ∧ M.good ≤ s) ∧ M.bad ≤ z ∧ MoP.endM M h2 s = (Mo.mk M.bad M.good M.silent s 0 2 h2)) ∨ (¬ (M.state ≠ 0 ∧ M.good ≤ s) ∧ ¬ M.bad ≤ z ∧ half ≤ z ∧ M.state = 0 ∧ MoP.endM M h2 s = (Mo.mk M.bad M.good M.silent s 0 1 h2)) ∨ (¬ (M.state ≠ 0 ∧ M.good ≤ s) ∧ ¬ M.bad ≤ z ∧ ¬ (half ≤ z ∧ M.state = 0) ∧ MoP.endM M h2 s = (Mo.mk M.bad M.good M.silent s 0 M.state h2)) := by
    unfold MoP.endM
    rw [← hz, ← hf]
    by_cases h1 : M.state ≠ 0 ∧ M.good ≤ s
    · exact .inl ⟨h1.1, h1.2, if_pos h1⟩
    · rw [if_neg h1]
      by_cases h2 : M.bad ≤ z
      · exact .inr (.inl ⟨h1, h2, if_pos h2⟩)
      · rw [if_neg h2]
        by_cases h3 : half ≤ z ∧ M.state = 0
        · exact .inr (.inr (.inl ⟨h1, h2, h3.1, h3.2, if_pos h3⟩))
        · exact .inr (.inr (.inr ⟨h1, h2, h3, if_neg h3⟩))
  have b0 : M.state = 0 → (M.state == 0) = true ∧ (M.state != 0) = false := fun h => by simp [h]
  have b1 : M.state ≠ 0 → (M.state == 0) = false ∧ (M.state != 0) = true := fun h => by simp [bne, h]
  clear i k hz hh2 hlen hcl hf
  -- the walk
  have e0 : ok = false → s = 0 := fun h => by rw [hs, h]; rfl
  have e1 : ok = true → s = if M.side < 16 then M.side + 1 else 16 := fun h => by rw [hs, h]; rfl
  clear hs
  cases ok
  · obtain rfl : s = 0 := e0 rfl
    by_cases hs : M.side < 16
    · have hs2 : M.side + 1 ≤ 16 := by omega
      rcases key with ⟨h1, h3, e⟩ | ⟨h1, h3, e⟩ | ⟨h1, h3, h4, h5, e⟩ | ⟨h1, h3, h4, e⟩
      · exact absurd h3 (by omega)
      · by_cases h0 : M.state = 0
        · obtain ⟨x1, x2⟩ := b0 h0
          clear h0 h1
          have EE := Aside0.mk (EN.out.trans e)
          clear EN e b0 b1 e0 e1
          go_enter Try.func10, Try.ntmps10
          go_wp2_with (first
                | (go_at_call 22; (with_reducible refine (win_note w p g c M false HK.out I0.out).mono ?_); rintro e w1 ⟨rfl, i1, f1⟩; have I1 := Aside0.mk i1; have F1 := Aside0.mk f1; have c0 := i1.tab.at_ 0 (v := .int .i64 M.bad) rfl; have c1 := i1.tab.at_ 1 (v := .int .i64 M.good) rfl; have c2 := i1.tab.at_ 2 (v := .int .i64 M.silent) rfl; have c3 := i1.tab.at_ 3 (v := .pointer (some ⟨g, 0, none⟩)) rfl; have c4 := i1.tab.at_ 4 (v := .int .i64 M.side) rfl; have f4 := i1.tab.frozen 4; have c5 := i1.tab.at_ 5 (v := .int .i64 M.quiet) rfl; have f5 := i1.tab.frozen 5; have c6 := i1.tab.at_ 6 (v := .int .i64 M.state) rfl; have f6 := i1.tab.frozen 6; clear i1 f1))
          have i2 := (IsM.put (IsM.put (IsM.put I1.out 5 (.int .i64 0) (Mo.mk M.bad M.good M.silent M.side 0 M.state (keep 16 M.h false)) rfl rfl) 4 (.int .i64 (M.side + 1)) (Mo.mk M.bad M.good M.silent (M.side + 1) 0 M.state (keep 16 M.h false)) rfl rfl) 4 (.int .i64 0) (Mo.mk M.bad M.good M.silent 0 0 M.state (keep 16 M.h false)) rfl rfl)
          have f2 := (fr3 (i := 4) (fr3 (i := 4) (fr3 (i := 5) F1.out (.int .i64 0)) (.int .i64 (M.side + 1))) (.int .i64 0))
          rw [← HH.out] at i2
          clear c0 c1 c2 c3 c4 c5 c6 f4 f5 f6 I1 F1
          generalize ((w1.setCell ⟨p, 5, none⟩ (.int .i64 0)).setCell ⟨p, 4, none⟩ (.int .i64 (M.side + 1))).setCell ⟨p, 4, none⟩ (.int .i64 0) = w2 at i2 f2 ⊢
          have I2 := Aside0.mk i2
          have F2 := Aside0.mk f2
          have c0 := i2.tab.at_ 0 (v := .int .i64 M.bad) rfl
          have c1 := i2.tab.at_ 1 (v := .int .i64 M.good) rfl
          have c3 := i2.tab.at_ 3 (v := .pointer (some ⟨g, 0, none⟩)) rfl
          have c4 := i2.tab.at_ 4 (v := .int .i64 0) rfl
          have f4 := i2.tab.frozen 4
          have c6 := i2.tab.at_ 6 (v := .int .i64 M.state) rfl
          have f6 := i2.tab.frozen 6
          clear i2 f2
          (with_reducible refine (win_sum _ p g c _ I2.out).mono ?_)
          rintro e wK ⟨rfl, rfl⟩
          go_wp2_with (first | (go_at_call 23; (with_reducible refine (parts_s _ _ HL1.out HL2.out _).mono ?_); rintro e wK ⟨rfl, rfl⟩; rw [← HZ.out]))
          go_region
          have I3 := Aside0.mk (I2.out.below (below_drew (Below.refl _ _)))
          have F3 := Aside0.mk (F2.out.comp (Fr.of_below (below_drew (Below.refl _ _))))
          clear I2 F2
          go_wp2_with fail
          first | go_ret | go_ret2 | ((try simp only [Exit.inBlock, Exit.then]); refine bodyPost_ret (results_tmp3 rfl _ _ _) rfl ?_) | go_end0 | refine bodyPost_ret0 rfl rfl ?_
          exact ⟨by rw [EE.out]; rfl, by rw [EE.out]; exact (IsM.put I3.out 6 (.int .i64 2) (Mo.mk M.bad M.good M.silent 0 0 2 h2) rfl rfl), fr3 (i := 6) F3.out _⟩
        · obtain ⟨x1, x2⟩ := b1 h0
          have x3 : ¬ M.good ≤ 0 := fun h => h1 ⟨h0, h⟩
          clear h0 h1
          have EE := Aside0.mk (EN.out.trans e)
          clear EN e b0 b1 e0 e1
          go_enter Try.func10, Try.ntmps10
          go_wp2_with (first
                | (go_at_call 22; (with_reducible refine (win_note w p g c M false HK.out I0.out).mono ?_); rintro e w1 ⟨rfl, i1, f1⟩; have I1 := Aside0.mk i1; have F1 := Aside0.mk f1; have c0 := i1.tab.at_ 0 (v := .int .i64 M.bad) rfl; have c1 := i1.tab.at_ 1 (v := .int .i64 M.good) rfl; have c2 := i1.tab.at_ 2 (v := .int .i64 M.silent) rfl; have c3 := i1.tab.at_ 3 (v := .pointer (some ⟨g, 0, none⟩)) rfl; have c4 := i1.tab.at_ 4 (v := .int .i64 M.side) rfl; have f4 := i1.tab.frozen 4; have c5 := i1.tab.at_ 5 (v := .int .i64 M.quiet) rfl; have f5 := i1.tab.frozen 5; have c6 := i1.tab.at_ 6 (v := .int .i64 M.state) rfl; have f6 := i1.tab.frozen 6; clear i1 f1))
          have i2 := (IsM.put (IsM.put (IsM.put I1.out 5 (.int .i64 0) (Mo.mk M.bad M.good M.silent M.side 0 M.state (keep 16 M.h false)) rfl rfl) 4 (.int .i64 (M.side + 1)) (Mo.mk M.bad M.good M.silent (M.side + 1) 0 M.state (keep 16 M.h false)) rfl rfl) 4 (.int .i64 0) (Mo.mk M.bad M.good M.silent 0 0 M.state (keep 16 M.h false)) rfl rfl)
          have f2 := (fr3 (i := 4) (fr3 (i := 4) (fr3 (i := 5) F1.out (.int .i64 0)) (.int .i64 (M.side + 1))) (.int .i64 0))
          rw [← HH.out] at i2
          clear c0 c1 c2 c3 c4 c5 c6 f4 f5 f6 I1 F1
          generalize ((w1.setCell ⟨p, 5, none⟩ (.int .i64 0)).setCell ⟨p, 4, none⟩ (.int .i64 (M.side + 1))).setCell ⟨p, 4, none⟩ (.int .i64 0) = w2 at i2 f2 ⊢
          have I2 := Aside0.mk i2
          have F2 := Aside0.mk f2
          have c0 := i2.tab.at_ 0 (v := .int .i64 M.bad) rfl
          have c1 := i2.tab.at_ 1 (v := .int .i64 M.good) rfl
          have c3 := i2.tab.at_ 3 (v := .pointer (some ⟨g, 0, none⟩)) rfl
          have c4 := i2.tab.at_ 4 (v := .int .i64 0) rfl
          have f4 := i2.tab.frozen 4
          have c6 := i2.tab.at_ 6 (v := .int .i64 M.state) rfl
          have f6 := i2.tab.frozen 6
          clear i2 f2
          (with_reducible refine (win_sum _ p g c _ I2.out).mono ?_)
          rintro e wK ⟨rfl, rfl⟩
          go_wp2_with (first | (go_at_call 23; (with_reducible refine (parts_s _ _ HL1.out HL2.out _).mono ?_); rintro e wK ⟨rfl, rfl⟩; rw [← HZ.out]))
          go_region
          have I3 := Aside0.mk (I2.out.below (below_drew (Below.refl _ _)))
          have F3 := Aside0.mk (F2.out.comp (Fr.of_below (below_drew (Below.refl _ _))))
          clear I2 F2
          go_wp2_with fail
          first | go_ret | go_ret2 | ((try simp only [Exit.inBlock, Exit.then]); refine bodyPost_ret (results_tmp3 rfl _ _ _) rfl ?_) | go_end0 | refine bodyPost_ret0 rfl rfl ?_
          exact ⟨by rw [EE.out]; rfl, by rw [EE.out]; exact (IsM.put I3.out 6 (.int .i64 2) (Mo.mk M.bad M.good M.silent 0 0 2 h2) rfl rfl), fr3 (i := 6) F3.out _⟩
      · obtain ⟨x1, x2⟩ := b0 h5
        clear h5 h1
        have EE := Aside0.mk (EN.out.trans e)
        clear EN e b0 b1 e0 e1
        go_enter Try.func10, Try.ntmps10
        go_wp2_with (first
              | (go_at_call 22; (with_reducible refine (win_note w p g c M false HK.out I0.out).mono ?_); rintro e w1 ⟨rfl, i1, f1⟩; have I1 := Aside0.mk i1; have F1 := Aside0.mk f1; have c0 := i1.tab.at_ 0 (v := .int .i64 M.bad) rfl; have c1 := i1.tab.at_ 1 (v := .int .i64 M.good) rfl; have c2 := i1.tab.at_ 2 (v := .int .i64 M.silent) rfl; have c3 := i1.tab.at_ 3 (v := .pointer (some ⟨g, 0, none⟩)) rfl; have c4 := i1.tab.at_ 4 (v := .int .i64 M.side) rfl; have f4 := i1.tab.frozen 4; have c5 := i1.tab.at_ 5 (v := .int .i64 M.quiet) rfl; have f5 := i1.tab.frozen 5; have c6 := i1.tab.at_ 6 (v := .int .i64 M.state) rfl; have f6 := i1.tab.frozen 6; clear i1 f1))
        have i2 := (IsM.put (IsM.put (IsM.put I1.out 5 (.int .i64 0) (Mo.mk M.bad M.good M.silent M.side 0 M.state (keep 16 M.h false)) rfl rfl) 4 (.int .i64 (M.side + 1)) (Mo.mk M.bad M.good M.silent (M.side + 1) 0 M.state (keep 16 M.h false)) rfl rfl) 4 (.int .i64 0) (Mo.mk M.bad M.good M.silent 0 0 M.state (keep 16 M.h false)) rfl rfl)
        have f2 := (fr3 (i := 4) (fr3 (i := 4) (fr3 (i := 5) F1.out (.int .i64 0)) (.int .i64 (M.side + 1))) (.int .i64 0))
        rw [← HH.out] at i2
        clear c0 c1 c2 c3 c4 c5 c6 f4 f5 f6 I1 F1
        generalize ((w1.setCell ⟨p, 5, none⟩ (.int .i64 0)).setCell ⟨p, 4, none⟩ (.int .i64 (M.side + 1))).setCell ⟨p, 4, none⟩ (.int .i64 0) = w2 at i2 f2 ⊢
        have I2 := Aside0.mk i2
        have F2 := Aside0.mk f2
        have c0 := i2.tab.at_ 0 (v := .int .i64 M.bad) rfl
        have c1 := i2.tab.at_ 1 (v := .int .i64 M.good) rfl
        have c3 := i2.tab.at_ 3 (v := .pointer (some ⟨g, 0, none⟩)) rfl
        have c4 := i2.tab.at_ 4 (v := .int .i64 0) rfl
        have f4 := i2.tab.frozen 4
        have c6 := i2.tab.at_ 6 (v := .int .i64 M.state) rfl
        have f6 := i2.tab.frozen 6
        clear i2 f2
        (with_reducible refine (win_sum _ p g c _ I2.out).mono ?_)
        rintro e wK ⟨rfl, rfl⟩
        go_wp2_with (first | (go_at_call 23; (with_reducible refine (parts_s _ _ HL1.out HL2.out _).mono ?_); rintro e wK ⟨rfl, rfl⟩; rw [← HZ.out]))
        go_region
        have I3 := Aside0.mk (I2.out.below (below_drew (Below.refl _ _)))
        have F3 := Aside0.mk (F2.out.comp (Fr.of_below (below_drew (Below.refl _ _))))
        clear I2 F2
        go_wp2_with fail
        first | go_ret | go_ret2 | ((try simp only [Exit.inBlock, Exit.then]); refine bodyPost_ret (results_tmp3 rfl _ _ _) rfl ?_) | go_end0 | refine bodyPost_ret0 rfl rfl ?_
        exact ⟨by rw [EE.out]; rfl, by rw [EE.out]; exact (IsM.put I3.out 6 (.int .i64 1) (Mo.mk M.bad M.good M.silent 0 0 1 h2) rfl rfl), fr3 (i := 6) F3.out _⟩
      · by_cases h0 : M.state = 0
        · obtain ⟨x1, x2⟩ := b0 h0
          have x4 : ¬ half ≤ z := fun h => h4 ⟨h, h0⟩
          clear h0 h1 h4
          have EE := Aside0.mk (EN.out.trans e)
          clear EN e b0 b1 e0 e1
          go_enter Try.func10, Try.ntmps10
          go_wp2_with (first
                | (go_at_call 22; (with_reducible refine (win_note w p g c M false HK.out I0.out).mono ?_); rintro e w1 ⟨rfl, i1, f1⟩; have I1 := Aside0.mk i1; have F1 := Aside0.mk f1; have c0 := i1.tab.at_ 0 (v := .int .i64 M.bad) rfl; have c1 := i1.tab.at_ 1 (v := .int .i64 M.good) rfl; have c2 := i1.tab.at_ 2 (v := .int .i64 M.silent) rfl; have c3 := i1.tab.at_ 3 (v := .pointer (some ⟨g, 0, none⟩)) rfl; have c4 := i1.tab.at_ 4 (v := .int .i64 M.side) rfl; have f4 := i1.tab.frozen 4; have c5 := i1.tab.at_ 5 (v := .int .i64 M.quiet) rfl; have f5 := i1.tab.frozen 5; have c6 := i1.tab.at_ 6 (v := .int .i64 M.state) rfl; have f6 := i1.tab.frozen 6; clear i1 f1))
          have i2 := (IsM.put (IsM.put (IsM.put I1.out 5 (.int .i64 0) (Mo.mk M.bad M.good M.silent M.side 0 M.state (keep 16 M.h false)) rfl rfl) 4 (.int .i64 (M.side + 1)) (Mo.mk M.bad M.good M.silent (M.side + 1) 0 M.state (keep 16 M.h false)) rfl rfl) 4 (.int .i64 0) (Mo.mk M.bad M.good M.silent 0 0 M.state (keep 16 M.h false)) rfl rfl)
          have f2 := (fr3 (i := 4) (fr3 (i := 4) (fr3 (i := 5) F1.out (.int .i64 0)) (.int .i64 (M.side + 1))) (.int .i64 0))
          rw [← HH.out] at i2
          clear c0 c1 c2 c3 c4 c5 c6 f4 f5 f6 I1 F1
          generalize ((w1.setCell ⟨p, 5, none⟩ (.int .i64 0)).setCell ⟨p, 4, none⟩ (.int .i64 (M.side + 1))).setCell ⟨p, 4, none⟩ (.int .i64 0) = w2 at i2 f2 ⊢
          have I2 := Aside0.mk i2
          have F2 := Aside0.mk f2
          have c0 := i2.tab.at_ 0 (v := .int .i64 M.bad) rfl
          have c1 := i2.tab.at_ 1 (v := .int .i64 M.good) rfl
          have c3 := i2.tab.at_ 3 (v := .pointer (some ⟨g, 0, none⟩)) rfl
          have c4 := i2.tab.at_ 4 (v := .int .i64 0) rfl
          have f4 := i2.tab.frozen 4
          have c6 := i2.tab.at_ 6 (v := .int .i64 M.state) rfl
          have f6 := i2.tab.frozen 6
          clear i2 f2
          (with_reducible refine (win_sum _ p g c _ I2.out).mono ?_)
          rintro e wK ⟨rfl, rfl⟩
          go_wp2_with (first | (go_at_call 23; (with_reducible refine (parts_s _ _ HL1.out HL2.out _).mono ?_); rintro e wK ⟨rfl, rfl⟩; rw [← HZ.out]))
          go_region
          have I3 := Aside0.mk (I2.out.below (below_drew (Below.refl _ _)))
          have F3 := Aside0.mk (F2.out.comp (Fr.of_below (below_drew (Below.refl _ _))))
          clear I2 F2
          go_wp2_with fail
          first | go_ret | go_ret2 | ((try simp only [Exit.inBlock, Exit.then]); refine bodyPost_ret (results_tmp3 rfl _ _ _) rfl ?_) | go_end0 | refine bodyPost_ret0 rfl rfl ?_
          exact ⟨by rw [EE.out]; rfl, by rw [EE.out]; exact I3.out, F3.out⟩
        · by_cases h5 : half ≤ z
          · obtain ⟨x1, x2⟩ := b1 h0
            have x3 : ¬ M.good ≤ 0 := fun h => h1 ⟨h0, h⟩
            clear h0 h1 h4
            have EE := Aside0.mk (EN.out.trans e)
            clear EN e b0 b1 e0 e1
            go_enter Try.func10, Try.ntmps10
            go_wp2_with (first
                  | (go_at_call 22; (with_reducible refine (win_note w p g c M false HK.out I0.out).mono ?_); rintro e w1 ⟨rfl, i1, f1⟩; have I1 := Aside0.mk i1; have F1 := Aside0.mk f1; have c0 := i1.tab.at_ 0 (v := .int .i64 M.bad) rfl; have c1 := i1.tab.at_ 1 (v := .int .i64 M.good) rfl; have c2 := i1.tab.at_ 2 (v := .int .i64 M.silent) rfl; have c3 := i1.tab.at_ 3 (v := .pointer (some ⟨g, 0, none⟩)) rfl; have c4 := i1.tab.at_ 4 (v := .int .i64 M.side) rfl; have f4 := i1.tab.frozen 4; have c5 := i1.tab.at_ 5 (v := .int .i64 M.quiet) rfl; have f5 := i1.tab.frozen 5; have c6 := i1.tab.at_ 6 (v := .int .i64 M.state) rfl; have f6 := i1.tab.frozen 6; clear i1 f1))
            have i2 := (IsM.put (IsM.put (IsM.put I1.out 5 (.int .i64 0) (Mo.mk M.bad M.good M.silent M.side 0 M.state (keep 16 M.h false)) rfl rfl) 4 (.int .i64 (M.side + 1)) (Mo.mk M.bad M.good M.silent (M.side + 1) 0 M.state (keep 16 M.h false)) rfl rfl) 4 (.int .i64 0) (Mo.mk M.bad M.good M.silent 0 0 M.state (keep 16 M.h false)) rfl rfl)
            have f2 := (fr3 (i := 4) (fr3 (i := 4) (fr3 (i := 5) F1.out (.int .i64 0)) (.int .i64 (M.side + 1))) (.int .i64 0))
            rw [← HH.out] at i2
            clear c0 c1 c2 c3 c4 c5 c6 f4 f5 f6 I1 F1
            generalize ((w1.setCell ⟨p, 5, none⟩ (.int .i64 0)).setCell ⟨p, 4, none⟩ (.int .i64 (M.side + 1))).setCell ⟨p, 4, none⟩ (.int .i64 0) = w2 at i2 f2 ⊢
            have I2 := Aside0.mk i2
            have F2 := Aside0.mk f2
            have c0 := i2.tab.at_ 0 (v := .int .i64 M.bad) rfl
            have c1 := i2.tab.at_ 1 (v := .int .i64 M.good) rfl
            have c3 := i2.tab.at_ 3 (v := .pointer (some ⟨g, 0, none⟩)) rfl
            have c4 := i2.tab.at_ 4 (v := .int .i64 0) rfl
            have f4 := i2.tab.frozen 4
            have c6 := i2.tab.at_ 6 (v := .int .i64 M.state) rfl
            have f6 := i2.tab.frozen 6
            clear i2 f2
            (with_reducible refine (win_sum _ p g c _ I2.out).mono ?_)
            rintro e wK ⟨rfl, rfl⟩
            go_wp2_with (first | (go_at_call 23; (with_reducible refine (parts_s _ _ HL1.out HL2.out _).mono ?_); rintro e wK ⟨rfl, rfl⟩; rw [← HZ.out]))
            go_region
            have I3 := Aside0.mk (I2.out.below (below_drew (Below.refl _ _)))
            have F3 := Aside0.mk (F2.out.comp (Fr.of_below (below_drew (Below.refl _ _))))
            clear I2 F2
            go_wp2_with fail
            first | go_ret | go_ret2 | ((try simp only [Exit.inBlock, Exit.then]); refine bodyPost_ret (results_tmp3 rfl _ _ _) rfl ?_) | go_end0 | refine bodyPost_ret0 rfl rfl ?_
            exact ⟨by rw [EE.out]; rfl, by rw [EE.out]; exact I3.out, F3.out⟩
          · obtain ⟨x1, x2⟩ := b1 h0
            have x3 : ¬ M.good ≤ 0 := fun h => h1 ⟨h0, h⟩
            clear h0 h1 h4
            have EE := Aside0.mk (EN.out.trans e)
            clear EN e b0 b1 e0 e1
            go_enter Try.func10, Try.ntmps10
            go_wp2_with (first
                  | (go_at_call 22; (with_reducible refine (win_note w p g c M false HK.out I0.out).mono ?_); rintro e w1 ⟨rfl, i1, f1⟩; have I1 := Aside0.mk i1; have F1 := Aside0.mk f1; have c0 := i1.tab.at_ 0 (v := .int .i64 M.bad) rfl; have c1 := i1.tab.at_ 1 (v := .int .i64 M.good) rfl; have c2 := i1.tab.at_ 2 (v := .int .i64 M.silent) rfl; have c3 := i1.tab.at_ 3 (v := .pointer (some ⟨g, 0, none⟩)) rfl; have c4 := i1.tab.at_ 4 (v := .int .i64 M.side) rfl; have f4 := i1.tab.frozen 4; have c5 := i1.tab.at_ 5 (v := .int .i64 M.quiet) rfl; have f5 := i1.tab.frozen 5; have c6 := i1.tab.at_ 6 (v := .int .i64 M.state) rfl; have f6 := i1.tab.frozen 6; clear i1 f1))
            have i2 := (IsM.put (IsM.put (IsM.put I1.out 5 (.int .i64 0) (Mo.mk M.bad M.good M.silent M.side 0 M.state (keep 16 M.h false)) rfl rfl) 4 (.int .i64 (M.side + 1)) (Mo.mk M.bad M.good M.silent (M.side + 1) 0 M.state (keep 16 M.h false)) rfl rfl) 4 (.int .i64 0) (Mo.mk M.bad M.good M.silent 0 0 M.state (keep 16 M.h false)) rfl rfl)
            have f2 := (fr3 (i := 4) (fr3 (i := 4) (fr3 (i := 5) F1.out (.int .i64 0)) (.int .i64 (M.side + 1))) (.int .i64 0))
            rw [← HH.out] at i2
            clear c0 c1 c2 c3 c4 c5 c6 f4 f5 f6 I1 F1
            generalize ((w1.setCell ⟨p, 5, none⟩ (.int .i64 0)).setCell ⟨p, 4, none⟩ (.int .i64 (M.side + 1))).setCell ⟨p, 4, none⟩ (.int .i64 0) = w2 at i2 f2 ⊢
            have I2 := Aside0.mk i2
            have F2 := Aside0.mk f2
            have c0 := i2.tab.at_ 0 (v := .int .i64 M.bad) rfl
            have c1 := i2.tab.at_ 1 (v := .int .i64 M.good) rfl
            have c3 := i2.tab.at_ 3 (v := .pointer (some ⟨g, 0, none⟩)) rfl
            have c4 := i2.tab.at_ 4 (v := .int .i64 0) rfl
            have f4 := i2.tab.frozen 4
            have c6 := i2.tab.at_ 6 (v := .int .i64 M.state) rfl
            have f6 := i2.tab.frozen 6
            clear i2 f2
            (with_reducible refine (win_sum _ p g c _ I2.out).mono ?_)
            rintro e wK ⟨rfl, rfl⟩
            go_wp2_with (first | (go_at_call 23; (with_reducible refine (parts_s _ _ HL1.out HL2.out _).mono ?_); rintro e wK ⟨rfl, rfl⟩; rw [← HZ.out]))
            go_region
            have I3 := Aside0.mk (I2.out.below (below_drew (Below.refl _ _)))
            have F3 := Aside0.mk (F2.out.comp (Fr.of_below (below_drew (Below.refl _ _))))
            clear I2 F2
            go_wp2_with fail
            first | go_ret | go_ret2 | ((try simp only [Exit.inBlock, Exit.then]); refine bodyPost_ret (results_tmp3 rfl _ _ _) rfl ?_) | go_end0 | refine bodyPost_ret0 rfl rfl ?_
            exact ⟨by rw [EE.out]; rfl, by rw [EE.out]; exact I3.out, F3.out⟩
    · have hs2 : 16 ≤ M.side + 1 := by omega
      have hs3 : 16 < M.side + 1 := by omega
      rcases key with ⟨h1, h3, e⟩ | ⟨h1, h3, e⟩ | ⟨h1, h3, h4, h5, e⟩ | ⟨h1, h3, h4, e⟩
      · exact absurd h3 (by omega)
      · by_cases h0 : M.state = 0
        · obtain ⟨x1, x2⟩ := b0 h0
          clear h0 h1
          have EE := Aside0.mk (EN.out.trans e)
          clear EN e b0 b1 e0 e1
          go_enter Try.func10, Try.ntmps10
          go_wp2_with (first
                | (go_at_call 22; (with_reducible refine (win_note w p g c M false HK.out I0.out).mono ?_); rintro e w1 ⟨rfl, i1, f1⟩; have I1 := Aside0.mk i1; have F1 := Aside0.mk f1; have c0 := i1.tab.at_ 0 (v := .int .i64 M.bad) rfl; have c1 := i1.tab.at_ 1 (v := .int .i64 M.good) rfl; have c2 := i1.tab.at_ 2 (v := .int .i64 M.silent) rfl; have c3 := i1.tab.at_ 3 (v := .pointer (some ⟨g, 0, none⟩)) rfl; have c4 := i1.tab.at_ 4 (v := .int .i64 M.side) rfl; have f4 := i1.tab.frozen 4; have c5 := i1.tab.at_ 5 (v := .int .i64 M.quiet) rfl; have f5 := i1.tab.frozen 5; have c6 := i1.tab.at_ 6 (v := .int .i64 M.state) rfl; have f6 := i1.tab.frozen 6; clear i1 f1))
          have i2 := (IsM.put (IsM.put (IsM.put I1.out 5 (.int .i64 0) (Mo.mk M.bad M.good M.silent M.side 0 M.state (keep 16 M.h false)) rfl rfl) 4 (.int .i64 16) (Mo.mk M.bad M.good M.silent 16 0 M.state (keep 16 M.h false)) rfl rfl) 4 (.int .i64 0) (Mo.mk M.bad M.good M.silent 0 0 M.state (keep 16 M.h false)) rfl rfl)
          have f2 := (fr3 (i := 4) (fr3 (i := 4) (fr3 (i := 5) F1.out (.int .i64 0)) (.int .i64 16)) (.int .i64 0))
          rw [← HH.out] at i2
          clear c0 c1 c2 c3 c4 c5 c6 f4 f5 f6 I1 F1
          generalize ((w1.setCell ⟨p, 5, none⟩ (.int .i64 0)).setCell ⟨p, 4, none⟩ (.int .i64 16)).setCell ⟨p, 4, none⟩ (.int .i64 0) = w2 at i2 f2 ⊢
          have I2 := Aside0.mk i2
          have F2 := Aside0.mk f2
          have c0 := i2.tab.at_ 0 (v := .int .i64 M.bad) rfl
          have c1 := i2.tab.at_ 1 (v := .int .i64 M.good) rfl
          have c3 := i2.tab.at_ 3 (v := .pointer (some ⟨g, 0, none⟩)) rfl
          have c4 := i2.tab.at_ 4 (v := .int .i64 0) rfl
          have f4 := i2.tab.frozen 4
          have c6 := i2.tab.at_ 6 (v := .int .i64 M.state) rfl
          have f6 := i2.tab.frozen 6
          clear i2 f2
          (with_reducible refine (win_sum _ p g c _ I2.out).mono ?_)
          rintro e wK ⟨rfl, rfl⟩
          go_wp2_with (first | (go_at_call 23; (with_reducible refine (parts_s _ _ HL1.out HL2.out _).mono ?_); rintro e wK ⟨rfl, rfl⟩; rw [← HZ.out]))
          go_region
          have I3 := Aside0.mk (I2.out.below (below_drew (Below.refl _ _)))
          have F3 := Aside0.mk (F2.out.comp (Fr.of_below (below_drew (Below.refl _ _))))
          clear I2 F2
          go_wp2_with fail
          first | go_ret | go_ret2 | ((try simp only [Exit.inBlock, Exit.then]); refine bodyPost_ret (results_tmp3 rfl _ _ _) rfl ?_) | go_end0 | refine bodyPost_ret0 rfl rfl ?_
          exact ⟨by rw [EE.out]; rfl, by rw [EE.out]; exact (IsM.put I3.out 6 (.int .i64 2) (Mo.mk M.bad M.good M.silent 0 0 2 h2) rfl rfl), fr3 (i := 6) F3.out _⟩
        · obtain ⟨x1, x2⟩ := b1 h0
          have x3 : ¬ M.good ≤ 0 := fun h => h1 ⟨h0, h⟩
          clear h0 h1
          have EE := Aside0.mk (EN.out.trans e)
          clear EN e b0 b1 e0 e1
          go_enter Try.func10, Try.ntmps10
          go_wp2_with (first
                | (go_at_call 22; (with_reducible refine (win_note w p g c M false HK.out I0.out).mono ?_); rintro e w1 ⟨rfl, i1, f1⟩; have I1 := Aside0.mk i1; have F1 := Aside0.mk f1; have c0 := i1.tab.at_ 0 (v := .int .i64 M.bad) rfl; have c1 := i1.tab.at_ 1 (v := .int .i64 M.good) rfl; have c2 := i1.tab.at_ 2 (v := .int .i64 M.silent) rfl; have c3 := i1.tab.at_ 3 (v := .pointer (some ⟨g, 0, none⟩)) rfl; have c4 := i1.tab.at_ 4 (v := .int .i64 M.side) rfl; have f4 := i1.tab.frozen 4; have c5 := i1.tab.at_ 5 (v := .int .i64 M.quiet) rfl; have f5 := i1.tab.frozen 5; have c6 := i1.tab.at_ 6 (v := .int .i64 M.state) rfl; have f6 := i1.tab.frozen 6; clear i1 f1))
          have i2 := (IsM.put (IsM.put (IsM.put I1.out 5 (.int .i64 0) (Mo.mk M.bad M.good M.silent M.side 0 M.state (keep 16 M.h false)) rfl rfl) 4 (.int .i64 16) (Mo.mk M.bad M.good M.silent 16 0 M.state (keep 16 M.h false)) rfl rfl) 4 (.int .i64 0) (Mo.mk M.bad M.good M.silent 0 0 M.state (keep 16 M.h false)) rfl rfl)
          have f2 := (fr3 (i := 4) (fr3 (i := 4) (fr3 (i := 5) F1.out (.int .i64 0)) (.int .i64 16)) (.int .i64 0))
          rw [← HH.out] at i2
          clear c0 c1 c2 c3 c4 c5 c6 f4 f5 f6 I1 F1
          generalize ((w1.setCell ⟨p, 5, none⟩ (.int .i64 0)).setCell ⟨p, 4, none⟩ (.int .i64 16)).setCell ⟨p, 4, none⟩ (.int .i64 0) = w2 at i2 f2 ⊢
          have I2 := Aside0.mk i2
          have F2 := Aside0.mk f2
          have c0 := i2.tab.at_ 0 (v := .int .i64 M.bad) rfl
          have c1 := i2.tab.at_ 1 (v := .int .i64 M.good) rfl
          have c3 := i2.tab.at_ 3 (v := .pointer (some ⟨g, 0, none⟩)) rfl
          have c4 := i2.tab.at_ 4 (v := .int .i64 0) rfl
          have f4 := i2.tab.frozen 4
          have c6 := i2.tab.at_ 6 (v := .int .i64 M.state) rfl
          have f6 := i2.tab.frozen 6
          clear i2 f2
          (with_reducible refine (win_sum _ p g c _ I2.out).mono ?_)
          rintro e wK ⟨rfl, rfl⟩
          go_wp2_with (first | (go_at_call 23; (with_reducible refine (parts_s _ _ HL1.out HL2.out _).mono ?_); rintro e wK ⟨rfl, rfl⟩; rw [← HZ.out]))
          go_region
          have I3 := Aside0.mk (I2.out.below (below_drew (Below.refl _ _)))
          have F3 := Aside0.mk (F2.out.comp (Fr.of_below (below_drew (Below.refl _ _))))
          clear I2 F2
          go_wp2_with fail
          first | go_ret | go_ret2 | ((try simp only [Exit.inBlock, Exit.then]); refine bodyPost_ret (results_tmp3 rfl _ _ _) rfl ?_) | go_end0 | refine bodyPost_ret0 rfl rfl ?_
          exact ⟨by rw [EE.out]; rfl, by rw [EE.out]; exact (IsM.put I3.out 6 (.int .i64 2) (Mo.mk M.bad M.good M.silent 0 0 2 h2) rfl rfl), fr3 (i := 6) F3.out _⟩
      · obtain ⟨x1, x2⟩ := b0 h5
        clear h5 h1
        have EE := Aside0.mk (EN.out.trans e)
        clear EN e b0 b1 e0 e1
        go_enter Try.func10, Try.ntmps10
        go_wp2_with (first
              | (go_at_call 22; (with_reducible refine (win_note w p g c M false HK.out I0.out).mono ?_); rintro e w1 ⟨rfl, i1, f1⟩; have I1 := Aside0.mk i1; have F1 := Aside0.mk f1; have c0 := i1.tab.at_ 0 (v := .int .i64 M.bad) rfl; have c1 := i1.tab.at_ 1 (v := .int .i64 M.good) rfl; have c2 := i1.tab.at_ 2 (v := .int .i64 M.silent) rfl; have c3 := i1.tab.at_ 3 (v := .pointer (some ⟨g, 0, none⟩)) rfl; have c4 := i1.tab.at_ 4 (v := .int .i64 M.side) rfl; have f4 := i1.tab.frozen 4; have c5 := i1.tab.at_ 5 (v := .int .i64 M.quiet) rfl; have f5 := i1.tab.frozen 5; have c6 := i1.tab.at_ 6 (v := .int .i64 M.state) rfl; have f6 := i1.tab.frozen 6; clear i1 f1))
        have i2 := (IsM.put (IsM.put (IsM.put I1.out 5 (.int .i64 0) (Mo.mk M.bad M.good M.silent M.side 0 M.state (keep 16 M.h false)) rfl rfl) 4 (.int .i64 16) (Mo.mk M.bad M.good M.silent 16 0 M.state (keep 16 M.h false)) rfl rfl) 4 (.int .i64 0) (Mo.mk M.bad M.good M.silent 0 0 M.state (keep 16 M.h false)) rfl rfl)
        have f2 := (fr3 (i := 4) (fr3 (i := 4) (fr3 (i := 5) F1.out (.int .i64 0)) (.int .i64 16)) (.int .i64 0))
        rw [← HH.out] at i2
        clear c0 c1 c2 c3 c4 c5 c6 f4 f5 f6 I1 F1
        generalize ((w1.setCell ⟨p, 5, none⟩ (.int .i64 0)).setCell ⟨p, 4, none⟩ (.int .i64 16)).setCell ⟨p, 4, none⟩ (.int .i64 0) = w2 at i2 f2 ⊢
        have I2 := Aside0.mk i2
        have F2 := Aside0.mk f2
        have c0 := i2.tab.at_ 0 (v := .int .i64 M.bad) rfl
        have c1 := i2.tab.at_ 1 (v := .int .i64 M.good) rfl
        have c3 := i2.tab.at_ 3 (v := .pointer (some ⟨g, 0, none⟩)) rfl
        have c4 := i2.tab.at_ 4 (v := .int .i64 0) rfl
        have f4 := i2.tab.frozen 4
        have c6 := i2.tab.at_ 6 (v := .int .i64 M.state) rfl
        have f6 := i2.tab.frozen 6
        clear i2 f2
        (with_reducible refine (win_sum _ p g c _ I2.out).mono ?_)
        rintro e wK ⟨rfl, rfl⟩
        go_wp2_with (first | (go_at_call 23; (with_reducible refine (parts_s _ _ HL1.out HL2.out _).mono ?_); rintro e wK ⟨rfl, rfl⟩; rw [← HZ.out]))
        go_region
        have I3 := Aside0.mk (I2.out.below (below_drew (Below.refl _ _)))
        have F3 := Aside0.mk (F2.out.comp (Fr.of_below (below_drew (Below.refl _ _))))
        clear I2 F2
        go_wp2_with fail
        first | go_ret | go_ret2 | ((try simp only [Exit.inBlock, Exit.then]); refine bodyPost_ret (results_tmp3 rfl _ _ _) rfl ?_) | go_end0 | refine bodyPost_ret0 rfl rfl ?_
        exact ⟨by rw [EE.out]; rfl, by rw [EE.out]; exact (IsM.put I3.out 6 (.int .i64 1) (Mo.mk M.bad M.good M.silent 0 0 1 h2) rfl rfl), fr3 (i := 6) F3.out _⟩
      · by_cases h0 : M.state = 0
        · obtain ⟨x1, x2⟩ := b0 h0
          have x4 : ¬ half ≤ z := fun h => h4 ⟨h, h0⟩
          clear h0 h1 h4
          have EE := Aside0.mk (EN.out.trans e)
          clear EN e b0 b1 e0 e1
          go_enter Try.func10, Try.ntmps10
          go_wp2_with (first
                | (go_at_call 22; (with_reducible refine (win_note w p g c M false HK.out I0.out).mono ?_); rintro e w1 ⟨rfl, i1, f1⟩; have I1 := Aside0.mk i1; have F1 := Aside0.mk f1; have c0 := i1.tab.at_ 0 (v := .int .i64 M.bad) rfl; have c1 := i1.tab.at_ 1 (v := .int .i64 M.good) rfl; have c2 := i1.tab.at_ 2 (v := .int .i64 M.silent) rfl; have c3 := i1.tab.at_ 3 (v := .pointer (some ⟨g, 0, none⟩)) rfl; have c4 := i1.tab.at_ 4 (v := .int .i64 M.side) rfl; have f4 := i1.tab.frozen 4; have c5 := i1.tab.at_ 5 (v := .int .i64 M.quiet) rfl; have f5 := i1.tab.frozen 5; have c6 := i1.tab.at_ 6 (v := .int .i64 M.state) rfl; have f6 := i1.tab.frozen 6; clear i1 f1))
          have i2 := (IsM.put (IsM.put (IsM.put I1.out 5 (.int .i64 0) (Mo.mk M.bad M.good M.silent M.side 0 M.state (keep 16 M.h false)) rfl rfl) 4 (.int .i64 16) (Mo.mk M.bad M.good M.silent 16 0 M.state (keep 16 M.h false)) rfl rfl) 4 (.int .i64 0) (Mo.mk M.bad M.good M.silent 0 0 M.state (keep 16 M.h false)) rfl rfl)
          have f2 := (fr3 (i := 4) (fr3 (i := 4) (fr3 (i := 5) F1.out (.int .i64 0)) (.int .i64 16)) (.int .i64 0))
          rw [← HH.out] at i2
          clear c0 c1 c2 c3 c4 c5 c6 f4 f5 f6 I1 F1
          generalize ((w1.setCell ⟨p, 5, none⟩ (.int .i64 0)).setCell ⟨p, 4, none⟩ (.int .i64 16)).setCell ⟨p, 4, none⟩ (.int .i64 0) = w2 at i2 f2 ⊢
          have I2 := Aside0.mk i2
          have F2 := Aside0.mk f2
          have c0 := i2.tab.at_ 0 (v := .int .i64 M.bad) rfl
          have c1 := i2.tab.at_ 1 (v := .int .i64 M.good) rfl
          have c3 := i2.tab.at_ 3 (v := .pointer (some ⟨g, 0, none⟩)) rfl
          have c4 := i2.tab.at_ 4 (v := .int .i64 0) rfl
          have f4 := i2.tab.frozen 4
          have c6 := i2.tab.at_ 6 (v := .int .i64 M.state) rfl
          have f6 := i2.tab.frozen 6
          clear i2 f2
          (with_reducible refine (win_sum _ p g c _ I2.out).mono ?_)
          rintro e wK ⟨rfl, rfl⟩
          go_wp2_with (first | (go_at_call 23; (with_reducible refine (parts_s _ _ HL1.out HL2.out _).mono ?_); rintro e wK ⟨rfl, rfl⟩; rw [← HZ.out]))
          go_region
          have I3 := Aside0.mk (I2.out.below (below_drew (Below.refl _ _)))
          have F3 := Aside0.mk (F2.out.comp (Fr.of_below (below_drew (Below.refl _ _))))
          clear I2 F2
          go_wp2_with fail
          first | go_ret | go_ret2 | ((try simp only [Exit.inBlock, Exit.then]); refine bodyPost_ret (results_tmp3 rfl _ _ _) rfl ?_) | go_end0 | refine bodyPost_ret0 rfl rfl ?_
          exact ⟨by rw [EE.out]; rfl, by rw [EE.out]; exact I3.out, F3.out⟩
        · by_cases h5 : half ≤ z
          · obtain ⟨x1, x2⟩ := b1 h0
            have x3 : ¬ M.good ≤ 0 := fun h => h1 ⟨h0, h⟩
            clear h0 h1 h4
            have EE := Aside0.mk (EN.out.trans e)
            clear EN e b0 b1 e0 e1
            go_enter Try.func10, Try.ntmps10
            go_wp2_with (first
                  | (go_at_call 22; (with_reducible refine (win_note w p g c M false HK.out I0.out).mono ?_); rintro e w1 ⟨rfl, i1, f1⟩; have I1 := Aside0.mk i1; have F1 := Aside0.mk f1; have c0 := i1.tab.at_ 0 (v := .int .i64 M.bad) rfl; have c1 := i1.tab.at_ 1 (v := .int .i64 M.good) rfl; have c2 := i1.tab.at_ 2 (v := .int .i64 M.silent) rfl; have c3 := i1.tab.at_ 3 (v := .pointer (some ⟨g, 0, none⟩)) rfl; have c4 := i1.tab.at_ 4 (v := .int .i64 M.side) rfl; have f4 := i1.tab.frozen 4; have c5 := i1.tab.at_ 5 (v := .int .i64 M.quiet) rfl; have f5 := i1.tab.frozen 5; have c6 := i1.tab.at_ 6 (v := .int .i64 M.state) rfl; have f6 := i1.tab.frozen 6; clear i1 f1))
            have i2 := (IsM.put (IsM.put (IsM.put I1.out 5 (.int .i64 0) (Mo.mk M.bad M.good M.silent M.side 0 M.state (keep 16 M.h false)) rfl rfl) 4 (.int .i64 16) (Mo.mk M.bad M.good M.silent 16 0 M.state (keep 16 M.h false)) rfl rfl) 4 (.int .i64 0) (Mo.mk M.bad M.good M.silent 0 0 M.state (keep 16 M.h false)) rfl rfl)
            have f2 := (fr3 (i := 4) (fr3 (i := 4) (fr3 (i := 5) F1.out (.int .i64 0)) (.int .i64 16)) (.int .i64 0))
            rw [← HH.out] at i2
            clear c0 c1 c2 c3 c4 c5 c6 f4 f5 f6 I1 F1
            generalize ((w1.setCell ⟨p, 5, none⟩ (.int .i64 0)).setCell ⟨p, 4, none⟩ (.int .i64 16)).setCell ⟨p, 4, none⟩ (.int .i64 0) = w2 at i2 f2 ⊢
            have I2 := Aside0.mk i2
            have F2 := Aside0.mk f2
            have c0 := i2.tab.at_ 0 (v := .int .i64 M.bad) rfl
            have c1 := i2.tab.at_ 1 (v := .int .i64 M.good) rfl
            have c3 := i2.tab.at_ 3 (v := .pointer (some ⟨g, 0, none⟩)) rfl
            have c4 := i2.tab.at_ 4 (v := .int .i64 0) rfl
            have f4 := i2.tab.frozen 4
            have c6 := i2.tab.at_ 6 (v := .int .i64 M.state) rfl
            have f6 := i2.tab.frozen 6
            clear i2 f2
            (with_reducible refine (win_sum _ p g c _ I2.out).mono ?_)
            rintro e wK ⟨rfl, rfl⟩
            go_wp2_with (first | (go_at_call 23; (with_reducible refine (parts_s _ _ HL1.out HL2.out _).mono ?_); rintro e wK ⟨rfl, rfl⟩; rw [← HZ.out]))
            go_region
            have I3 := Aside0.mk (I2.out.below (below_drew (Below.refl _ _)))
            have F3 := Aside0.mk (F2.out.comp (Fr.of_below (below_drew (Below.refl _ _))))
            clear I2 F2
            go_wp2_with fail
            first | go_ret | go_ret2 | ((try simp only [Exit.inBlock, Exit.then]); refine bodyPost_ret (results_tmp3 rfl _ _ _) rfl ?_) | go_end0 | refine bodyPost_ret0 rfl rfl ?_
            exact ⟨by rw [EE.out]; rfl, by rw [EE.out]; exact I3.out, F3.out⟩
          · obtain ⟨x1, x2⟩ := b1 h0
            have x3 : ¬ M.good ≤ 0 := fun h => h1 ⟨h0, h⟩
            clear h0 h1 h4
            have EE := Aside0.mk (EN.out.trans e)
            clear EN e b0 b1 e0 e1
            go_enter Try.func10, Try.ntmps10
            go_wp2_with (first
                  | (go_at_call 22; (with_reducible refine (win_note w p g c M false HK.out I0.out).mono ?_); rintro e w1 ⟨rfl, i1, f1⟩; have I1 := Aside0.mk i1; have F1 := Aside0.mk f1; have c0 := i1.tab.at_ 0 (v := .int .i64 M.bad) rfl; have c1 := i1.tab.at_ 1 (v := .int .i64 M.good) rfl; have c2 := i1.tab.at_ 2 (v := .int .i64 M.silent) rfl; have c3 := i1.tab.at_ 3 (v := .pointer (some ⟨g, 0, none⟩)) rfl; have c4 := i1.tab.at_ 4 (v := .int .i64 M.side) rfl; have f4 := i1.tab.frozen 4; have c5 := i1.tab.at_ 5 (v := .int .i64 M.quiet) rfl; have f5 := i1.tab.frozen 5; have c6 := i1.tab.at_ 6 (v := .int .i64 M.state) rfl; have f6 := i1.tab.frozen 6; clear i1 f1))
            have i2 := (IsM.put (IsM.put (IsM.put I1.out 5 (.int .i64 0) (Mo.mk M.bad M.good M.silent M.side 0 M.state (keep 16 M.h false)) rfl rfl) 4 (.int .i64 16) (Mo.mk M.bad M.good M.silent 16 0 M.state (keep 16 M.h false)) rfl rfl) 4 (.int .i64 0) (Mo.mk M.bad M.good M.silent 0 0 M.state (keep 16 M.h false)) rfl rfl)
            have f2 := (fr3 (i := 4) (fr3 (i := 4) (fr3 (i := 5) F1.out (.int .i64 0)) (.int .i64 16)) (.int .i64 0))
            rw [← HH.out] at i2
            clear c0 c1 c2 c3 c4 c5 c6 f4 f5 f6 I1 F1
            generalize ((w1.setCell ⟨p, 5, none⟩ (.int .i64 0)).setCell ⟨p, 4, none⟩ (.int .i64 16)).setCell ⟨p, 4, none⟩ (.int .i64 0) = w2 at i2 f2 ⊢
            have I2 := Aside0.mk i2
            have F2 := Aside0.mk f2
            have c0 := i2.tab.at_ 0 (v := .int .i64 M.bad) rfl
            have c1 := i2.tab.at_ 1 (v := .int .i64 M.good) rfl
            have c3 := i2.tab.at_ 3 (v := .pointer (some ⟨g, 0, none⟩)) rfl
            have c4 := i2.tab.at_ 4 (v := .int .i64 0) rfl
            have f4 := i2.tab.frozen 4
            have c6 := i2.tab.at_ 6 (v := .int .i64 M.state) rfl
            have f6 := i2.tab.frozen 6
            clear i2 f2
            (with_reducible refine (win_sum _ p g c _ I2.out).mono ?_)
            rintro e wK ⟨rfl, rfl⟩
            go_wp2_with (first | (go_at_call 23; (with_reducible refine (parts_s _ _ HL1.out HL2.out _).mono ?_); rintro e wK ⟨rfl, rfl⟩; rw [← HZ.out]))
            go_region
            have I3 := Aside0.mk (I2.out.below (below_drew (Below.refl _ _)))
            have F3 := Aside0.mk (F2.out.comp (Fr.of_below (below_drew (Below.refl _ _))))
            clear I2 F2
            go_wp2_with fail
            first | go_ret | go_ret2 | ((try simp only [Exit.inBlock, Exit.then]); refine bodyPost_ret (results_tmp3 rfl _ _ _) rfl ?_) | go_end0 | refine bodyPost_ret0 rfl rfl ?_
            exact ⟨by rw [EE.out]; rfl, by rw [EE.out]; exact I3.out, F3.out⟩
  · by_cases hs : M.side < 16
    · obtain rfl : s = M.side + 1 := by rw [e1 rfl, if_pos hs]
      have hs2 : M.side + 1 ≤ 16 := by omega
      rcases key with ⟨h1, h3, e⟩ | ⟨h1, h3, e⟩ | ⟨h1, h3, h4, h5, e⟩ | ⟨h1, h3, h4, e⟩
      · obtain ⟨x1, x2⟩ := b1 h1
        clear h1
        have EE := Aside0.mk (EN.out.trans e)
        clear EN e b0 b1 e0 e1
        go_enter Try.func10, Try.ntmps10
        go_wp2_with (first
              | (go_at_call 22; (with_reducible refine (win_note w p g c M true HK.out I0.out).mono ?_); rintro e w1 ⟨rfl, i1, f1⟩; have I1 := Aside0.mk i1; have F1 := Aside0.mk f1; have c0 := i1.tab.at_ 0 (v := .int .i64 M.bad) rfl; have c1 := i1.tab.at_ 1 (v := .int .i64 M.good) rfl; have c2 := i1.tab.at_ 2 (v := .int .i64 M.silent) rfl; have c3 := i1.tab.at_ 3 (v := .pointer (some ⟨g, 0, none⟩)) rfl; have c4 := i1.tab.at_ 4 (v := .int .i64 M.side) rfl; have f4 := i1.tab.frozen 4; have c5 := i1.tab.at_ 5 (v := .int .i64 M.quiet) rfl; have f5 := i1.tab.frozen 5; have c6 := i1.tab.at_ 6 (v := .int .i64 M.state) rfl; have f6 := i1.tab.frozen 6; clear i1 f1))
        have i2 := (IsM.put (IsM.put I1.out 5 (.int .i64 0) (Mo.mk M.bad M.good M.silent M.side 0 M.state (keep 16 M.h true)) rfl rfl) 4 (.int .i64 (M.side + 1)) (Mo.mk M.bad M.good M.silent (M.side + 1) 0 M.state (keep 16 M.h true)) rfl rfl)
        have f2 := (fr3 (i := 4) (fr3 (i := 5) F1.out (.int .i64 0)) (.int .i64 (M.side + 1)))
        rw [← HH.out] at i2
        clear c0 c1 c2 c3 c4 c5 c6 f4 f5 f6 I1 F1
        generalize (w1.setCell ⟨p, 5, none⟩ (.int .i64 0)).setCell ⟨p, 4, none⟩ (.int .i64 (M.side + 1)) = w2 at i2 f2 ⊢
        have I2 := Aside0.mk i2
        have F2 := Aside0.mk f2
        have c0 := i2.tab.at_ 0 (v := .int .i64 M.bad) rfl
        have c1 := i2.tab.at_ 1 (v := .int .i64 M.good) rfl
        have c3 := i2.tab.at_ 3 (v := .pointer (some ⟨g, 0, none⟩)) rfl
        have c4 := i2.tab.at_ 4 (v := .int .i64 (M.side + 1)) rfl
        have f4 := i2.tab.frozen 4
        have c6 := i2.tab.at_ 6 (v := .int .i64 M.state) rfl
        have f6 := i2.tab.frozen 6
        clear i2 f2
        (with_reducible refine (win_sum _ p g c _ I2.out).mono ?_)
        rintro e wK ⟨rfl, rfl⟩
        go_wp2_with (first | (go_at_call 23; (with_reducible refine (parts_s _ _ HL1.out HL2.out _).mono ?_); rintro e wK ⟨rfl, rfl⟩; rw [← HZ.out]))
        go_region
        have I3 := Aside0.mk (I2.out.below (below_drew (Below.refl _ _)))
        have F3 := Aside0.mk (F2.out.comp (Fr.of_below (below_drew (Below.refl _ _))))
        clear I2 F2
        go_wp2_with (first
      | (go_at_call 25; (with_reducible refine (win_clear _ p g c (Mo.mk M.bad M.good M.silent (M.side + 1) 0 M.state h2) I3.out).mono ?_); rintro e w4 ⟨rfl, i4, f4⟩; have I4 := Aside0.mk i4; have F4 := Aside0.mk (F3.out.comp f4); have c6 := i4.tab.at_ 6 (v := .int .i64 M.state) rfl; have g6 := i4.tab.frozen 6; clear i4 f4))
        first | go_ret | go_ret2 | ((try simp only [Exit.inBlock, Exit.then]); refine bodyPost_ret (results_tmp3 rfl _ _ _) rfl ?_) | go_end0 | refine bodyPost_ret0 rfl rfl ?_
        exact ⟨by rw [EE.out]; rfl, by rw [EE.out]; exact (IsM.put I4.out 6 (.int .i64 0) (Mo.mk M.bad M.good M.silent (M.side + 1) 0 0 []) rfl rfl), fr3 (i := 6) F4.out _⟩
      · by_cases h0 : M.state = 0
        · obtain ⟨x1, x2⟩ := b0 h0
          clear h0 h1
          have EE := Aside0.mk (EN.out.trans e)
          clear EN e b0 b1 e0 e1
          go_enter Try.func10, Try.ntmps10
          go_wp2_with (first
                | (go_at_call 22; (with_reducible refine (win_note w p g c M true HK.out I0.out).mono ?_); rintro e w1 ⟨rfl, i1, f1⟩; have I1 := Aside0.mk i1; have F1 := Aside0.mk f1; have c0 := i1.tab.at_ 0 (v := .int .i64 M.bad) rfl; have c1 := i1.tab.at_ 1 (v := .int .i64 M.good) rfl; have c2 := i1.tab.at_ 2 (v := .int .i64 M.silent) rfl; have c3 := i1.tab.at_ 3 (v := .pointer (some ⟨g, 0, none⟩)) rfl; have c4 := i1.tab.at_ 4 (v := .int .i64 M.side) rfl; have f4 := i1.tab.frozen 4; have c5 := i1.tab.at_ 5 (v := .int .i64 M.quiet) rfl; have f5 := i1.tab.frozen 5; have c6 := i1.tab.at_ 6 (v := .int .i64 M.state) rfl; have f6 := i1.tab.frozen 6; clear i1 f1))
          have i2 := (IsM.put (IsM.put I1.out 5 (.int .i64 0) (Mo.mk M.bad M.good M.silent M.side 0 M.state (keep 16 M.h true)) rfl rfl) 4 (.int .i64 (M.side + 1)) (Mo.mk M.bad M.good M.silent (M.side + 1) 0 M.state (keep 16 M.h true)) rfl rfl)
          have f2 := (fr3 (i := 4) (fr3 (i := 5) F1.out (.int .i64 0)) (.int .i64 (M.side + 1)))
          rw [← HH.out] at i2
          clear c0 c1 c2 c3 c4 c5 c6 f4 f5 f6 I1 F1
          generalize (w1.setCell ⟨p, 5, none⟩ (.int .i64 0)).setCell ⟨p, 4, none⟩ (.int .i64 (M.side + 1)) = w2 at i2 f2 ⊢
          have I2 := Aside0.mk i2
          have F2 := Aside0.mk f2
          have c0 := i2.tab.at_ 0 (v := .int .i64 M.bad) rfl
          have c1 := i2.tab.at_ 1 (v := .int .i64 M.good) rfl
          have c3 := i2.tab.at_ 3 (v := .pointer (some ⟨g, 0, none⟩)) rfl
          have c4 := i2.tab.at_ 4 (v := .int .i64 (M.side + 1)) rfl
          have f4 := i2.tab.frozen 4
          have c6 := i2.tab.at_ 6 (v := .int .i64 M.state) rfl
          have f6 := i2.tab.frozen 6
          clear i2 f2
          (with_reducible refine (win_sum _ p g c _ I2.out).mono ?_)
          rintro e wK ⟨rfl, rfl⟩
          go_wp2_with (first | (go_at_call 23; (with_reducible refine (parts_s _ _ HL1.out HL2.out _).mono ?_); rintro e wK ⟨rfl, rfl⟩; rw [← HZ.out]))
          go_region
          have I3 := Aside0.mk (I2.out.below (below_drew (Below.refl _ _)))
          have F3 := Aside0.mk (F2.out.comp (Fr.of_below (below_drew (Below.refl _ _))))
          clear I2 F2
          go_wp2_with fail
          first | go_ret | go_ret2 | ((try simp only [Exit.inBlock, Exit.then]); refine bodyPost_ret (results_tmp3 rfl _ _ _) rfl ?_) | go_end0 | refine bodyPost_ret0 rfl rfl ?_
          exact ⟨by rw [EE.out]; rfl, by rw [EE.out]; exact (IsM.put I3.out 6 (.int .i64 2) (Mo.mk M.bad M.good M.silent (M.side + 1) 0 2 h2) rfl rfl), fr3 (i := 6) F3.out _⟩
        · obtain ⟨x1, x2⟩ := b1 h0
          have x3 : ¬ M.good ≤ (M.side + 1) := fun h => h1 ⟨h0, h⟩
          clear h0 h1
          have EE := Aside0.mk (EN.out.trans e)
          clear EN e b0 b1 e0 e1
          go_enter Try.func10, Try.ntmps10
          go_wp2_with (first
                | (go_at_call 22; (with_reducible refine (win_note w p g c M true HK.out I0.out).mono ?_); rintro e w1 ⟨rfl, i1, f1⟩; have I1 := Aside0.mk i1; have F1 := Aside0.mk f1; have c0 := i1.tab.at_ 0 (v := .int .i64 M.bad) rfl; have c1 := i1.tab.at_ 1 (v := .int .i64 M.good) rfl; have c2 := i1.tab.at_ 2 (v := .int .i64 M.silent) rfl; have c3 := i1.tab.at_ 3 (v := .pointer (some ⟨g, 0, none⟩)) rfl; have c4 := i1.tab.at_ 4 (v := .int .i64 M.side) rfl; have f4 := i1.tab.frozen 4; have c5 := i1.tab.at_ 5 (v := .int .i64 M.quiet) rfl; have f5 := i1.tab.frozen 5; have c6 := i1.tab.at_ 6 (v := .int .i64 M.state) rfl; have f6 := i1.tab.frozen 6; clear i1 f1))
          have i2 := (IsM.put (IsM.put I1.out 5 (.int .i64 0) (Mo.mk M.bad M.good M.silent M.side 0 M.state (keep 16 M.h true)) rfl rfl) 4 (.int .i64 (M.side + 1)) (Mo.mk M.bad M.good M.silent (M.side + 1) 0 M.state (keep 16 M.h true)) rfl rfl)
          have f2 := (fr3 (i := 4) (fr3 (i := 5) F1.out (.int .i64 0)) (.int .i64 (M.side + 1)))
          rw [← HH.out] at i2
          clear c0 c1 c2 c3 c4 c5 c6 f4 f5 f6 I1 F1
          generalize (w1.setCell ⟨p, 5, none⟩ (.int .i64 0)).setCell ⟨p, 4, none⟩ (.int .i64 (M.side + 1)) = w2 at i2 f2 ⊢
          have I2 := Aside0.mk i2
          have F2 := Aside0.mk f2
          have c0 := i2.tab.at_ 0 (v := .int .i64 M.bad) rfl
          have c1 := i2.tab.at_ 1 (v := .int .i64 M.good) rfl
          have c3 := i2.tab.at_ 3 (v := .pointer (some ⟨g, 0, none⟩)) rfl
          have c4 := i2.tab.at_ 4 (v := .int .i64 (M.side + 1)) rfl
          have f4 := i2.tab.frozen 4
          have c6 := i2.tab.at_ 6 (v := .int .i64 M.state) rfl
          have f6 := i2.tab.frozen 6
          clear i2 f2
          (with_reducible refine (win_sum _ p g c _ I2.out).mono ?_)
          rintro e wK ⟨rfl, rfl⟩
          go_wp2_with (first | (go_at_call 23; (with_reducible refine (parts_s _ _ HL1.out HL2.out _).mono ?_); rintro e wK ⟨rfl, rfl⟩; rw [← HZ.out]))
          go_region
          have I3 := Aside0.mk (I2.out.below (below_drew (Below.refl _ _)))
          have F3 := Aside0.mk (F2.out.comp (Fr.of_below (below_drew (Below.refl _ _))))
          clear I2 F2
          go_wp2_with fail
          first | go_ret | go_ret2 | ((try simp only [Exit.inBlock, Exit.then]); refine bodyPost_ret (results_tmp3 rfl _ _ _) rfl ?_) | go_end0 | refine bodyPost_ret0 rfl rfl ?_
          exact ⟨by rw [EE.out]; rfl, by rw [EE.out]; exact (IsM.put I3.out 6 (.int .i64 2) (Mo.mk M.bad M.good M.silent (M.side + 1) 0 2 h2) rfl rfl), fr3 (i := 6) F3.out _⟩
      · obtain ⟨x1, x2⟩ := b0 h5
        clear h5 h1
        have EE := Aside0.mk (EN.out.trans e)
        clear EN e b0 b1 e0 e1
        go_enter Try.func10, Try.ntmps10
        go_wp2_with (first
              | (go_at_call 22; (with_reducible refine (win_note w p g c M true HK.out I0.out).mono ?_); rintro e w1 ⟨rfl, i1, f1⟩; have I1 := Aside0.mk i1; have F1 := Aside0.mk f1; have c0 := i1.tab.at_ 0 (v := .int .i64 M.bad) rfl; have c1 := i1.tab.at_ 1 (v := .int .i64 M.good) rfl; have c2 := i1.tab.at_ 2 (v := .int .i64 M.silent) rfl; have c3 := i1.tab.at_ 3 (v := .pointer (some ⟨g, 0, none⟩)) rfl; have c4 := i1.tab.at_ 4 (v := .int .i64 M.side) rfl; have f4 := i1.tab.frozen 4; have c5 := i1.tab.at_ 5 (v := .int .i64 M.quiet) rfl; have f5 := i1.tab.frozen 5; have c6 := i1.tab.at_ 6 (v := .int .i64 M.state) rfl; have f6 := i1.tab.frozen 6; clear i1 f1))
        have i2 := (IsM.put (IsM.put I1.out 5 (.int .i64 0) (Mo.mk M.bad M.good M.silent M.side 0 M.state (keep 16 M.h true)) rfl rfl) 4 (.int .i64 (M.side + 1)) (Mo.mk M.bad M.good M.silent (M.side + 1) 0 M.state (keep 16 M.h true)) rfl rfl)
        have f2 := (fr3 (i := 4) (fr3 (i := 5) F1.out (.int .i64 0)) (.int .i64 (M.side + 1)))
        rw [← HH.out] at i2
        clear c0 c1 c2 c3 c4 c5 c6 f4 f5 f6 I1 F1
        generalize (w1.setCell ⟨p, 5, none⟩ (.int .i64 0)).setCell ⟨p, 4, none⟩ (.int .i64 (M.side + 1)) = w2 at i2 f2 ⊢
        have I2 := Aside0.mk i2
        have F2 := Aside0.mk f2
        have c0 := i2.tab.at_ 0 (v := .int .i64 M.bad) rfl
        have c1 := i2.tab.at_ 1 (v := .int .i64 M.good) rfl
        have c3 := i2.tab.at_ 3 (v := .pointer (some ⟨g, 0, none⟩)) rfl
        have c4 := i2.tab.at_ 4 (v := .int .i64 (M.side + 1)) rfl
        have f4 := i2.tab.frozen 4
        have c6 := i2.tab.at_ 6 (v := .int .i64 M.state) rfl
        have f6 := i2.tab.frozen 6
        clear i2 f2
        (with_reducible refine (win_sum _ p g c _ I2.out).mono ?_)
        rintro e wK ⟨rfl, rfl⟩
        go_wp2_with (first | (go_at_call 23; (with_reducible refine (parts_s _ _ HL1.out HL2.out _).mono ?_); rintro e wK ⟨rfl, rfl⟩; rw [← HZ.out]))
        go_region
        have I3 := Aside0.mk (I2.out.below (below_drew (Below.refl _ _)))
        have F3 := Aside0.mk (F2.out.comp (Fr.of_below (below_drew (Below.refl _ _))))
        clear I2 F2
        go_wp2_with fail
        first | go_ret | go_ret2 | ((try simp only [Exit.inBlock, Exit.then]); refine bodyPost_ret (results_tmp3 rfl _ _ _) rfl ?_) | go_end0 | refine bodyPost_ret0 rfl rfl ?_
        exact ⟨by rw [EE.out]; rfl, by rw [EE.out]; exact (IsM.put I3.out 6 (.int .i64 1) (Mo.mk M.bad M.good M.silent (M.side + 1) 0 1 h2) rfl rfl), fr3 (i := 6) F3.out _⟩
      · by_cases h0 : M.state = 0
        · obtain ⟨x1, x2⟩ := b0 h0
          have x4 : ¬ half ≤ z := fun h => h4 ⟨h, h0⟩
          clear h0 h1 h4
          have EE := Aside0.mk (EN.out.trans e)
          clear EN e b0 b1 e0 e1
          go_enter Try.func10, Try.ntmps10
          go_wp2_with (first
                | (go_at_call 22; (with_reducible refine (win_note w p g c M true HK.out I0.out).mono ?_); rintro e w1 ⟨rfl, i1, f1⟩; have I1 := Aside0.mk i1; have F1 := Aside0.mk f1; have c0 := i1.tab.at_ 0 (v := .int .i64 M.bad) rfl; have c1 := i1.tab.at_ 1 (v := .int .i64 M.good) rfl; have c2 := i1.tab.at_ 2 (v := .int .i64 M.silent) rfl; have c3 := i1.tab.at_ 3 (v := .pointer (some ⟨g, 0, none⟩)) rfl; have c4 := i1.tab.at_ 4 (v := .int .i64 M.side) rfl; have f4 := i1.tab.frozen 4; have c5 := i1.tab.at_ 5 (v := .int .i64 M.quiet) rfl; have f5 := i1.tab.frozen 5; have c6 := i1.tab.at_ 6 (v := .int .i64 M.state) rfl; have f6 := i1.tab.frozen 6; clear i1 f1))
          have i2 := (IsM.put (IsM.put I1.out 5 (.int .i64 0) (Mo.mk M.bad M.good M.silent M.side 0 M.state (keep 16 M.h true)) rfl rfl) 4 (.int .i64 (M.side + 1)) (Mo.mk M.bad M.good M.silent (M.side + 1) 0 M.state (keep 16 M.h true)) rfl rfl)
          have f2 := (fr3 (i := 4) (fr3 (i := 5) F1.out (.int .i64 0)) (.int .i64 (M.side + 1)))
          rw [← HH.out] at i2
          clear c0 c1 c2 c3 c4 c5 c6 f4 f5 f6 I1 F1
          generalize (w1.setCell ⟨p, 5, none⟩ (.int .i64 0)).setCell ⟨p, 4, none⟩ (.int .i64 (M.side + 1)) = w2 at i2 f2 ⊢
          have I2 := Aside0.mk i2
          have F2 := Aside0.mk f2
          have c0 := i2.tab.at_ 0 (v := .int .i64 M.bad) rfl
          have c1 := i2.tab.at_ 1 (v := .int .i64 M.good) rfl
          have c3 := i2.tab.at_ 3 (v := .pointer (some ⟨g, 0, none⟩)) rfl
          have c4 := i2.tab.at_ 4 (v := .int .i64 (M.side + 1)) rfl
          have f4 := i2.tab.frozen 4
          have c6 := i2.tab.at_ 6 (v := .int .i64 M.state) rfl
          have f6 := i2.tab.frozen 6
          clear i2 f2
          (with_reducible refine (win_sum _ p g c _ I2.out).mono ?_)
          rintro e wK ⟨rfl, rfl⟩
          go_wp2_with (first | (go_at_call 23; (with_reducible refine (parts_s _ _ HL1.out HL2.out _).mono ?_); rintro e wK ⟨rfl, rfl⟩; rw [← HZ.out]))
          go_region
          have I3 := Aside0.mk (I2.out.below (below_drew (Below.refl _ _)))
          have F3 := Aside0.mk (F2.out.comp (Fr.of_below (below_drew (Below.refl _ _))))
          clear I2 F2
          go_wp2_with fail
          first | go_ret | go_ret2 | ((try simp only [Exit.inBlock, Exit.then]); refine bodyPost_ret (results_tmp3 rfl _ _ _) rfl ?_) | go_end0 | refine bodyPost_ret0 rfl rfl ?_
          exact ⟨by rw [EE.out]; rfl, by rw [EE.out]; exact I3.out, F3.out⟩
        · by_cases h5 : half ≤ z
          · obtain ⟨x1, x2⟩ := b1 h0
            have x3 : ¬ M.good ≤ (M.side + 1) := fun h => h1 ⟨h0, h⟩
            clear h0 h1 h4
            have EE := Aside0.mk (EN.out.trans e)
            clear EN e b0 b1 e0 e1
            go_enter Try.func10, Try.ntmps10
            go_wp2_with (first
                  | (go_at_call 22; (with_reducible refine (win_note w p g c M true HK.out I0.out).mono ?_); rintro e w1 ⟨rfl, i1, f1⟩; have I1 := Aside0.mk i1; have F1 := Aside0.mk f1; have c0 := i1.tab.at_ 0 (v := .int .i64 M.bad) rfl; have c1 := i1.tab.at_ 1 (v := .int .i64 M.good) rfl; have c2 := i1.tab.at_ 2 (v := .int .i64 M.silent) rfl; have c3 := i1.tab.at_ 3 (v := .pointer (some ⟨g, 0, none⟩)) rfl; have c4 := i1.tab.at_ 4 (v := .int .i64 M.side) rfl; have f4 := i1.tab.frozen 4; have c5 := i1.tab.at_ 5 (v := .int .i64 M.quiet) rfl; have f5 := i1.tab.frozen 5; have c6 := i1.tab.at_ 6 (v := .int .i64 M.state) rfl; have f6 := i1.tab.frozen 6; clear i1 f1))
            have i2 := (IsM.put (IsM.put I1.out 5 (.int .i64 0) (Mo.mk M.bad M.good M.silent M.side 0 M.state (keep 16 M.h true)) rfl rfl) 4 (.int .i64 (M.side + 1)) (Mo.mk M.bad M.good M.silent (M.side + 1) 0 M.state (keep 16 M.h true)) rfl rfl)
            have f2 := (fr3 (i := 4) (fr3 (i := 5) F1.out (.int .i64 0)) (.int .i64 (M.side + 1)))
            rw [← HH.out] at i2
            clear c0 c1 c2 c3 c4 c5 c6 f4 f5 f6 I1 F1
            generalize (w1.setCell ⟨p, 5, none⟩ (.int .i64 0)).setCell ⟨p, 4, none⟩ (.int .i64 (M.side + 1)) = w2 at i2 f2 ⊢
            have I2 := Aside0.mk i2
            have F2 := Aside0.mk f2
            have c0 := i2.tab.at_ 0 (v := .int .i64 M.bad) rfl
            have c1 := i2.tab.at_ 1 (v := .int .i64 M.good) rfl
            have c3 := i2.tab.at_ 3 (v := .pointer (some ⟨g, 0, none⟩)) rfl
            have c4 := i2.tab.at_ 4 (v := .int .i64 (M.side + 1)) rfl
            have f4 := i2.tab.frozen 4
            have c6 := i2.tab.at_ 6 (v := .int .i64 M.state) rfl
            have f6 := i2.tab.frozen 6
            clear i2 f2
            (with_reducible refine (win_sum _ p g c _ I2.out).mono ?_)
            rintro e wK ⟨rfl, rfl⟩
            go_wp2_with (first | (go_at_call 23; (with_reducible refine (parts_s _ _ HL1.out HL2.out _).mono ?_); rintro e wK ⟨rfl, rfl⟩; rw [← HZ.out]))
            go_region
            have I3 := Aside0.mk (I2.out.below (below_drew (Below.refl _ _)))
            have F3 := Aside0.mk (F2.out.comp (Fr.of_below (below_drew (Below.refl _ _))))
            clear I2 F2
            go_wp2_with fail
            first | go_ret | go_ret2 | ((try simp only [Exit.inBlock, Exit.then]); refine bodyPost_ret (results_tmp3 rfl _ _ _) rfl ?_) | go_end0 | refine bodyPost_ret0 rfl rfl ?_
            exact ⟨by rw [EE.out]; rfl, by rw [EE.out]; exact I3.out, F3.out⟩
          · obtain ⟨x1, x2⟩ := b1 h0
            have x3 : ¬ M.good ≤ (M.side + 1) := fun h => h1 ⟨h0, h⟩
            clear h0 h1 h4
            have EE := Aside0.mk (EN.out.trans e)
            clear EN e b0 b1 e0 e1
            go_enter Try.func10, Try.ntmps10
            go_wp2_with (first
                  | (go_at_call 22; (with_reducible refine (win_note w p g c M true HK.out I0.out).mono ?_); rintro e w1 ⟨rfl, i1, f1⟩; have I1 := Aside0.mk i1; have F1 := Aside0.mk f1; have c0 := i1.tab.at_ 0 (v := .int .i64 M.bad) rfl; have c1 := i1.tab.at_ 1 (v := .int .i64 M.good) rfl; have c2 := i1.tab.at_ 2 (v := .int .i64 M.silent) rfl; have c3 := i1.tab.at_ 3 (v := .pointer (some ⟨g, 0, none⟩)) rfl; have c4 := i1.tab.at_ 4 (v := .int .i64 M.side) rfl; have f4 := i1.tab.frozen 4; have c5 := i1.tab.at_ 5 (v := .int .i64 M.quiet) rfl; have f5 := i1.tab.frozen 5; have c6 := i1.tab.at_ 6 (v := .int .i64 M.state) rfl; have f6 := i1.tab.frozen 6; clear i1 f1))
            have i2 := (IsM.put (IsM.put I1.out 5 (.int .i64 0) (Mo.mk M.bad M.good M.silent M.side 0 M.state (keep 16 M.h true)) rfl rfl) 4 (.int .i64 (M.side + 1)) (Mo.mk M.bad M.good M.silent (M.side + 1) 0 M.state (keep 16 M.h true)) rfl rfl)
            have f2 := (fr3 (i := 4) (fr3 (i := 5) F1.out (.int .i64 0)) (.int .i64 (M.side + 1)))
            rw [← HH.out] at i2
            clear c0 c1 c2 c3 c4 c5 c6 f4 f5 f6 I1 F1
            generalize (w1.setCell ⟨p, 5, none⟩ (.int .i64 0)).setCell ⟨p, 4, none⟩ (.int .i64 (M.side + 1)) = w2 at i2 f2 ⊢
            have I2 := Aside0.mk i2
            have F2 := Aside0.mk f2
            have c0 := i2.tab.at_ 0 (v := .int .i64 M.bad) rfl
            have c1 := i2.tab.at_ 1 (v := .int .i64 M.good) rfl
            have c3 := i2.tab.at_ 3 (v := .pointer (some ⟨g, 0, none⟩)) rfl
            have c4 := i2.tab.at_ 4 (v := .int .i64 (M.side + 1)) rfl
            have f4 := i2.tab.frozen 4
            have c6 := i2.tab.at_ 6 (v := .int .i64 M.state) rfl
            have f6 := i2.tab.frozen 6
            clear i2 f2
            (with_reducible refine (win_sum _ p g c _ I2.out).mono ?_)
            rintro e wK ⟨rfl, rfl⟩
            go_wp2_with (first | (go_at_call 23; (with_reducible refine (parts_s _ _ HL1.out HL2.out _).mono ?_); rintro e wK ⟨rfl, rfl⟩; rw [← HZ.out]))
            go_region
            have I3 := Aside0.mk (I2.out.below (below_drew (Below.refl _ _)))
            have F3 := Aside0.mk (F2.out.comp (Fr.of_below (below_drew (Below.refl _ _))))
            clear I2 F2
            go_wp2_with fail
            first | go_ret | go_ret2 | ((try simp only [Exit.inBlock, Exit.then]); refine bodyPost_ret (results_tmp3 rfl _ _ _) rfl ?_) | go_end0 | refine bodyPost_ret0 rfl rfl ?_
            exact ⟨by rw [EE.out]; rfl, by rw [EE.out]; exact I3.out, F3.out⟩
    · obtain rfl : s = 16 := by rw [e1 rfl, if_neg hs]
      have hs2 : 16 ≤ M.side + 1 := by omega
      have hs3 : 16 < M.side + 1 := by omega
      rcases key with ⟨h1, h3, e⟩ | ⟨h1, h3, e⟩ | ⟨h1, h3, h4, h5, e⟩ | ⟨h1, h3, h4, e⟩
      · obtain ⟨x1, x2⟩ := b1 h1
        clear h1
        have EE := Aside0.mk (EN.out.trans e)
        clear EN e b0 b1 e0 e1
        go_enter Try.func10, Try.ntmps10
        go_wp2_with (first
              | (go_at_call 22; (with_reducible refine (win_note w p g c M true HK.out I0.out).mono ?_); rintro e w1 ⟨rfl, i1, f1⟩; have I1 := Aside0.mk i1; have F1 := Aside0.mk f1; have c0 := i1.tab.at_ 0 (v := .int .i64 M.bad) rfl; have c1 := i1.tab.at_ 1 (v := .int .i64 M.good) rfl; have c2 := i1.tab.at_ 2 (v := .int .i64 M.silent) rfl; have c3 := i1.tab.at_ 3 (v := .pointer (some ⟨g, 0, none⟩)) rfl; have c4 := i1.tab.at_ 4 (v := .int .i64 M.side) rfl; have f4 := i1.tab.frozen 4; have c5 := i1.tab.at_ 5 (v := .int .i64 M.quiet) rfl; have f5 := i1.tab.frozen 5; have c6 := i1.tab.at_ 6 (v := .int .i64 M.state) rfl; have f6 := i1.tab.frozen 6; clear i1 f1))
        have i2 := (IsM.put (IsM.put I1.out 5 (.int .i64 0) (Mo.mk M.bad M.good M.silent M.side 0 M.state (keep 16 M.h true)) rfl rfl) 4 (.int .i64 16) (Mo.mk M.bad M.good M.silent 16 0 M.state (keep 16 M.h true)) rfl rfl)
        have f2 := (fr3 (i := 4) (fr3 (i := 5) F1.out (.int .i64 0)) (.int .i64 16))
        rw [← HH.out] at i2
        clear c0 c1 c2 c3 c4 c5 c6 f4 f5 f6 I1 F1
        generalize (w1.setCell ⟨p, 5, none⟩ (.int .i64 0)).setCell ⟨p, 4, none⟩ (.int .i64 16) = w2 at i2 f2 ⊢
        have I2 := Aside0.mk i2
        have F2 := Aside0.mk f2
        have c0 := i2.tab.at_ 0 (v := .int .i64 M.bad) rfl
        have c1 := i2.tab.at_ 1 (v := .int .i64 M.good) rfl
        have c3 := i2.tab.at_ 3 (v := .pointer (some ⟨g, 0, none⟩)) rfl
        have c4 := i2.tab.at_ 4 (v := .int .i64 16) rfl
        have f4 := i2.tab.frozen 4
        have c6 := i2.tab.at_ 6 (v := .int .i64 M.state) rfl
        have f6 := i2.tab.frozen 6
        clear i2 f2
        (with_reducible refine (win_sum _ p g c _ I2.out).mono ?_)
        rintro e wK ⟨rfl, rfl⟩
        go_wp2_with (first | (go_at_call 23; (with_reducible refine (parts_s _ _ HL1.out HL2.out _).mono ?_); rintro e wK ⟨rfl, rfl⟩; rw [← HZ.out]))
        go_region
        have I3 := Aside0.mk (I2.out.below (below_drew (Below.refl _ _)))
        have F3 := Aside0.mk (F2.out.comp (Fr.of_below (below_drew (Below.refl _ _))))
        clear I2 F2
        go_wp2_with (first
      | (go_at_call 25; (with_reducible refine (win_clear _ p g c (Mo.mk M.bad M.good M.silent 16 0 M.state h2) I3.out).mono ?_); rintro e w4 ⟨rfl, i4, f4⟩; have I4 := Aside0.mk i4; have F4 := Aside0.mk (F3.out.comp f4); have c6 := i4.tab.at_ 6 (v := .int .i64 M.state) rfl; have g6 := i4.tab.frozen 6; clear i4 f4))
        first | go_ret | go_ret2 | ((try simp only [Exit.inBlock, Exit.then]); refine bodyPost_ret (results_tmp3 rfl _ _ _) rfl ?_) | go_end0 | refine bodyPost_ret0 rfl rfl ?_
        exact ⟨by rw [EE.out]; rfl, by rw [EE.out]; exact (IsM.put I4.out 6 (.int .i64 0) (Mo.mk M.bad M.good M.silent 16 0 0 []) rfl rfl), fr3 (i := 6) F4.out _⟩
      · by_cases h0 : M.state = 0
        · obtain ⟨x1, x2⟩ := b0 h0
          clear h0 h1
          have EE := Aside0.mk (EN.out.trans e)
          clear EN e b0 b1 e0 e1
          go_enter Try.func10, Try.ntmps10
          go_wp2_with (first
                | (go_at_call 22; (with_reducible refine (win_note w p g c M true HK.out I0.out).mono ?_); rintro e w1 ⟨rfl, i1, f1⟩; have I1 := Aside0.mk i1; have F1 := Aside0.mk f1; have c0 := i1.tab.at_ 0 (v := .int .i64 M.bad) rfl; have c1 := i1.tab.at_ 1 (v := .int .i64 M.good) rfl; have c2 := i1.tab.at_ 2 (v := .int .i64 M.silent) rfl; have c3 := i1.tab.at_ 3 (v := .pointer (some ⟨g, 0, none⟩)) rfl; have c4 := i1.tab.at_ 4 (v := .int .i64 M.side) rfl; have f4 := i1.tab.frozen 4; have c5 := i1.tab.at_ 5 (v := .int .i64 M.quiet) rfl; have f5 := i1.tab.frozen 5; have c6 := i1.tab.at_ 6 (v := .int .i64 M.state) rfl; have f6 := i1.tab.frozen 6; clear i1 f1))
          have i2 := (IsM.put (IsM.put I1.out 5 (.int .i64 0) (Mo.mk M.bad M.good M.silent M.side 0 M.state (keep 16 M.h true)) rfl rfl) 4 (.int .i64 16) (Mo.mk M.bad M.good M.silent 16 0 M.state (keep 16 M.h true)) rfl rfl)
          have f2 := (fr3 (i := 4) (fr3 (i := 5) F1.out (.int .i64 0)) (.int .i64 16))
          rw [← HH.out] at i2
          clear c0 c1 c2 c3 c4 c5 c6 f4 f5 f6 I1 F1
          generalize (w1.setCell ⟨p, 5, none⟩ (.int .i64 0)).setCell ⟨p, 4, none⟩ (.int .i64 16) = w2 at i2 f2 ⊢
          have I2 := Aside0.mk i2
          have F2 := Aside0.mk f2
          have c0 := i2.tab.at_ 0 (v := .int .i64 M.bad) rfl
          have c1 := i2.tab.at_ 1 (v := .int .i64 M.good) rfl
          have c3 := i2.tab.at_ 3 (v := .pointer (some ⟨g, 0, none⟩)) rfl
          have c4 := i2.tab.at_ 4 (v := .int .i64 16) rfl
          have f4 := i2.tab.frozen 4
          have c6 := i2.tab.at_ 6 (v := .int .i64 M.state) rfl
          have f6 := i2.tab.frozen 6
          clear i2 f2
          (with_reducible refine (win_sum _ p g c _ I2.out).mono ?_)
          rintro e wK ⟨rfl, rfl⟩
          go_wp2_with (first | (go_at_call 23; (with_reducible refine (parts_s _ _ HL1.out HL2.out _).mono ?_); rintro e wK ⟨rfl, rfl⟩; rw [← HZ.out]))
          go_region
          have I3 := Aside0.mk (I2.out.below (below_drew (Below.refl _ _)))
          have F3 := Aside0.mk (F2.out.comp (Fr.of_below (below_drew (Below.refl _ _))))
          clear I2 F2
          go_wp2_with fail
          first | go_ret | go_ret2 | ((try simp only [Exit.inBlock, Exit.then]); refine bodyPost_ret (results_tmp3 rfl _ _ _) rfl ?_) | go_end0 | refine bodyPost_ret0 rfl rfl ?_
          exact ⟨by rw [EE.out]; rfl, by rw [EE.out]; exact (IsM.put I3.out 6 (.int .i64 2) (Mo.mk M.bad M.good M.silent 16 0 2 h2) rfl rfl), fr3 (i := 6) F3.out _⟩
        · exact absurd ⟨h0, k4⟩ h1
      · obtain ⟨x1, x2⟩ := b0 h5
        clear h5 h1
        have EE := Aside0.mk (EN.out.trans e)
        clear EN e b0 b1 e0 e1
        go_enter Try.func10, Try.ntmps10
        go_wp2_with (first
              | (go_at_call 22; (with_reducible refine (win_note w p g c M true HK.out I0.out).mono ?_); rintro e w1 ⟨rfl, i1, f1⟩; have I1 := Aside0.mk i1; have F1 := Aside0.mk f1; have c0 := i1.tab.at_ 0 (v := .int .i64 M.bad) rfl; have c1 := i1.tab.at_ 1 (v := .int .i64 M.good) rfl; have c2 := i1.tab.at_ 2 (v := .int .i64 M.silent) rfl; have c3 := i1.tab.at_ 3 (v := .pointer (some ⟨g, 0, none⟩)) rfl; have c4 := i1.tab.at_ 4 (v := .int .i64 M.side) rfl; have f4 := i1.tab.frozen 4; have c5 := i1.tab.at_ 5 (v := .int .i64 M.quiet) rfl; have f5 := i1.tab.frozen 5; have c6 := i1.tab.at_ 6 (v := .int .i64 M.state) rfl; have f6 := i1.tab.frozen 6; clear i1 f1))
        have i2 := (IsM.put (IsM.put I1.out 5 (.int .i64 0) (Mo.mk M.bad M.good M.silent M.side 0 M.state (keep 16 M.h true)) rfl rfl) 4 (.int .i64 16) (Mo.mk M.bad M.good M.silent 16 0 M.state (keep 16 M.h true)) rfl rfl)
        have f2 := (fr3 (i := 4) (fr3 (i := 5) F1.out (.int .i64 0)) (.int .i64 16))
        rw [← HH.out] at i2
        clear c0 c1 c2 c3 c4 c5 c6 f4 f5 f6 I1 F1
        generalize (w1.setCell ⟨p, 5, none⟩ (.int .i64 0)).setCell ⟨p, 4, none⟩ (.int .i64 16) = w2 at i2 f2 ⊢
        have I2 := Aside0.mk i2
        have F2 := Aside0.mk f2
        have c0 := i2.tab.at_ 0 (v := .int .i64 M.bad) rfl
        have c1 := i2.tab.at_ 1 (v := .int .i64 M.good) rfl
        have c3 := i2.tab.at_ 3 (v := .pointer (some ⟨g, 0, none⟩)) rfl
        have c4 := i2.tab.at_ 4 (v := .int .i64 16) rfl
        have f4 := i2.tab.frozen 4
        have c6 := i2.tab.at_ 6 (v := .int .i64 M.state) rfl
        have f6 := i2.tab.frozen 6
        clear i2 f2
        (with_reducible refine (win_sum _ p g c _ I2.out).mono ?_)
        rintro e wK ⟨rfl, rfl⟩
        go_wp2_with (first | (go_at_call 23; (with_reducible refine (parts_s _ _ HL1.out HL2.out _).mono ?_); rintro e wK ⟨rfl, rfl⟩; rw [← HZ.out]))
        go_region
        have I3 := Aside0.mk (I2.out.below (below_drew (Below.refl _ _)))
        have F3 := Aside0.mk (F2.out.comp (Fr.of_below (below_drew (Below.refl _ _))))
        clear I2 F2
        go_wp2_with fail
        first | go_ret | go_ret2 | ((try simp only [Exit.inBlock, Exit.then]); refine bodyPost_ret (results_tmp3 rfl _ _ _) rfl ?_) | go_end0 | refine bodyPost_ret0 rfl rfl ?_
        exact ⟨by rw [EE.out]; rfl, by rw [EE.out]; exact (IsM.put I3.out 6 (.int .i64 1) (Mo.mk M.bad M.good M.silent 16 0 1 h2) rfl rfl), fr3 (i := 6) F3.out _⟩
      · by_cases h0 : M.state = 0
        · obtain ⟨x1, x2⟩ := b0 h0
          have x4 : ¬ half ≤ z := fun h => h4 ⟨h, h0⟩
          clear h0 h1 h4
          have EE := Aside0.mk (EN.out.trans e)
          clear EN e b0 b1 e0 e1
          go_enter Try.func10, Try.ntmps10
          go_wp2_with (first
                | (go_at_call 22; (with_reducible refine (win_note w p g c M true HK.out I0.out).mono ?_); rintro e w1 ⟨rfl, i1, f1⟩; have I1 := Aside0.mk i1; have F1 := Aside0.mk f1; have c0 := i1.tab.at_ 0 (v := .int .i64 M.bad) rfl; have c1 := i1.tab.at_ 1 (v := .int .i64 M.good) rfl; have c2 := i1.tab.at_ 2 (v := .int .i64 M.silent) rfl; have c3 := i1.tab.at_ 3 (v := .pointer (some ⟨g, 0, none⟩)) rfl; have c4 := i1.tab.at_ 4 (v := .int .i64 M.side) rfl; have f4 := i1.tab.frozen 4; have c5 := i1.tab.at_ 5 (v := .int .i64 M.quiet) rfl; have f5 := i1.tab.frozen 5; have c6 := i1.tab.at_ 6 (v := .int .i64 M.state) rfl; have f6 := i1.tab.frozen 6; clear i1 f1))
          have i2 := (IsM.put (IsM.put I1.out 5 (.int .i64 0) (Mo.mk M.bad M.good M.silent M.side 0 M.state (keep 16 M.h true)) rfl rfl) 4 (.int .i64 16) (Mo.mk M.bad M.good M.silent 16 0 M.state (keep 16 M.h true)) rfl rfl)
          have f2 := (fr3 (i := 4) (fr3 (i := 5) F1.out (.int .i64 0)) (.int .i64 16))
          rw [← HH.out] at i2
          clear c0 c1 c2 c3 c4 c5 c6 f4 f5 f6 I1 F1
          generalize (w1.setCell ⟨p, 5, none⟩ (.int .i64 0)).setCell ⟨p, 4, none⟩ (.int .i64 16) = w2 at i2 f2 ⊢
          have I2 := Aside0.mk i2
          have F2 := Aside0.mk f2
          have c0 := i2.tab.at_ 0 (v := .int .i64 M.bad) rfl
          have c1 := i2.tab.at_ 1 (v := .int .i64 M.good) rfl
          have c3 := i2.tab.at_ 3 (v := .pointer (some ⟨g, 0, none⟩)) rfl
          have c4 := i2.tab.at_ 4 (v := .int .i64 16) rfl
          have f4 := i2.tab.frozen 4
          have c6 := i2.tab.at_ 6 (v := .int .i64 M.state) rfl
          have f6 := i2.tab.frozen 6
          clear i2 f2
          (with_reducible refine (win_sum _ p g c _ I2.out).mono ?_)
          rintro e wK ⟨rfl, rfl⟩
          go_wp2_with (first | (go_at_call 23; (with_reducible refine (parts_s _ _ HL1.out HL2.out _).mono ?_); rintro e wK ⟨rfl, rfl⟩; rw [← HZ.out]))
          go_region
          have I3 := Aside0.mk (I2.out.below (below_drew (Below.refl _ _)))
          have F3 := Aside0.mk (F2.out.comp (Fr.of_below (below_drew (Below.refl _ _))))
          clear I2 F2
          go_wp2_with fail
          first | go_ret | go_ret2 | ((try simp only [Exit.inBlock, Exit.then]); refine bodyPost_ret (results_tmp3 rfl _ _ _) rfl ?_) | go_end0 | refine bodyPost_ret0 rfl rfl ?_
          exact ⟨by rw [EE.out]; rfl, by rw [EE.out]; exact I3.out, F3.out⟩
        · by_cases h5 : half ≤ z
          · exact absurd ⟨h0, k4⟩ h1
          · exact absurd ⟨h0, k4⟩ h1

end Go.Proofs.Ytjmkddadbblblaa.MoA
