/- Contracts of the reference of a monitor. -/
import Derived.Test.YtjmkddadbblblaaTaR
import Derived.Test.YtjmkddadbblblaaMoP
import Derived.Test.YtjmkddadbblblaaMoA
namespace Go.Proofs.Ytjmkddadbblblaa.MoR
open Go.Proofs.Ytjmkddadbblblaa.MoP (Mo Ok)
open Go.RowKit Go.Proofs.YtjmkddadbblblaaW.PrintWords Go.Proofs.YtjmkddadbblblaaW.PrintLast Go.Proofs.YtjmkddadbblblaaW.PrintMore Go.Proofs.Ytjmkddadbblblaa.K Go.Proofs.Ytjmkddadbblblaa.TaP Go.Proofs.Ytjmkddadbblblaa.TaA Go.Proofs.Ytjmkddadbblblaa.TaB Go.Proofs.Ytjmkddadbblblaa.TaR Go.Proofs.Ytjmkddadbblblaa.MoA
set_option linter.unusedVariables false
set_option linter.unusedSimpArgs false
attribute [local go_sem] max2_int min2_int max_two min_two
attribute [local go_sem] run_store_complex

structure IsN (B : Nat) (w : World) (p r : Nat) (M : Mo) : Prop where
  tab : Ob w p 54 (M.cells (.pointer (some ⟨r, 0, none⟩)))
  win : IsR B w r 16 M.h
section
variable {B : Nat} {w w' : World} {p r : Nat} {M : Mo} {S : Nat → Prop}
theorem IsN.ne (i : IsN B w p r M) : p ≠ r := by
  obtain ⟨A, k, h, _⟩ := i.win.out
  exact fun e => blk_ne i.tab h (by decide) e
theorem IsN.lt (i : IsN B w p r M) : p < w.heap.size ∧ r < w.heap.size := ⟨i.tab.lt, i.win.lt⟩
theorem IsN.fr (i : IsN B w p r M) (hf : Fr S w w') (h1 : ¬ S p) (h2 : ¬ S r) (h3 : ∀ j, B ≤ j → j < w.heap.size → ¬ S j) : IsN B w' p r M := ⟨i.tab.fr hf h1, i.win.fr hf h2 h3⟩
theorem IsN.below (i : IsN B w p r M) (hb : Below w.heap.size w w') : IsN B w' p r M := ⟨i.tab.below hb, i.win.below hb⟩
theorem IsN.heap (i : IsN B w p r M) (he : w'.heap = w.heap) (hb : Below w.heap.size w w') : IsN B w' p r M := i.below hb
theorem IsN.put (hp : p < B) (i : IsN B w p r M) (j : Nat) (u : Value) (M' : Mo) (h1 : M'.cells (.pointer (some ⟨r, 0, none⟩)) = (M.cells (.pointer (some ⟨r, 0, none⟩))).set j u) (h2 : M'.h = M.h) : IsN B (w.setCell ⟨p, j, none⟩ u) p r M' := by
  have n := i.ne
  exact ⟨by rw [h1]; exact i.tab.set j u, by rw [h2]; exact i.win.fr (Fr.put (Fr.refl (fun x => x = p) w) j u) (fun e => n e.symm) (fun j hj _ e => by omega)⟩
theorem fr2 {i : Nat} (h : Fr (fun k => k = p ∨ k = r) w w') (u : Value) : Fr (fun k => k = p ∨ k = r) w (w'.setCell ⟨p, i, none⟩ u) := h.set (p := ⟨p, i, none⟩) (Or.inl rfl) u
end
theorem win_noter (w : World) (B p r : Nat) (M : Mo) (ok : Bool) (k : Ok M) (hB : B ≤ w.heap.size) (hp : p < B) (hr : r < B) (i : IsN B w p r M) : Calls Try.prog 29 #[.pointer (some ⟨r, 0, none⟩), .bool ok] w fun e w' => e = .returned (.tuple #[]) ∧ IsN B w' p r { M with h := keep 16 M.h ok } ∧ Fr (fun k => k = p ∨ k = r) w w' :=
  (noter_ok B r 16 M.h ok k.h1 (by omega) (by omega) w hB hr i.win).mono fun e w' q => ⟨q.1, ⟨i.tab.fr q.2.2 (fun e => i.ne e), q.2.1⟩, q.2.2.mono (fun x hx => Or.inr hx)⟩
theorem win_clearr (w : World) (B p r : Nat) (M : Mo) (i : IsN B w p r M) : Calls Try.prog 31 #[.pointer (some ⟨r, 0, none⟩)] w fun e w' => e = .returned (.tuple #[]) ∧ IsN B w' p r { M with h := [] } ∧ Fr (fun k => k = p ∨ k = r) w w' :=
  (clearr_ok B r 16 M.h w i.win).mono fun e w' q => ⟨q.1, ⟨i.tab.fr q.2.2 (fun e => i.ne e), q.2.1⟩, q.2.2.mono (fun x hx => Or.inr hx)⟩

theorem quiet_cut (M : Mo) (k : Ok M) (n : Int) : MoP.cutQ (M.quiet + MoP.cutQ n 0 1073741824) 0 1073741824 = MoP.quietM M n := by
  have := MoP.cutQ_b n 0 1073741824 (by omega)
  have := k.q0
  unfold MoP.quietM
  rw [show MoP.cutQ (M.quiet + MoP.cutQ n 0 1073741824) 0 1073741824 = if M.quiet + MoP.cutQ n 0 1073741824 < 0 then 0 else if M.quiet + MoP.cutQ n 0 1073741824 > 1073741824 then 1073741824 else M.quiet + MoP.cutQ n 0 1073741824 from rfl]
  (repeat' split) <;> omega

set_option maxHeartbeats 8000000 in
set_option maxRecDepth 100000 in
theorem stater_ok (B p r : Nat) (M : Mo) (w : World) (i : IsN B w p r M) : Calls Try.prog 18 #[.pointer (some ⟨p, 0, none⟩)] w fun e w' => e = .returned (.int .i64 M.state) ∧ w = w' := by
  have c6 := i.tab.at_ 6 (v := .int .i64 M.state) rfl
  clear i
  go_enter Try.func18, Try.ntmps18
  go_wp2
  go_ret
  exact ⟨rfl, rfl⟩

set_option maxHeartbeats 8000000 in
set_option maxRecDepth 100000 in
theorem sumn_ok (B p r : Nat) (M : Mo) (hl : M.h.length ≤ 16) (w : World) (i : IsN B w p r M) : Calls Try.prog 19 #[.pointer (some ⟨p, 0, none⟩)] w fun e w' => e = .returned (.complex .f64 (fl (M.h.count true)) (fl (M.h.count false))) ∧ w'.heap = w.heap ∧ Below w.heap.size w w' := by
  have c3 := i.tab.at_ 3 (v := .pointer (some ⟨r, 0, none⟩)) rfl
  have I := Aside0.mk i
  have HL := Aside0.mk (show M.h.length ≤ 1000 by omega)
  clear i hl
  go_enter Try.func19, Try.ntmps19
  go_wp2_with (first | (go_at_call 32; (with_reducible refine (sumr_ok B r 16 M.h HL.out w I.out.win).mono ?_); rintro e wK ⟨rfl, hh, hb⟩; have HH := Aside0.mk hh; have HB := Aside0.mk hb; clear hh hb))
  go_ret
  exact ⟨rfl, HH.out, HB.out⟩
set_option maxHeartbeats 8000000 in
set_option maxRecDepth 100000 in
theorem newn_ok (bad good silent : Int) (B : Nat) (w : World) : Calls Try.prog 15 #[.int .i64 bad, .int .i64 good, .int .i64 silent] w fun e w' => ∃ p r, e = .returned (.pointer (some ⟨p, 0, none⟩)) ∧ w.heap.size ≤ p ∧ w.heap.size ≤ r ∧ IsN B w' p r (MoP.newM bad good silent) ∧ Below w.heap.size w w' := by
  go_enter Try.func15, Try.ntmps15
  go_wp2_with (first | (go_at_call 27; (with_reducible refine (cutr_s _ _ _ (by decide) _).mono ?_); rintro e wK ⟨rfl, rfl⟩) | (go_at_call 28; (with_reducible refine (newr_ok 16 B _).mono ?_); rintro e wK ⟨r, rfl, hg, hw, hb⟩; have HG := Aside0.mk hg; have HW := Aside0.mk hw; have HB := Aside0.mk hb; clear hg hw hb))
  go_ret
  have hw := HW.out
  rw [size16] at hw
  exact ⟨_, r, rfl, HB.out.size, HG.out, ⟨Ob.new _ 54 _, hw.below (below_alloc (Below.refl _ _) _)⟩, below_alloc HB.out _⟩

theorem half_t (b : Int) (h0 : 1 ≤ b) : (b + 1).tdiv 2 = (b + 1) / 2 := Int.tdiv_eq_ediv_of_nonneg (by omega)
set_option maxHeartbeats 8000000 in
set_option maxRecDepth 100000 in
theorem noterm_ok (B p r : Nat) (M : Mo) (ok : Bool) (k : Ok M) (w : World) (hB : B ≤ w.heap.size) (hp : p < B) (hr : r < B) (i : IsN B w p r M) :
    Calls Try.prog 17 #[.pointer (some ⟨p, 0, none⟩), .bool ok] w fun e w' => e = .returned (.int .i64 (MoP.noteR M ok).state) ∧ IsN B w' p r (MoP.noteR M ok) ∧ Fr (fun k => k = p ∨ k = r) w w' := by
  have k1 := k.b0
  have k2 := k.b1
  have k3 := k.g0
  have k4 := k.g1
  have k7 := k.d0
  have k8 := k.d1
  have c3 := i.tab.at_ 3 (v := .pointer (some ⟨r, 0, none⟩)) rfl
  have I0 := Aside0.mk i
  have HK := Aside0.mk k
  have HP := Aside0.mk hp
  have HR := Aside0.mk hr
  have HB := Aside0.mk hB
  obtain ⟨h2, hh2⟩ : ∃ h2, h2 = keep 16 M.h ok := ⟨_, rfl⟩
  have hlen := (keep_le 16 M.h ok (by omega) k.h1).1
  rw [← hh2] at hlen
  have hcl := count_le h2 16 hlen
  obtain ⟨z, hz⟩ : ∃ z, z = h2.count false := ⟨_, rfl⟩
  obtain ⟨s, hs⟩ : ∃ s, s = MoP.sideR M ok := ⟨_, rfl⟩
  obtain ⟨half, hf⟩ : ∃ x, x = (M.bad + 1) / 2 := ⟨_, rfl⟩
  have et : (M.bad + 1).tdiv 2 = half := by rw [half_t _ k1, hf]
  have ew : IntKind.i64.wrap (M.bad + 1) = M.bad + 1 := w64 (by omega) (by omega)
  have eh : IntKind.i64.wrap half = half := w64 (by omega) (by omega)
  have es : IntKind.i64.wrap (M.side + 1) = M.side + 1 := w64 (by omega) (by omega)
  have EN : Aside0 (MoP.noteR M ok = MoP.endM M h2 s) := ⟨by rw [hh2, hs]; rfl⟩
  have HL := Aside0.mk (show h2.length ≤ 1000 by omega)
  have HL1 := Aside0.mk (show h2.count true ≤ 201 by omega)
  have HL2 := Aside0.mk (show h2.count false ≤ 201 by omega)
  have HZ := Aside0.mk hz
  have HH := Aside0.mk hh2
  have key : (M.state ≠ 0 ∧ M.good ≤ s ∧ MoP.endM M h2 s = (Mo.mk M.bad M.good M.silent s 0 0 [])) ∨ (¬ (M.state ≠ 0 ∧ M.good ≤ s) ∧ M.bad ≤ z ∧ MoP.endM M h2 s = (Mo.mk M.bad M.good M.silent s 0 2 h2)) ∨ (¬ (M.state ≠ 0 ∧ M.good ≤ s) ∧ ¬ M.bad ≤ z ∧ half ≤ z ∧ M.state = 0 ∧ MoP.endM M h2 s = (Mo.mk M.bad M.good M.silent s 0 1 h2)) ∨ (¬ (M.state ≠ 0 ∧ M.good ≤ s) ∧ ¬ M.bad ≤ z ∧ ¬ (half ≤ z ∧ M.state = 0) ∧ MoP.endM M h2 s = (Mo.mk M.bad M.good M.silent s 0 M.state h2)) := by
    unfold MoP.endM
    rw [← hz, ← hf]
    by_cases h1 : M.state ≠ 0 ∧ M.good ≤ s
    · exact .inl ⟨h1.1, h1.2, if_pos h1⟩
    · rw [if_neg h1]
      by_cases h2 : M.bad ≤ z
      · exact .inr (.inl ⟨h1, h2, if_pos h2⟩)
      · rw [if_neg h2]
        by_cases h3 : half ≤ z ∧ M.state = 0
        · exact .inr (.inr (.inl ⟨h1, h2, h3.1, h3.2, if_pos h3⟩))
        · exact .inr (.inr (.inr ⟨h1, h2, h3, if_neg h3⟩))
  have b0 : M.state = 0 → (M.state == 0) = true ∧ (M.state != 0) = false := fun h => by simp [h]
  have b1 : M.state ≠ 0 → (M.state == 0) = false ∧ (M.state != 0) = true := fun h => by simp [bne, h]
  clear i k hz hh2 hlen hcl hf hB hp hr
  -- the walk
  have e0 : ok = false → s = 0 := fun h => by rw [hs, h]; rfl
  have e1 : ok = true → s = M.side + 1 := fun h => by rw [hs, h]; rfl
  clear hs
  cases ok
  · obtain rfl : s = 0 := e0 rfl
    rcases key with ⟨h1, h3, e⟩ | ⟨h1, h3, e⟩ | ⟨h1, h3, h4, h5, e⟩ | ⟨h1, h3, h4, e⟩
    · exact absurd h3 (by omega)
    · by_cases h0 : M.state = 0
      · obtain ⟨x1, x2⟩ := b0 h0
        clear h0 h1
        have EE := Aside0.mk (EN.out.trans e)
        clear EN e b0 b1 e0 e1
        go_enter Try.func17, Try.ntmps17
        go_wp2_with (first
              | (go_at_call 29; (with_reducible refine (win_noter w B p r M false HK.out HB.out HP.out HR.out I0.out).mono ?_); rintro e w1 ⟨rfl, i1, f1⟩; have I1 := Aside0.mk i1; have F1 := Aside0.mk f1; have c0 := i1.tab.at_ 0 (v := .int .i64 M.bad) rfl; have c1 := i1.tab.at_ 1 (v := .int .i64 M.good) rfl; have c2 := i1.tab.at_ 2 (v := .int .i64 M.silent) rfl; have c3 := i1.tab.at_ 3 (v := .pointer (some ⟨r, 0, none⟩)) rfl; have c4 := i1.tab.at_ 4 (v := .int .i64 M.side) rfl; have f4 := i1.tab.frozen 4; have c5 := i1.tab.at_ 5 (v := .int .i64 M.quiet) rfl; have f5 := i1.tab.frozen 5; have c6 := i1.tab.at_ 6 (v := .int .i64 M.state) rfl; have f6 := i1.tab.frozen 6; clear i1 f1))
        have i2 := (IsN.put HP.out (IsN.put HP.out (IsN.put HP.out I1.out 5 (.int .i64 0) (Mo.mk M.bad M.good M.silent M.side 0 M.state (keep 16 M.h false)) rfl rfl) 4 (.int .i64 (M.side + 1)) (Mo.mk M.bad M.good M.silent (M.side + 1) 0 M.state (keep 16 M.h false)) rfl rfl) 4 (.int .i64 0) (Mo.mk M.bad M.good M.silent 0 0 M.state (keep 16 M.h false)) rfl rfl)
        have f2 := (fr2 (i := 4) (fr2 (i := 4) (fr2 (i := 5) F1.out (.int .i64 0)) (.int .i64 (M.side + 1))) (.int .i64 0))
        rw [← HH.out] at i2
        clear c0 c1 c2 c3 c4 c5 c6 f4 f5 f6 I1 F1
        generalize ((w1.setCell ⟨p, 5, none⟩ (.int .i64 0)).setCell ⟨p, 4, none⟩ (.int .i64 (M.side + 1))).setCell ⟨p, 4, none⟩ (.int .i64 0) = w2 at i2 f2 ⊢
        have I2 := Aside0.mk i2
        have F2 := Aside0.mk f2
        have c0 := i2.tab.at_ 0 (v := .int .i64 M.bad) rfl
        have c1 := i2.tab.at_ 1 (v := .int .i64 M.good) rfl
        have c3 := i2.tab.at_ 3 (v := .pointer (some ⟨r, 0, none⟩)) rfl
        have c4 := i2.tab.at_ 4 (v := .int .i64 0) rfl
        have f4 := i2.tab.frozen 4
        have c6 := i2.tab.at_ 6 (v := .int .i64 M.state) rfl
        have f6 := i2.tab.frozen 6
        clear i2 f2
        (with_reducible refine (badr_ok B r 16 h2 HL.out _ I2.out.win).mono ?_)
        rintro e wK ⟨rfl, rfl⟩
        rw [← HZ.out]
        go_wp2_with fail
        go_region
        have I3 := Aside0.mk (I2.out.below (below_drew (Below.refl _ _)))
        have F3 := Aside0.mk (F2.out.comp (Fr.of_below (below_drew (Below.refl _ _))))
        clear I2 F2
        go_wp2_with fail
        first | go_ret | go_ret2 | ((try simp only [Exit.inBlock, Exit.then]); refine bodyPost_ret (results_tmp3 rfl _ _ _) rfl ?_) | go_end0 | refine bodyPost_ret0 rfl rfl ?_
        exact ⟨by rw [EE.out]; rfl, by rw [EE.out]; exact (IsN.put HP.out I3.out 6 (.int .i64 2) (Mo.mk M.bad M.good M.silent 0 0 2 h2) rfl rfl), fr2 (i := 6) F3.out _⟩
      · obtain ⟨x1, x2⟩ := b1 h0
        have x3 : ¬ M.good ≤ 0 := fun h => h1 ⟨h0, h⟩
        clear h0 h1
        have EE := Aside0.mk (EN.out.trans e)
        clear EN e b0 b1 e0 e1
        go_enter Try.func17, Try.ntmps17
        go_wp2_with (first
              | (go_at_call 29; (with_reducible refine (win_noter w B p r M false HK.out HB.out HP.out HR.out I0.out).mono ?_); rintro e w1 ⟨rfl, i1, f1⟩; have I1 := Aside0.mk i1; have F1 := Aside0.mk f1; have c0 := i1.tab.at_ 0 (v := .int .i64 M.bad) rfl; have c1 := i1.tab.at_ 1 (v := .int .i64 M.good) rfl; have c2 := i1.tab.at_ 2 (v := .int .i64 M.silent) rfl; have c3 := i1.tab.at_ 3 (v := .pointer (some ⟨r, 0, none⟩)) rfl; have c4 := i1.tab.at_ 4 (v := .int .i64 M.side) rfl; have f4 := i1.tab.frozen 4; have c5 := i1.tab.at_ 5 (v := .int .i64 M.quiet) rfl; have f5 := i1.tab.frozen 5; have c6 := i1.tab.at_ 6 (v := .int .i64 M.state) rfl; have f6 := i1.tab.frozen 6; clear i1 f1))
        have i2 := (IsN.put HP.out (IsN.put HP.out (IsN.put HP.out I1.out 5 (.int .i64 0) (Mo.mk M.bad M.good M.silent M.side 0 M.state (keep 16 M.h false)) rfl rfl) 4 (.int .i64 (M.side + 1)) (Mo.mk M.bad M.good M.silent (M.side + 1) 0 M.state (keep 16 M.h false)) rfl rfl) 4 (.int .i64 0) (Mo.mk M.bad M.good M.silent 0 0 M.state (keep 16 M.h false)) rfl rfl)
        have f2 := (fr2 (i := 4) (fr2 (i := 4) (fr2 (i := 5) F1.out (.int .i64 0)) (.int .i64 (M.side + 1))) (.int .i64 0))
        rw [← HH.out] at i2
        clear c0 c1 c2 c3 c4 c5 c6 f4 f5 f6 I1 F1
        generalize ((w1.setCell ⟨p, 5, none⟩ (.int .i64 0)).setCell ⟨p, 4, none⟩ (.int .i64 (M.side + 1))).setCell ⟨p, 4, none⟩ (.int .i64 0) = w2 at i2 f2 ⊢
        have I2 := Aside0.mk i2
        have F2 := Aside0.mk f2
        have c0 := i2.tab.at_ 0 (v := .int .i64 M.bad) rfl
        have c1 := i2.tab.at_ 1 (v := .int .i64 M.good) rfl
        have c3 := i2.tab.at_ 3 (v := .pointer (some ⟨r, 0, none⟩)) rfl
        have c4 := i2.tab.at_ 4 (v := .int .i64 0) rfl
        have f4 := i2.tab.frozen 4
        have c6 := i2.tab.at_ 6 (v := .int .i64 M.state) rfl
        have f6 := i2.tab.frozen 6
        clear i2 f2
        (with_reducible refine (badr_ok B r 16 h2 HL.out _ I2.out.win).mono ?_)
        rintro e wK ⟨rfl, rfl⟩
        rw [← HZ.out]
        go_wp2_with fail
        go_region
        have I3 := Aside0.mk (I2.out.below (below_drew (Below.refl _ _)))
        have F3 := Aside0.mk (F2.out.comp (Fr.of_below (below_drew (Below.refl _ _))))
        clear I2 F2
        go_wp2_with fail
        first | go_ret | go_ret2 | ((try simp only [Exit.inBlock, Exit.then]); refine bodyPost_ret (results_tmp3 rfl _ _ _) rfl ?_) | go_end0 | refine bodyPost_ret0 rfl rfl ?_
        exact ⟨by rw [EE.out]; rfl, by rw [EE.out]; exact (IsN.put HP.out I3.out 6 (.int .i64 2) (Mo.mk M.bad M.good M.silent 0 0 2 h2) rfl rfl), fr2 (i := 6) F3.out _⟩
    · obtain ⟨x1, x2⟩ := b0 h5
      clear h5 h1
      have EE := Aside0.mk (EN.out.trans e)
      clear EN e b0 b1 e0 e1
      go_enter Try.func17, Try.ntmps17
      go_wp2_with (first
            | (go_at_call 29; (with_reducible refine (win_noter w B p r M false HK.out HB.out HP.out HR.out I0.out).mono ?_); rintro e w1 ⟨rfl, i1, f1⟩; have I1 := Aside0.mk i1; have F1 := Aside0.mk f1; have c0 := i1.tab.at_ 0 (v := .int .i64 M.bad) rfl; have c1 := i1.tab.at_ 1 (v := .int .i64 M.good) rfl; have c2 := i1.tab.at_ 2 (v := .int .i64 M.silent) rfl; have c3 := i1.tab.at_ 3 (v := .pointer (some ⟨r, 0, none⟩)) rfl; have c4 := i1.tab.at_ 4 (v := .int .i64 M.side) rfl; have f4 := i1.tab.frozen 4; have c5 := i1.tab.at_ 5 (v := .int .i64 M.quiet) rfl; have f5 := i1.tab.frozen 5; have c6 := i1.tab.at_ 6 (v := .int .i64 M.state) rfl; have f6 := i1.tab.frozen 6; clear i1 f1))
      have i2 := (IsN.put HP.out (IsN.put HP.out (IsN.put HP.out I1.out 5 (.int .i64 0) (Mo.mk M.bad M.good M.silent M.side 0 M.state (keep 16 M.h false)) rfl rfl) 4 (.int .i64 (M.side + 1)) (Mo.mk M.bad M.good M.silent (M.side + 1) 0 M.state (keep 16 M.h false)) rfl rfl) 4 (.int .i64 0) (Mo.mk M.bad M.good M.silent 0 0 M.state (keep 16 M.h false)) rfl rfl)
      have f2 := (fr2 (i := 4) (fr2 (i := 4) (fr2 (i := 5) F1.out (.int .i64 0)) (.int .i64 (M.side + 1))) (.int .i64 0))
      rw [← HH.out] at i2
      clear c0 c1 c2 c3 c4 c5 c6 f4 f5 f6 I1 F1
      generalize ((w1.setCell ⟨p, 5, none⟩ (.int .i64 0)).setCell ⟨p, 4, none⟩ (.int .i64 (M.side + 1))).setCell ⟨p, 4, none⟩ (.int .i64 0) = w2 at i2 f2 ⊢
      have I2 := Aside0.mk i2
      have F2 := Aside0.mk f2
      have c0 := i2.tab.at_ 0 (v := .int .i64 M.bad) rfl
      have c1 := i2.tab.at_ 1 (v := .int .i64 M.good) rfl
      have c3 := i2.tab.at_ 3 (v := .pointer (some ⟨r, 0, none⟩)) rfl
      have c4 := i2.tab.at_ 4 (v := .int .i64 0) rfl
      have f4 := i2.tab.frozen 4
      have c6 := i2.tab.at_ 6 (v := .int .i64 M.state) rfl
      have f6 := i2.tab.frozen 6
      clear i2 f2
      (with_reducible refine (badr_ok B r 16 h2 HL.out _ I2.out.win).mono ?_)
      rintro e wK ⟨rfl, rfl⟩
      rw [← HZ.out]
      go_wp2_with fail
      go_region
      have I3 := Aside0.mk (I2.out.below (below_drew (Below.refl _ _)))
      have F3 := Aside0.mk (F2.out.comp (Fr.of_below (below_drew (Below.refl _ _))))
      clear I2 F2
      go_wp2_with fail
      first | go_ret | go_ret2 | ((try simp only [Exit.inBlock, Exit.then]); refine bodyPost_ret (results_tmp3 rfl _ _ _) rfl ?_) | go_end0 | refine bodyPost_ret0 rfl rfl ?_
      exact ⟨by rw [EE.out]; rfl, by rw [EE.out]; exact (IsN.put HP.out I3.out 6 (.int .i64 1) (Mo.mk M.bad M.good M.silent 0 0 1 h2) rfl rfl), fr2 (i := 6) F3.out _⟩
    · by_cases h0 : M.state = 0
      · obtain ⟨x1, x2⟩ := b0 h0
        have x4 : ¬ half ≤ z := fun h => h4 ⟨h, h0⟩
        clear h0 h1 h4
        have EE := Aside0.mk (EN.out.trans e)
        clear EN e b0 b1 e0 e1
        go_enter Try.func17, Try.ntmps17
        go_wp2_with (first
              | (go_at_call 29; (with_reducible refine (win_noter w B p r M false HK.out HB.out HP.out HR.out I0.out).mono ?_); rintro e w1 ⟨rfl, i1, f1⟩; have I1 := Aside0.mk i1; have F1 := Aside0.mk f1; have c0 := i1.tab.at_ 0 (v := .int .i64 M.bad) rfl; have c1 := i1.tab.at_ 1 (v := .int .i64 M.good) rfl; have c2 := i1.tab.at_ 2 (v := .int .i64 M.silent) rfl; have c3 := i1.tab.at_ 3 (v := .pointer (some ⟨r, 0, none⟩)) rfl; have c4 := i1.tab.at_ 4 (v := .int .i64 M.side) rfl; have f4 := i1.tab.frozen 4; have c5 := i1.tab.at_ 5 (v := .int .i64 M.quiet) rfl; have f5 := i1.tab.frozen 5; have c6 := i1.tab.at_ 6 (v := .int .i64 M.state) rfl; have f6 := i1.tab.frozen 6; clear i1 f1))
        have i2 := (IsN.put HP.out (IsN.put HP.out (IsN.put HP.out I1.out 5 (.int .i64 0) (Mo.mk M.bad M.good M.silent M.side 0 M.state (keep 16 M.h false)) rfl rfl) 4 (.int .i64 (M.side + 1)) (Mo.mk M.bad M.good M.silent (M.side + 1) 0 M.state (keep 16 M.h false)) rfl rfl) 4 (.int .i64 0) (Mo.mk M.bad M.good M.silent 0 0 M.state (keep 16 M.h false)) rfl rfl)
        have f2 := (fr2 (i := 4) (fr2 (i := 4) (fr2 (i := 5) F1.out (.int .i64 0)) (.int .i64 (M.side + 1))) (.int .i64 0))
        rw [← HH.out] at i2
        clear c0 c1 c2 c3 c4 c5 c6 f4 f5 f6 I1 F1
        generalize ((w1.setCell ⟨p, 5, none⟩ (.int .i64 0)).setCell ⟨p, 4, none⟩ (.int .i64 (M.side + 1))).setCell ⟨p, 4, none⟩ (.int .i64 0) = w2 at i2 f2 ⊢
        have I2 := Aside0.mk i2
        have F2 := Aside0.mk f2
        have c0 := i2.tab.at_ 0 (v := .int .i64 M.bad) rfl
        have c1 := i2.tab.at_ 1 (v := .int .i64 M.good) rfl
        have c3 := i2.tab.at_ 3 (v := .pointer (some ⟨r, 0, none⟩)) rfl
        have c4 := i2.tab.at_ 4 (v := .int .i64 0) rfl
        have f4 := i2.tab.frozen 4
        have c6 := i2.tab.at_ 6 (v := .int .i64 M.state) rfl
        have f6 := i2.tab.frozen 6
        clear i2 f2
        (with_reducible refine (badr_ok B r 16 h2 HL.out _ I2.out.win).mono ?_)
        rintro e wK ⟨rfl, rfl⟩
        rw [← HZ.out]
        go_wp2_with fail
        go_region
        have I3 := Aside0.mk (I2.out.below (below_drew (Below.refl _ _)))
        have F3 := Aside0.mk (F2.out.comp (Fr.of_below (below_drew (Below.refl _ _))))
        clear I2 F2
        go_wp2_with fail
        first | go_ret | go_ret2 | ((try simp only [Exit.inBlock, Exit.then]); refine bodyPost_ret (results_tmp3 rfl _ _ _) rfl ?_) | go_end0 | refine bodyPost_ret0 rfl rfl ?_
        exact ⟨by rw [EE.out]; rfl, by rw [EE.out]; exact I3.out, F3.out⟩
      · by_cases h5 : half ≤ z
        · obtain ⟨x1, x2⟩ := b1 h0
          have x3 : ¬ M.good ≤ 0 := fun h => h1 ⟨h0, h⟩
          clear h0 h1 h4
          have EE := Aside0.mk (EN.out.trans e)
          clear EN e b0 b1 e0 e1
          go_enter Try.func17, Try.ntmps17
          go_wp2_with (first
                | (go_at_call 29; (with_reducible refine (win_noter w B p r M false HK.out HB.out HP.out HR.out I0.out).mono ?_); rintro e w1 ⟨rfl, i1, f1⟩; have I1 := Aside0.mk i1; have F1 := Aside0.mk f1; have c0 := i1.tab.at_ 0 (v := .int .i64 M.bad) rfl; have c1 := i1.tab.at_ 1 (v := .int .i64 M.good) rfl; have c2 := i1.tab.at_ 2 (v := .int .i64 M.silent) rfl; have c3 := i1.tab.at_ 3 (v := .pointer (some ⟨r, 0, none⟩)) rfl; have c4 := i1.tab.at_ 4 (v := .int .i64 M.side) rfl; have f4 := i1.tab.frozen 4; have c5 := i1.tab.at_ 5 (v := .int .i64 M.quiet) rfl; have f5 := i1.tab.frozen 5; have c6 := i1.tab.at_ 6 (v := .int .i64 M.state) rfl; have f6 := i1.tab.frozen 6; clear i1 f1))
          have i2 := (IsN.put HP.out (IsN.put HP.out (IsN.put HP.out I1.out 5 (.int .i64 0) (Mo.mk M.bad M.good M.silent M.side 0 M.state (keep 16 M.h false)) rfl rfl) 4 (.int .i64 (M.side + 1)) (Mo.mk M.bad M.good M.silent (M.side + 1) 0 M.state (keep 16 M.h false)) rfl rfl) 4 (.int .i64 0) (Mo.mk M.bad M.good M.silent 0 0 M.state (keep 16 M.h false)) rfl rfl)
          have f2 := (fr2 (i := 4) (fr2 (i := 4) (fr2 (i := 5) F1.out (.int .i64 0)) (.int .i64 (M.side + 1))) (.int .i64 0))
          rw [← HH.out] at i2
          clear c0 c1 c2 c3 c4 c5 c6 f4 f5 f6 I1 F1
          generalize ((w1.setCell ⟨p, 5, none⟩ (.int .i64 0)).setCell ⟨p, 4, none⟩ (.int .i64 (M.side + 1))).setCell ⟨p, 4, none⟩ (.int .i64 0) = w2 at i2 f2 ⊢
          have I2 := Aside0.mk i2
          have F2 := Aside0.mk f2
          have c0 := i2.tab.at_ 0 (v := .int .i64 M.bad) rfl
          have c1 := i2.tab.at_ 1 (v := .int .i64 M.good) rfl
          have c3 := i2.tab.at_ 3 (v := .pointer (some ⟨r, 0, none⟩)) rfl
          have c4 := i2.tab.at_ 4 (v := .int .i64 0) rfl
          have f4 := i2.tab.frozen 4
          have c6 := i2.tab.at_ 6 (v := .int .i64 M.state) rfl
          have f6 := i2.tab.frozen 6
          clear i2 f2
          (with_reducible refine (badr_ok B r 16 h2 HL.out _ I2.out.win).mono ?_)
          rintro e wK ⟨rfl, rfl⟩
          rw [← HZ.out]
          go_wp2_with fail
          go_region
          have I3 := Aside0.mk (I2.out.below (below_drew (Below.refl _ _)))
          have F3 := Aside0.mk (F2.out.comp (Fr.of_below (below_drew (Below.refl _ _))))
          clear I2 F2
          go_wp2_with fail
          first | go_ret | go_ret2 | ((try simp only [Exit.inBlock, Exit.then]); refine bodyPost_ret (results_tmp3 rfl _ _ _) rfl ?_) | go_end0 | refine bodyPost_ret0 rfl rfl ?_
          exact ⟨by rw [EE.out]; rfl, by rw [EE.out]; exact I3.out, F3.out⟩
        · obtain ⟨x1, x2⟩ := b1 h0
          have x3 : ¬ M.good ≤ 0 := fun h => h1 ⟨h0, h⟩
          clear h0 h1 h4
          have EE := Aside0.mk (EN.out.trans e)
          clear EN e b0 b1 e0 e1
          go_enter Try.func17, Try.ntmps17
          go_wp2_with (first
                | (go_at_call 29; (with_reducible refine (win_noter w B p r M false HK.out HB.out HP.out HR.out I0.out).mono ?_); rintro e w1 ⟨rfl, i1, f1⟩; have I1 := Aside0.mk i1; have F1 := Aside0.mk f1; have c0 := i1.tab.at_ 0 (v := .int .i64 M.bad) rfl; have c1 := i1.tab.at_ 1 (v := .int .i64 M.good) rfl; have c2 := i1.tab.at_ 2 (v := .int .i64 M.silent) rfl; have c3 := i1.tab.at_ 3 (v := .pointer (some ⟨r, 0, none⟩)) rfl; have c4 := i1.tab.at_ 4 (v := .int .i64 M.side) rfl; have f4 := i1.tab.frozen 4; have c5 := i1.tab.at_ 5 (v := .int .i64 M.quiet) rfl; have f5 := i1.tab.frozen 5; have c6 := i1.tab.at_ 6 (v := .int .i64 M.state) rfl; have f6 := i1.tab.frozen 6; clear i1 f1))
          have i2 := (IsN.put HP.out (IsN.put HP.out (IsN.put HP.out I1.out 5 (.int .i64 0) (Mo.mk M.bad M.good M.silent M.side 0 M.state (keep 16 M.h false)) rfl rfl) 4 (.int .i64 (M.side + 1)) (Mo.mk M.bad M.good M.silent (M.side + 1) 0 M.state (keep 16 M.h false)) rfl rfl) 4 (.int .i64 0) (Mo.mk M.bad M.good M.silent 0 0 M.state (keep 16 M.h false)) rfl rfl)
          have f2 := (fr2 (i := 4) (fr2 (i := 4) (fr2 (i := 5) F1.out (.int .i64 0)) (.int .i64 (M.side + 1))) (.int .i64 0))
          rw [← HH.out] at i2
          clear c0 c1 c2 c3 c4 c5 c6 f4 f5 f6 I1 F1
          generalize ((w1.setCell ⟨p, 5, none⟩ (.int .i64 0)).setCell ⟨p, 4, none⟩ (.int .i64 (M.side + 1))).setCell ⟨p, 4, none⟩ (.int .i64 0) = w2 at i2 f2 ⊢
          have I2 := Aside0.mk i2
          have F2 := Aside0.mk f2
          have c0 := i2.tab.at_ 0 (v := .int .i64 M.bad) rfl
          have c1 := i2.tab.at_ 1 (v := .int .i64 M.good) rfl
          have c3 := i2.tab.at_ 3 (v := .pointer (some ⟨r, 0, none⟩)) rfl
          have c4 := i2.tab.at_ 4 (v := .int .i64 0) rfl
          have f4 := i2.tab.frozen 4
          have c6 := i2.tab.at_ 6 (v := .int .i64 M.state) rfl
          have f6 := i2.tab.frozen 6
          clear i2 f2
          (with_reducible refine (badr_ok B r 16 h2 HL.out _ I2.out.win).mono ?_)
          rintro e wK ⟨rfl, rfl⟩
          rw [← HZ.out]
          go_wp2_with fail
          go_region
          have I3 := Aside0.mk (I2.out.below (below_drew (Below.refl _ _)))
          have F3 := Aside0.mk (F2.out.comp (Fr.of_below (below_drew (Below.refl _ _))))
          clear I2 F2
          go_wp2_with fail
          first | go_ret | go_ret2 | ((try simp only [Exit.inBlock, Exit.then]); refine bodyPost_ret (results_tmp3 rfl _ _ _) rfl ?_) | go_end0 | refine bodyPost_ret0 rfl rfl ?_
          exact ⟨by rw [EE.out]; rfl, by rw [EE.out]; exact I3.out, F3.out⟩
  · obtain rfl : s = M.side + 1 := e1 rfl
    rcases key with ⟨h1, h3, e⟩ | ⟨h1, h3, e⟩ | ⟨h1, h3, h4, h5, e⟩ | ⟨h1, h3, h4, e⟩
    · obtain ⟨x1, x2⟩ := b1 h1
      clear h1
      have EE := Aside0.mk (EN.out.trans e)
      clear EN e b0 b1 e0 e1
      go_enter Try.func17, Try.ntmps17
      go_wp2_with (first
            | (go_at_call 29; (with_reducible refine (win_noter w B p r M true HK.out HB.out HP.out HR.out I0.out).mono ?_); rintro e w1 ⟨rfl, i1, f1⟩; have I1 := Aside0.mk i1; have F1 := Aside0.mk f1; have c0 := i1.tab.at_ 0 (v := .int .i64 M.bad) rfl; have c1 := i1.tab.at_ 1 (v := .int .i64 M.good) rfl; have c2 := i1.tab.at_ 2 (v := .int .i64 M.silent) rfl; have c3 := i1.tab.at_ 3 (v := .pointer (some ⟨r, 0, none⟩)) rfl; have c4 := i1.tab.at_ 4 (v := .int .i64 M.side) rfl; have f4 := i1.tab.frozen 4; have c5 := i1.tab.at_ 5 (v := .int .i64 M.quiet) rfl; have f5 := i1.tab.frozen 5; have c6 := i1.tab.at_ 6 (v := .int .i64 M.state) rfl; have f6 := i1.tab.frozen 6; clear i1 f1))
      have i2 := (IsN.put HP.out (IsN.put HP.out I1.out 5 (.int .i64 0) (Mo.mk M.bad M.good M.silent M.side 0 M.state (keep 16 M.h true)) rfl rfl) 4 (.int .i64 (M.side + 1)) (Mo.mk M.bad M.good M.silent (M.side + 1) 0 M.state (keep 16 M.h true)) rfl rfl)
      have f2 := (fr2 (i := 4) (fr2 (i := 5) F1.out (.int .i64 0)) (.int .i64 (M.side + 1)))
      rw [← HH.out] at i2
      clear c0 c1 c2 c3 c4 c5 c6 f4 f5 f6 I1 F1
      generalize (w1.setCell ⟨p, 5, none⟩ (.int .i64 0)).setCell ⟨p, 4, none⟩ (.int .i64 (M.side + 1)) = w2 at i2 f2 ⊢
      have I2 := Aside0.mk i2
      have F2 := Aside0.mk f2
      have c0 := i2.tab.at_ 0 (v := .int .i64 M.bad) rfl
      have c1 := i2.tab.at_ 1 (v := .int .i64 M.good) rfl
      have c3 := i2.tab.at_ 3 (v := .pointer (some ⟨r, 0, none⟩)) rfl
      have c4 := i2.tab.at_ 4 (v := .int .i64 (M.side + 1)) rfl
      have f4 := i2.tab.frozen 4
      have c6 := i2.tab.at_ 6 (v := .int .i64 M.state) rfl
      have f6 := i2.tab.frozen 6
      clear i2 f2
      (with_reducible refine (badr_ok B r 16 h2 HL.out _ I2.out.win).mono ?_)
      rintro e wK ⟨rfl, rfl⟩
      rw [← HZ.out]
      go_wp2_with fail
      go_region
      have I3 := Aside0.mk (I2.out.below (below_drew (Below.refl _ _)))
      have F3 := Aside0.mk (F2.out.comp (Fr.of_below (below_drew (Below.refl _ _))))
      clear I2 F2
      go_wp2_with (first
      | (go_at_call 31; (with_reducible refine (win_clearr _ B p r (Mo.mk M.bad M.good M.silent (M.side + 1) 0 M.state h2) I3.out).mono ?_); rintro e w4 ⟨rfl, i4, f4⟩; have I4 := Aside0.mk i4; have F4 := Aside0.mk (F3.out.comp f4); have c6 := i4.tab.at_ 6 (v := .int .i64 M.state) rfl; have g6 := i4.tab.frozen 6; clear i4 f4))
      first | go_ret | go_ret2 | ((try simp only [Exit.inBlock, Exit.then]); refine bodyPost_ret (results_tmp3 rfl _ _ _) rfl ?_) | go_end0 | refine bodyPost_ret0 rfl rfl ?_
      exact ⟨by rw [EE.out]; rfl, by rw [EE.out]; exact (IsN.put HP.out I4.out 6 (.int .i64 0) (Mo.mk M.bad M.good M.silent (M.side + 1) 0 0 []) rfl rfl), fr2 (i := 6) F4.out _⟩
    · by_cases h0 : M.state = 0
      · obtain ⟨x1, x2⟩ := b0 h0
        clear h0 h1
        have EE := Aside0.mk (EN.out.trans e)
        clear EN e b0 b1 e0 e1
        go_enter Try.func17, Try.ntmps17
        go_wp2_with (first
              | (go_at_call 29; (with_reducible refine (win_noter w B p r M true HK.out HB.out HP.out HR.out I0.out).mono ?_); rintro e w1 ⟨rfl, i1, f1⟩; have I1 := Aside0.mk i1; have F1 := Aside0.mk f1; have c0 := i1.tab.at_ 0 (v := .int .i64 M.bad) rfl; have c1 := i1.tab.at_ 1 (v := .int .i64 M.good) rfl; have c2 := i1.tab.at_ 2 (v := .int .i64 M.silent) rfl; have c3 := i1.tab.at_ 3 (v := .pointer (some ⟨r, 0, none⟩)) rfl; have c4 := i1.tab.at_ 4 (v := .int .i64 M.side) rfl; have f4 := i1.tab.frozen 4; have c5 := i1.tab.at_ 5 (v := .int .i64 M.quiet) rfl; have f5 := i1.tab.frozen 5; have c6 := i1.tab.at_ 6 (v := .int .i64 M.state) rfl; have f6 := i1.tab.frozen 6; clear i1 f1))
        have i2 := (IsN.put HP.out (IsN.put HP.out I1.out 5 (.int .i64 0) (Mo.mk M.bad M.good M.silent M.side 0 M.state (keep 16 M.h true)) rfl rfl) 4 (.int .i64 (M.side + 1)) (Mo.mk M.bad M.good M.silent (M.side + 1) 0 M.state (keep 16 M.h true)) rfl rfl)
        have f2 := (fr2 (i := 4) (fr2 (i := 5) F1.out (.int .i64 0)) (.int .i64 (M.side + 1)))
        rw [← HH.out] at i2
        clear c0 c1 c2 c3 c4 c5 c6 f4 f5 f6 I1 F1
        generalize (w1.setCell ⟨p, 5, none⟩ (.int .i64 0)).setCell ⟨p, 4, none⟩ (.int .i64 (M.side + 1)) = w2 at i2 f2 ⊢
        have I2 := Aside0.mk i2
        have F2 := Aside0.mk f2
        have c0 := i2.tab.at_ 0 (v := .int .i64 M.bad) rfl
        have c1 := i2.tab.at_ 1 (v := .int .i64 M.good) rfl
        have c3 := i2.tab.at_ 3 (v := .pointer (some ⟨r, 0, none⟩)) rfl
        have c4 := i2.tab.at_ 4 (v := .int .i64 (M.side + 1)) rfl
        have f4 := i2.tab.frozen 4
        have c6 := i2.tab.at_ 6 (v := .int .i64 M.state) rfl
        have f6 := i2.tab.frozen 6
        clear i2 f2
        (with_reducible refine (badr_ok B r 16 h2 HL.out _ I2.out.win).mono ?_)
        rintro e wK ⟨rfl, rfl⟩
        rw [← HZ.out]
        go_wp2_with fail
        go_region
        have I3 := Aside0.mk (I2.out.below (below_drew (Below.refl _ _)))
        have F3 := Aside0.mk (F2.out.comp (Fr.of_below (below_drew (Below.refl _ _))))
        clear I2 F2
        go_wp2_with fail
        first | go_ret | go_ret2 | ((try simp only [Exit.inBlock, Exit.then]); refine bodyPost_ret (results_tmp3 rfl _ _ _) rfl ?_) | go_end0 | refine bodyPost_ret0 rfl rfl ?_
        exact ⟨by rw [EE.out]; rfl, by rw [EE.out]; exact (IsN.put HP.out I3.out 6 (.int .i64 2) (Mo.mk M.bad M.good M.silent (M.side + 1) 0 2 h2) rfl rfl), fr2 (i := 6) F3.out _⟩
      · obtain ⟨x1, x2⟩ := b1 h0
        have x3 : ¬ M.good ≤ (M.side + 1) := fun h => h1 ⟨h0, h⟩
        clear h0 h1
        have EE := Aside0.mk (EN.out.trans e)
        clear EN e b0 b1 e0 e1
        go_enter Try.func17, Try.ntmps17
        go_wp2_with (first
              | (go_at_call 29; (with_reducible refine (win_noter w B p r M true HK.out HB.out HP.out HR.out I0.out).mono ?_); rintro e w1 ⟨rfl, i1, f1⟩; have I1 := Aside0.mk i1; have F1 := Aside0.mk f1; have c0 := i1.tab.at_ 0 (v := .int .i64 M.bad) rfl; have c1 := i1.tab.at_ 1 (v := .int .i64 M.good) rfl; have c2 := i1.tab.at_ 2 (v := .int .i64 M.silent) rfl; have c3 := i1.tab.at_ 3 (v := .pointer (some ⟨r, 0, none⟩)) rfl; have c4 := i1.tab.at_ 4 (v := .int .i64 M.side) rfl; have f4 := i1.tab.frozen 4; have c5 := i1.tab.at_ 5 (v := .int .i64 M.quiet) rfl; have f5 := i1.tab.frozen 5; have c6 := i1.tab.at_ 6 (v := .int .i64 M.state) rfl; have f6 := i1.tab.frozen 6; clear i1 f1))
        have i2 := (IsN.put HP.out (IsN.put HP.out I1.out 5 (.int .i64 0) (Mo.mk M.bad M.good M.silent M.side 0 M.state (keep 16 M.h true)) rfl rfl) 4 (.int .i64 (M.side + 1)) (Mo.mk M.bad M.good M.silent (M.side + 1) 0 M.state (keep 16 M.h true)) rfl rfl)
        have f2 := (fr2 (i := 4) (fr2 (i := 5) F1.out (.int .i64 0)) (.int .i64 (M.side + 1)))
        rw [← HH.out] at i2
        clear c0 c1 c2 c3 c4 c5 c6 f4 f5 f6 I1 F1
        generalize (w1.setCell ⟨p, 5, none⟩ (.int .i64 0)).setCell ⟨p, 4, none⟩ (.int .i64 (M.side + 1)) = w2 at i2 f2 ⊢
        have I2 := Aside0.mk i2
        have F2 := Aside0.mk f2
        have c0 := i2.tab.at_ 0 (v := .int .i64 M.bad) rfl
        have c1 := i2.tab.at_ 1 (v := .int .i64 M.good) rfl
        have c3 := i2.tab.at_ 3 (v := .pointer (some ⟨r, 0, none⟩)) rfl
        have c4 := i2.tab.at_ 4 (v := .int .i64 (M.side + 1)) rfl
        have f4 := i2.tab.frozen 4
        have c6 := i2.tab.at_ 6 (v := .int .i64 M.state) rfl
        have f6 := i2.tab.frozen 6
        clear i2 f2
        (with_reducible refine (badr_ok B r 16 h2 HL.out _ I2.out.win).mono ?_)
        rintro e wK ⟨rfl, rfl⟩
        rw [← HZ.out]
        go_wp2_with fail
        go_region
        have I3 := Aside0.mk (I2.out.below (below_drew (Below.refl _ _)))
        have F3 := Aside0.mk (F2.out.comp (Fr.of_below (below_drew (Below.refl _ _))))
        clear I2 F2
        go_wp2_with fail
        first | go_ret | go_ret2 | ((try simp only [Exit.inBlock, Exit.then]); refine bodyPost_ret (results_tmp3 rfl _ _ _) rfl ?_) | go_end0 | refine bodyPost_ret0 rfl rfl ?_
        exact ⟨by rw [EE.out]; rfl, by rw [EE.out]; exact (IsN.put HP.out I3.out 6 (.int .i64 2) (Mo.mk M.bad M.good M.silent (M.side + 1) 0 2 h2) rfl rfl), fr2 (i := 6) F3.out _⟩
    · obtain ⟨x1, x2⟩ := b0 h5
      clear h5 h1
      have EE := Aside0.mk (EN.out.trans e)
      clear EN e b0 b1 e0 e1
      go_enter Try.func17, Try.ntmps17
      go_wp2_with (first
            | (go_at_call 29; (with_reducible refine (win_noter w B p r M true HK.out HB.out HP.out HR.out I0.out).mono ?_); rintro e w1 ⟨rfl, i1, f1⟩; have I1 := Aside0.mk i1; have F1 := Aside0.mk f1; have c0 := i1.tab.at_ 0 (v := .int .i64 M.bad) rfl; have c1 := i1.tab.at_ 1 (v := .int .i64 M.good) rfl; have c2 := i1.tab.at_ 2 (v := .int .i64 M.silent) rfl; have c3 := i1.tab.at_ 3 (v := .pointer (some ⟨r, 0, none⟩)) rfl; have c4 := i1.tab.at_ 4 (v := .int .i64 M.side) rfl; have f4 := i1.tab.frozen 4; have c5 := i1.tab.at_ 5 (v := .int .i64 M.quiet) rfl; have f5 := i1.tab.frozen 5; have c6 := i1.tab.at_ 6 (v := .int .i64 M.state) rfl; have f6 := i1.tab.frozen 6; clear i1 f1))
      have i2 := (IsN.put HP.out (IsN.put HP.out I1.out 5 (.int .i64 0) (Mo.mk M.bad M.good M.silent M.side 0 M.state (keep 16 M.h true)) rfl rfl) 4 (.int .i64 (M.side + 1)) (Mo.mk M.bad M.good M.silent (M.side + 1) 0 M.state (keep 16 M.h true)) rfl rfl)
      have f2 := (fr2 (i := 4) (fr2 (i := 5) F1.out (.int .i64 0)) (.int .i64 (M.side + 1)))
      rw [← HH.out] at i2
      clear c0 c1 c2 c3 c4 c5 c6 f4 f5 f6 I1 F1
      generalize (w1.setCell ⟨p, 5, none⟩ (.int .i64 0)).setCell ⟨p, 4, none⟩ (.int .i64 (M.side + 1)) = w2 at i2 f2 ⊢
      have I2 := Aside0.mk i2
      have F2 := Aside0.mk f2
      have c0 := i2.tab.at_ 0 (v := .int .i64 M.bad) rfl
      have c1 := i2.tab.at_ 1 (v := .int .i64 M.good) rfl
      have c3 := i2.tab.at_ 3 (v := .pointer (some ⟨r, 0, none⟩)) rfl
      have c4 := i2.tab.at_ 4 (v := .int .i64 (M.side + 1)) rfl
      have f4 := i2.tab.frozen 4
      have c6 := i2.tab.at_ 6 (v := .int .i64 M.state) rfl
      have f6 := i2.tab.frozen 6
      clear i2 f2
      (with_reducible refine (badr_ok B r 16 h2 HL.out _ I2.out.win).mono ?_)
      rintro e wK ⟨rfl, rfl⟩
      rw [← HZ.out]
      go_wp2_with fail
      go_region
      have I3 := Aside0.mk (I2.out.below (below_drew (Below.refl _ _)))
      have F3 := Aside0.mk (F2.out.comp (Fr.of_below (below_drew (Below.refl _ _))))
      clear I2 F2
      go_wp2_with fail
      first | go_ret | go_ret2 | ((try simp only [Exit.inBlock, Exit.then]); refine bodyPost_ret (results_tmp3 rfl _ _ _) rfl ?_) | go_end0 | refine bodyPost_ret0 rfl rfl ?_
      exact ⟨by rw [EE.out]; rfl, by rw [EE.out]; exact (IsN.put HP.out I3.out 6 (.int .i64 1) (Mo.mk M.bad M.good M.silent (M.side + 1) 0 1 h2) rfl rfl), fr2 (i := 6) F3.out _⟩
    · by_cases h0 : M.state = 0
      · obtain ⟨x1, x2⟩ := b0 h0
        have x4 : ¬ half ≤ z := fun h => h4 ⟨h, h0⟩
        clear h0 h1 h4
        have EE := Aside0.mk (EN.out.trans e)
        clear EN e b0 b1 e0 e1
        go_enter Try.func17, Try.ntmps17
        go_wp2_with (first
              | (go_at_call 29; (with_reducible refine (win_noter w B p r M true HK.out HB.out HP.out HR.out I0.out).mono ?_); rintro e w1 ⟨rfl, i1, f1⟩; have I1 := Aside0.mk i1; have F1 := Aside0.mk f1; have c0 := i1.tab.at_ 0 (v := .int .i64 M.bad) rfl; have c1 := i1.tab.at_ 1 (v := .int .i64 M.good) rfl; have c2 := i1.tab.at_ 2 (v := .int .i64 M.silent) rfl; have c3 := i1.tab.at_ 3 (v := .pointer (some ⟨r, 0, none⟩)) rfl; have c4 := i1.tab.at_ 4 (v := .int .i64 M.side) rfl; have f4 := i1.tab.frozen 4; have c5 := i1.tab.at_ 5 (v := .int .i64 M.quiet) rfl; have f5 := i1.tab.frozen 5; have c6 := i1.tab.at_ 6 (v := .int .i64 M.state) rfl; have f6 := i1.tab.frozen 6; clear i1 f1))
        have i2 := (IsN.put HP.out (IsN.put HP.out I1.out 5 (.int .i64 0) (Mo.mk M.bad M.good M.silent M.side 0 M.state (keep 16 M.h true)) rfl rfl) 4 (.int .i64 (M.side + 1)) (Mo.mk M.bad M.good M.silent (M.side + 1) 0 M.state (keep 16 M.h true)) rfl rfl)
        have f2 := (fr2 (i := 4) (fr2 (i := 5) F1.out (.int .i64 0)) (.int .i64 (M.side + 1)))
        rw [← HH.out] at i2
        clear c0 c1 c2 c3 c4 c5 c6 f4 f5 f6 I1 F1
        generalize (w1.setCell ⟨p, 5, none⟩ (.int .i64 0)).setCell ⟨p, 4, none⟩ (.int .i64 (M.side + 1)) = w2 at i2 f2 ⊢
        have I2 := Aside0.mk i2
        have F2 := Aside0.mk f2
        have c0 := i2.tab.at_ 0 (v := .int .i64 M.bad) rfl
        have c1 := i2.tab.at_ 1 (v := .int .i64 M.good) rfl
        have c3 := i2.tab.at_ 3 (v := .pointer (some ⟨r, 0, none⟩)) rfl
        have c4 := i2.tab.at_ 4 (v := .int .i64 (M.side + 1)) rfl
        have f4 := i2.tab.frozen 4
        have c6 := i2.tab.at_ 6 (v := .int .i64 M.state) rfl
        have f6 := i2.tab.frozen 6
        clear i2 f2
        (with_reducible refine (badr_ok B r 16 h2 HL.out _ I2.out.win).mono ?_)
        rintro e wK ⟨rfl, rfl⟩
        rw [← HZ.out]
        go_wp2_with fail
        go_region
        have I3 := Aside0.mk (I2.out.below (below_drew (Below.refl _ _)))
        have F3 := Aside0.mk (F2.out.comp (Fr.of_below (below_drew (Below.refl _ _))))
        clear I2 F2
        go_wp2_with fail
        first | go_ret | go_ret2 | ((try simp only [Exit.inBlock, Exit.then]); refine bodyPost_ret (results_tmp3 rfl _ _ _) rfl ?_) | go_end0 | refine bodyPost_ret0 rfl rfl ?_
        exact ⟨by rw [EE.out]; rfl, by rw [EE.out]; exact I3.out, F3.out⟩
      · by_cases h5 : half ≤ z
        · obtain ⟨x1, x2⟩ := b1 h0
          have x3 : ¬ M.good ≤ (M.side + 1) := fun h => h1 ⟨h0, h⟩
          clear h0 h1 h4
          have EE := Aside0.mk (EN.out.trans e)
          clear EN e b0 b1 e0 e1
          go_enter Try.func17, Try.ntmps17
          go_wp2_with (first
                | (go_at_call 29; (with_reducible refine (win_noter w B p r M true HK.out HB.out HP.out HR.out I0.out).mono ?_); rintro e w1 ⟨rfl, i1, f1⟩; have I1 := Aside0.mk i1; have F1 := Aside0.mk f1; have c0 := i1.tab.at_ 0 (v := .int .i64 M.bad) rfl; have c1 := i1.tab.at_ 1 (v := .int .i64 M.good) rfl; have c2 := i1.tab.at_ 2 (v := .int .i64 M.silent) rfl; have c3 := i1.tab.at_ 3 (v := .pointer (some ⟨r, 0, none⟩)) rfl; have c4 := i1.tab.at_ 4 (v := .int .i64 M.side) rfl; have f4 := i1.tab.frozen 4; have c5 := i1.tab.at_ 5 (v := .int .i64 M.quiet) rfl; have f5 := i1.tab.frozen 5; have c6 := i1.tab.at_ 6 (v := .int .i64 M.state) rfl; have f6 := i1.tab.frozen 6; clear i1 f1))
          have i2 := (IsN.put HP.out (IsN.put HP.out I1.out 5 (.int .i64 0) (Mo.mk M.bad M.good M.silent M.side 0 M.state (keep 16 M.h true)) rfl rfl) 4 (.int .i64 (M.side + 1)) (Mo.mk M.bad M.good M.silent (M.side + 1) 0 M.state (keep 16 M.h true)) rfl rfl)
          have f2 := (fr2 (i := 4) (fr2 (i := 5) F1.out (.int .i64 0)) (.int .i64 (M.side + 1)))
          rw [← HH.out] at i2
          clear c0 c1 c2 c3 c4 c5 c6 f4 f5 f6 I1 F1
          generalize (w1.setCell ⟨p, 5, none⟩ (.int .i64 0)).setCell ⟨p, 4, none⟩ (.int .i64 (M.side + 1)) = w2 at i2 f2 ⊢
          have I2 := Aside0.mk i2
          have F2 := Aside0.mk f2
          have c0 := i2.tab.at_ 0 (v := .int .i64 M.bad) rfl
          have c1 := i2.tab.at_ 1 (v := .int .i64 M.good) rfl
          have c3 := i2.tab.at_ 3 (v := .pointer (some ⟨r, 0, none⟩)) rfl
          have c4 := i2.tab.at_ 4 (v := .int .i64 (M.side + 1)) rfl
          have f4 := i2.tab.frozen 4
          have c6 := i2.tab.at_ 6 (v := .int .i64 M.state) rfl
          have f6 := i2.tab.frozen 6
          clear i2 f2
          (with_reducible refine (badr_ok B r 16 h2 HL.out _ I2.out.win).mono ?_)
          rintro e wK ⟨rfl, rfl⟩
          rw [← HZ.out]
          go_wp2_with fail
          go_region
          have I3 := Aside0.mk (I2.out.below (below_drew (Below.refl _ _)))
          have F3 := Aside0.mk (F2.out.comp (Fr.of_below (below_drew (Below.refl _ _))))
          clear I2 F2
          go_wp2_with fail
          first | go_ret | go_ret2 | ((try simp only [Exit.inBlock, Exit.then]); refine bodyPost_ret (results_tmp3 rfl _ _ _) rfl ?_) | go_end0 | refine bodyPost_ret0 rfl rfl ?_
          exact ⟨by rw [EE.out]; rfl, by rw [EE.out]; exact I3.out, F3.out⟩
        · obtain ⟨x1, x2⟩ := b1 h0
          have x3 : ¬ M.good ≤ (M.side + 1) := fun h => h1 ⟨h0, h⟩
          clear h0 h1 h4
          have EE := Aside0.mk (EN.out.trans e)
          clear EN e b0 b1 e0 e1
          go_enter Try.func17, Try.ntmps17
          go_wp2_with (first
                | (go_at_call 29; (with_reducible refine (win_noter w B p r M true HK.out HB.out HP.out HR.out I0.out).mono ?_); rintro e w1 ⟨rfl, i1, f1⟩; have I1 := Aside0.mk i1; have F1 := Aside0.mk f1; have c0 := i1.tab.at_ 0 (v := .int .i64 M.bad) rfl; have c1 := i1.tab.at_ 1 (v := .int .i64 M.good) rfl; have c2 := i1.tab.at_ 2 (v := .int .i64 M.silent) rfl; have c3 := i1.tab.at_ 3 (v := .pointer (some ⟨r, 0, none⟩)) rfl; have c4 := i1.tab.at_ 4 (v := .int .i64 M.side) rfl; have f4 := i1.tab.frozen 4; have c5 := i1.tab.at_ 5 (v := .int .i64 M.quiet) rfl; have f5 := i1.tab.frozen 5; have c6 := i1.tab.at_ 6 (v := .int .i64 M.state) rfl; have f6 := i1.tab.frozen 6; clear i1 f1))
          have i2 := (IsN.put HP.out (IsN.put HP.out I1.out 5 (.int .i64 0) (Mo.mk M.bad M.good M.silent M.side 0 M.state (keep 16 M.h true)) rfl rfl) 4 (.int .i64 (M.side + 1)) (Mo.mk M.bad M.good M.silent (M.side + 1) 0 M.state (keep 16 M.h true)) rfl rfl)
          have f2 := (fr2 (i := 4) (fr2 (i := 5) F1.out (.int .i64 0)) (.int .i64 (M.side + 1)))
          rw [← HH.out] at i2
          clear c0 c1 c2 c3 c4 c5 c6 f4 f5 f6 I1 F1
          generalize (w1.setCell ⟨p, 5, none⟩ (.int .i64 0)).setCell ⟨p, 4, none⟩ (.int .i64 (M.side + 1)) = w2 at i2 f2 ⊢
          have I2 := Aside0.mk i2
          have F2 := Aside0.mk f2
          have c0 := i2.tab.at_ 0 (v := .int .i64 M.bad) rfl
          have c1 := i2.tab.at_ 1 (v := .int .i64 M.good) rfl
          have c3 := i2.tab.at_ 3 (v := .pointer (some ⟨r, 0, none⟩)) rfl
          have c4 := i2.tab.at_ 4 (v := .int .i64 (M.side + 1)) rfl
          have f4 := i2.tab.frozen 4
          have c6 := i2.tab.at_ 6 (v := .int .i64 M.state) rfl
          have f6 := i2.tab.frozen 6
          clear i2 f2
          (with_reducible refine (badr_ok B r 16 h2 HL.out _ I2.out.win).mono ?_)
          rintro e wK ⟨rfl, rfl⟩
          rw [← HZ.out]
          go_wp2_with fail
          go_region
          have I3 := Aside0.mk (I2.out.below (below_drew (Below.refl _ _)))
          have F3 := Aside0.mk (F2.out.comp (Fr.of_below (below_drew (Below.refl _ _))))
          clear I2 F2
          go_wp2_with fail
          first | go_ret | go_ret2 | ((try simp only [Exit.inBlock, Exit.then]); refine bodyPost_ret (results_tmp3 rfl _ _ _) rfl ?_) | go_end0 | refine bodyPost_ret0 rfl rfl ?_
          exact ⟨by rw [EE.out]; rfl, by rw [EE.out]; exact I3.out, F3.out⟩

end Go.Proofs.Ytjmkddadbblblaa.MoR
