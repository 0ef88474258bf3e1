/- The law MonitorPlays. -/
import Derived.Test.YtjmkddadbblblaaMoC
namespace Go.Proofs.Ytjmkddadbblblaa.MoPlaysW
open Go.Proofs.Ytjmkddadbblblaa.MoP (Mo Ok)
open Go.RowKit Go.Proofs.YtjmkddadbblblaaW.PrintWords Go.Proofs.YtjmkddadbblblaaW.PrintLast Go.Proofs.YtjmkddadbblblaaW.PrintMore Go.Proofs.Ytjmkddadbblblaa.K Go.Proofs.Ytjmkddadbblblaa.TaP Go.Proofs.Ytjmkddadbblblaa.TaA Go.Proofs.Ytjmkddadbblblaa.TaB Go.Proofs.Ytjmkddadbblblaa.TaR Go.Proofs.Ytjmkddadbblblaa.MoA Go.Proofs.Ytjmkddadbblblaa.MoR Go.Proofs.Ytjmkddadbblblaa.MoB Go.Proofs.Ytjmkddadbblblaa.MoC
set_option linter.unusedVariables false
set_option linter.unusedSimpArgs false
attribute [local go_sem] max2_int min2_int max_two min_two

theorem row_lift {B B' n k : Nat} {w : World} {A : Option Addr} {h : List Bool} (x : RowB B w A n k h) (hh : n = 0) : RowB B' w A n k h := ⟨x.len, x.cap, fun h0 => by omega⟩
theorem isn_lift {B B' : Nat} {w : World} {p r : Nat} {M : Mo} (i : IsN B w p r M) (hh : M.h = []) : IsN B' w p r M := by
  obtain ⟨A, k, h1, h2⟩ := i.win.out
  exact ⟨i.tab, ⟨A, k, h1, row_lift h2 (by rw [hh]; rfl)⟩⟩
structure Dj (z B p g c po go co pr rr : Nat) : Prop where
  out : ∃ t1 t2, z ≤ p ∧ z ≤ g ∧ z ≤ c ∧ p < t1 ∧ g < t1 ∧ c < t1 ∧ t1 ≤ po ∧ t1 ≤ go ∧ t1 ≤ co ∧ po < t2 ∧ go < t2 ∧ co < t2 ∧ t2 ≤ pr ∧ t2 ≤ rr ∧ pr < B ∧ rr < B
structure Three (w0 : World) (B p g c po go co pr rr : Nat) (w : World) (M O R : Mo) : Prop where
  m : IsM w p g c M
  o : IsM w po go co O
  r : IsN B w pr rr R
  below : Below w0.heap.size w0 w
  size : B ≤ w.heap.size
  dj : Dj w0.heap.size B p g c po go co pr rr
section
variable {w0 w w' : World} {B p g c po go co pr rr : Nat} {M M' O R : Mo}
theorem Three.toM (h : Three w0 B p g c po go co pr rr w M O R) (i : IsM w' p g c M') (f : Fr (fun k => k = p ∨ k = g ∨ k = c) w w') : Three w0 B p g c po go co pr rr w' M' O R := by
  obtain ⟨t1, t2, q⟩ := h.dj.out
  exact ⟨i, h.o.fr f (by omega) (by omega) (by omega), h.r.fr f (by omega) (by omega) (fun j h1 h2 => by omega), Fr.above h.below h.below.size f (fun j h1 h2 => by omega), Nat.le_trans h.size f.size, h.dj⟩
theorem Three.toO (h : Three w0 B p g c po go co pr rr w M O R) (i : IsM w' po go co M') (f : Fr (fun k => k = po ∨ k = go ∨ k = co) w w') : Three w0 B p g c po go co pr rr w' M M' R := by
  obtain ⟨t1, t2, q⟩ := h.dj.out
  exact ⟨h.m.fr f (by omega) (by omega) (by omega), i, h.r.fr f (by omega) (by omega) (fun j h1 h2 => by omega), Fr.above h.below h.below.size f (fun j h1 h2 => by omega), Nat.le_trans h.size f.size, h.dj⟩
theorem Three.toR (h : Three w0 B p g c po go co pr rr w M O R) (i : IsN B w' pr rr M') (f : Fr (fun k => k = pr ∨ k = rr) w w') : Three w0 B p g c po go co pr rr w' M O M' := by
  obtain ⟨t1, t2, q⟩ := h.dj.out
  exact ⟨h.m.fr f (by omega) (by omega) (by omega), h.o.fr f (by omega) (by omega) (by omega), i, Fr.above h.below h.below.size f (fun j h1 h2 => by omega), Nat.le_trans h.size f.size, h.dj⟩
theorem Three.still (h : Three w0 B p g c po go co pr rr w M O R) (hb : Below w.heap.size w w') : Three w0 B p g c po go co pr rr w' M O R :=
  ⟨h.m.below hb, h.o.below hb, h.r.below hb, below_step h.below hb, Nat.le_trans h.size hb.size, h.dj⟩
theorem Three.prB (h : Three w0 B p g c po go co pr rr w M O R) : pr < B ∧ rr < B := by
  obtain ⟨t1, t2, q⟩ := h.dj.out
  omega
end
structure Play (M O R : Mo) (i : Nat) : Prop where
  m : Ok M
  o : Ok O
  r : Ok R
  like : MoP.Like M R
  side : R.side ≤ i
theorem pass_side (R : Mo) (n : Int) (h : 0 ≤ R.side) : (MoP.passM R n).side ≤ R.side ∧ (MoP.passM R n).h = R.h := by
  unfold MoP.passM
  split
  · exact ⟨h, rfl⟩
  · exact ⟨Int.le_refl _, rfl⟩
theorem noter_side (R : Mo) (ok : Bool) (h : 0 ≤ R.side) : (MoP.noteR R ok).side ≤ R.side + 1 := by
  have e : (MoP.noteR R ok).side = MoP.sideR R ok := by
    unfold MoP.noteR MoP.endM
    (repeat' split) <;> rfl
  rw [e]
  unfold MoP.sideR
  split <;> omega
theorem Play.pass {M O R : Mo} {i : Nat} (h : Play M O R i) (n : Int) : Play (MoP.passM M n) (MoP.noteM O false) (MoP.passM R n) (i + 1) :=
  ⟨h.m.pass n, h.o.note false, h.r.pass n, h.like.pass n, by have := (pass_side R n h.r.d0).1; have := h.side; omega⟩
theorem Play.note {M O R : Mo} {i : Nat} (h : Play M O R i) (hi : i < 200) (ok : Bool) : Play (MoP.noteM M ok) (MoP.noteM O false) (MoP.noteR R ok) (i + 1) :=
  ⟨h.m.note ok, h.o.note false, h.r.noteR ok (by have := h.side; omega), h.like.note h.m h.r.d0 ok, by have := noter_side R ok h.r.d0; have := h.side; omega⟩
theorem ordS (h : List Bool) (hl : h.length ≤ 16) : (FloatKind.f64.format.order (fl (h.count true)) (fl (h.count true)) == some .eq) = true ∧ (FloatKind.f64.format.order (fl (h.count false)) (fl (h.count false)) == some .eq) = true := by
  have := count_le h 16 hl
  exact ⟨by rw [ordE _ (by omega)]; rfl, by rw [ordE _ (by omega)]; rfl⟩
set_option maxHeartbeats 8000000 in
set_option maxRecDepth 100000 in
theorem plays_in (bad good silent : Int) (A : Option Addr) (n c0 : Nat) (l : List Int) (w : World) (hr : Rds (Kd.int .i64) w A n c0 l) (hn : n ≤ 200) :
    Calls Try.prog 7 #[.int .i64 bad, .int .i64 good, .int .i64 silent, .slice A n c0] w fun e w' => e = .returned (.bool true) ∧ Below w.heap.size w w' := by
  have HR := Aside0.mk hr
  have KN := Aside0.mk (MoP.Ok.new bad good silent)
  have KO := Aside0.mk (MoP.Ok.new 1 1 1)
  clear hr
  go_enter Try.func7, Try.ntmps7
  go_wp2_with (first
      | (go_at_call 8; have hcall := alive_ok w; (with_reducible refine hcall.mono ?_); clear hcall; rintro e w1 ⟨rfl, hb⟩; have B1 := Aside0.mk hb; clear hb)
      | (go_at_call 9; (with_reducible refine (newm_ok bad good silent w1).mono ?_); rintro e w2 ⟨p, g, c, rfl, hp, hg, hc, i, hb⟩; have G2 := Aside0.mk (And.intro hp (And.intro hg hc)); have I2 := Aside0.mk i; have B2 := Aside0.mk hb; clear hp hg hc i hb)
      | (go_at_call 9; (with_reducible refine (newm_ok 1 1 1 w2).mono ?_); rintro e w3 ⟨po, go, co, rfl, hp, hg, hc, i, hb⟩; have G3 := Aside0.mk (And.intro hp (And.intro hg hc)); have I3 := Aside0.mk i; have B3 := Aside0.mk hb; clear hp hg hc i hb)
      | (go_at_call 15; (with_reducible refine (newn_ok bad good silent 0 w3).mono ?_); rintro e w4 ⟨pr, rr, rfl, hp, hg, i, hb⟩; have G4 := Aside0.mk (And.intro hp hg); have I4 := Aside0.mk i; have B4 := Aside0.mk hb; clear hp hg i hb))
  have T0 : Aside0 (Three w w4.heap.size p g c po go co pr rr w4 (MoP.newM bad good silent) (MoP.newM 1 1 1) (MoP.newM bad good silent)) := ⟨by
    have a1 := I2.out.lt
    have a2 := I3.out.lt
    have a3 := I4.out.lt
    have a4 := G2.out
    have a5 := G3.out
    have a6 := G4.out
    have a7 := B1.out.size
    exact ⟨(I2.out.below B3.out).below B4.out, I3.out.below B4.out, isn_lift I4.out rfl, below_step (below_step (below_step B1.out B2.out) B3.out) B4.out, Nat.le_refl _, ⟨w2.heap.size, w3.heap.size, by omega⟩⟩⟩
  have P0 : Aside0 (Play (MoP.newM bad good silent) (MoP.newM 1 1 1) (MoP.newM bad good silent) 0) := ⟨KN.out, KO.out, KN.out, MoP.Like.refl (by simp [MoP.newM]), by simp [MoP.newM]⟩
  generalize w4.heap.size = B at T0
  clear I2 I3 I4 G2 G3 G4 B1 B2 B3 B4 KN KO
  go_loopg [13, 14, 15] (n + 1) (fun kq v13 v14 v15 w' => ∃ (i : Nat) (M O R : Mo), v13 = .int .i64 i ∧ i ≤ n ∧ kq = n + 1 - i ∧ Aside0 (Three w B p g c po go co pr rr w' M O R) ∧ Aside0 (Play M O R i))
  case atStart => exact ⟨0, _, _, _, rfl, by omega, by omega, T0, P0⟩
  case round =>
    clear T0 P0
    obtain ⟨i, M, O, R, rfl, hi, hkq, T3, PL⟩ := hrel
    by_cases hlt : i < n
    · obtain ⟨ad, hA, x0⟩ := (HR.out.below T3.out.below).int (i : Int) (by omega) (by omega)
      subst hA
      have HC := Aside0.mk (fun (w' : World) (hb : Below w.heap.size w w') => HR.out.cell_int hb i hlt)
      obtain ⟨x, hx⟩ : ∃ x, x = rd l i := ⟨_, rfl⟩
      rw [← hx] at HC
      clear x0 hx
      have x0 := HC.out _ T3.out.below
      have LK := PL.out.like
      have kr := PL.out.r.h1
      cases hp3 : (bits .and .i64 x 3 == 3)
      · obtain ⟨ok, hok⟩ : ∃ ok, (bits .and .i64 x 1 == 0) = ok := ⟨_, rfl⟩
        have PN := Aside0.mk (PL.out.note (by omega) ok)
        have LN := PN.out.like
        obtain ⟨q, hq⟩ : ∃ q, q = (MoP.noteR R ok).state := ⟨_, rfl⟩
        obtain ⟨hh, hhh⟩ : ∃ hh, hh = (MoP.noteR R ok).h := ⟨_, rfl⟩
        have EA := Aside0.mk (LN.state.trans hq.symm)
        have EB := Aside0.mk hq.symm
        have EH := Aside0.mk (LN.h.trans hhh.symm)
        have EI := Aside0.mk hhh.symm
        have OS := ordS hh (by rw [hhh]; exact PN.out.r.h1)
        obtain ⟨os1, os2⟩ := OS
        clear hq hhh LN LK
        go_wp2_with (first
      | (go_at_call 10; (with_reducible refine (notem_ok po go co O false PL.out.o _ T3.out.o).mono ?_); rintro e w4 ⟨rfl, i4, f4⟩; have T4 := Aside0.mk (T3.out.toO i4 f4); clear i4 f4 T3; replace x0 := HC.out _ T4.out.below)
      | (go_at_call 10; (with_reducible refine (notem_ok p g c M ok PL.out.m _ T4.out.m).mono ?_); rintro e w5 ⟨rfl, i5, f5⟩; have T5 := Aside0.mk (T4.out.toM i5 f5); clear i5 f5 T4; replace x0 := HC.out _ T5.out.below; rw [EA.out])
      | (go_at_call 17; (with_reducible refine (noterm_ok B pr rr R ok PL.out.r _ T5.out.size T5.out.prB.1 T5.out.prB.2 T5.out.r).mono ?_); rintro e w6 ⟨rfl, i6, f6⟩; have T6 := Aside0.mk (T5.out.toR i6 f6); clear i6 f6 T5 x0; rw [EB.out])
      | (go_at_call 11; (with_reducible refine (state_ok p g c _ _ T6.out.m).mono ?_); rintro e wK ⟨rfl, rfl⟩; rw [EA.out])
      | (go_at_call 18; (with_reducible refine (stater_ok B pr rr _ _ T6.out.r).mono ?_); rintro e wK ⟨rfl, rfl⟩; rw [EB.out])
      | (go_at_call 12; (with_reducible refine (summ_ok p g c _ _ T6.out.m).mono ?_); rintro e wK ⟨rfl, rfl⟩; rw [EH.out])
      | (go_at_call 19; (with_reducible refine (sumn_ok B pr rr _ PN.out.r.h1 _ T6.out.r).mono ?_); rintro e w7 ⟨rfl, hh7, hb7⟩; have T7 := Aside0.mk (T6.out.still hb7); clear hh7 hb7; rw [EI.out]))
        go_roundg (n - i)
        case measure => omega
        case rel => exact ⟨i + 1, _, _, _, by go_num, by omega, by omega, T7, PN⟩
      · have LP := Aside0.mk (fun y => (LK.pass y).state)
        have LH := Aside0.mk (fun y => ((pass_side M y PL.out.m.d0).2.trans LK.h))
        have LI := Aside0.mk (fun y => (pass_side R y PL.out.r.d0).2)
        obtain ⟨os1, os2⟩ := ordS R.h PL.out.r.h1
        obtain ⟨hh, hhh⟩ : ∃ hh, hh = R.h := ⟨_, rfl⟩
        rw [← hhh] at os1 os2 LH LI
        clear LK hhh
        go_wp2_with (first
      | (go_at_call 10; (with_reducible refine (notem_ok po go co O false PL.out.o _ T3.out.o).mono ?_); rintro e w4 ⟨rfl, i4, f4⟩; have T4 := Aside0.mk (T3.out.toO i4 f4); clear i4 f4 T3; replace x0 := HC.out _ T4.out.below)
      | (go_at_call 14; (with_reducible refine (passm_ok p g c M _ PL.out.m _ T4.out.m).mono ?_); rintro e w5 ⟨rfl, i5, f5⟩; have T5 := Aside0.mk (T4.out.toM i5 f5); clear i5 f5 T4; replace x0 := HC.out _ T5.out.below; rw [LP.out])
      | (go_at_call 16; (with_reducible refine (passr_ok B pr rr R _ PL.out.r _ T5.out.prB.1 T5.out.r).mono ?_); rintro e w6 ⟨rfl, i6, f6⟩; have T6 := Aside0.mk (T5.out.toR i6 f6); clear i6 f6 T5 x0)
      | (go_at_call 11; (with_reducible refine (state_ok p g c _ _ T6.out.m).mono ?_); rintro e wK ⟨rfl, rfl⟩; rw [LP.out])
      | (go_at_call 18; (with_reducible refine (stater_ok B pr rr _ _ T6.out.r).mono ?_); rintro e wK ⟨rfl, rfl⟩)
      | (go_at_call 12; (with_reducible refine (summ_ok p g c _ _ T6.out.m).mono ?_); rintro e wK ⟨rfl, rfl⟩; rw [LH.out])
      | (go_at_call 19; (with_reducible refine (sumn_ok B pr rr _ (PL.out.r.pass _).h1 _ T6.out.r).mono ?_); rintro e w7 ⟨rfl, hh7, hb7⟩; have T7 := Aside0.mk (T6.out.still hb7); clear hh7 hb7; rw [LI.out]))
        go_roundg (n - i)
        case measure => omega
        case rel => exact ⟨i + 1, _, _, _, by go_num, by omega, by omega, T7, ⟨PL.out.pass _⟩⟩
    · obtain rfl : i = n := by omega
      go_wp2_with fail
      first | go_ret | go_ret2 | ((try simp only [Exit.inBlock, Exit.then]); refine bodyPost_ret (results_tmp3 rfl _ _ _) rfl ?_) | go_end0 | refine bodyPost_ret0 rfl rfl ?_
      exact ⟨rfl, T3.out.below⟩

set_option maxHeartbeats 8000000 in
set_option maxRecDepth 100000 in
theorem plays_out (bad good silent : Int) (A : Option Addr) (n c0 : Nat) (w : World) (h : 200 < n) (hm : n ≤ 9223372036854775807) :
    Calls Try.prog 7 #[.int .i64 bad, .int .i64 good, .int .i64 silent, .slice A n c0] w fun e w' => e = .returned (.bool true) ∧ Below w.heap.size w w' := by
  have h1 : (200 : Int) < (n : Int) := by omega
  clear h
  go_enter Try.func7, Try.ntmps7
  go_wp2_with (first
      | (go_at_call 8; have hcall := alive_ok w; (with_reducible refine hcall.mono ?_); clear hcall; rintro e w1 ⟨rfl, hb⟩; have B1 := Aside0.mk hb; clear hb))
  first | go_ret | go_ret2 | ((try simp only [Exit.inBlock, Exit.then]); refine bodyPost_ret (results_tmp3 rfl _ _ _) rfl ?_) | go_end0 | refine bodyPost_ret0 rfl rfl ?_
  exact ⟨rfl, B1.out⟩
theorem walk (a0 a1 a2 : Int) (a3 : Option Addr) (len3 cap3 : Nat) (z3 : List Int) (W : World) (w0 : (Lit.int .i64 a0).wf = true) (w1 : (Lit.int .i64 a1).wf = true) (w2 : (Lit.int .i64 a2).wf = true) (w3 : IsRow .i64 W a3 len3 cap3 z3) (_y3 : len3 * 8 ≤ 140737488351232) :
    Calls Try.prog 7 #[.int .i64 a0, .int .i64 a1, .int .i64 a2, .slice a3 len3 cap3] W fun e W' => e = .returned (.bool true) ∧ Below W.heap.size W W' := by
  obtain ⟨l, hr, hm, hw⟩ := rds_of_row w3
  rcases Nat.lt_or_ge 200 len3 with h | h
  · exact plays_out a0 a1 a2 a3 len3 cap3 W h hm
  · exact plays_in a0 a1 a2 a3 len3 cap3 l W hr h

end Go.Proofs.Ytjmkddadbblblaa.MoPlaysW
