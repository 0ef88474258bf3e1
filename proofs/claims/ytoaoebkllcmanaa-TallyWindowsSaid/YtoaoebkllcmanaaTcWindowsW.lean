/- The law TallyWindows. -/
import Derived.Test.YtoaoebkllcmanaaTcA
namespace Go.Proofs.Ytoaoebkllcmanaa.TcWindowsW
open Go.RowKit Go.Proofs.YtoaoebkllcmanaaW.PrintWords Go.Proofs.YtoaoebkllcmanaaW.PrintLast Go.Proofs.YtoaoebkllcmanaaW.PrintMore Go.Proofs.Ytoaoebkllcmanaa.K Go.Proofs.Ytoaoebkllcmanaa.TaP Go.Proofs.Ytoaoebkllcmanaa.TaA Go.Proofs.Ytoaoebkllcmanaa.TaB Go.Proofs.Ytoaoebkllcmanaa.TaR Go.Proofs.Ytoaoebkllcmanaa.TcA
set_option linter.unusedVariables false
set_option linter.unusedSimpArgs false
attribute [local go_sem] max2_int min2_int max_two min_two

structure Dj (z B g c go co r : Nat) : Prop where
  out : ∃ t1 t2, z ≤ g ∧ z ≤ c ∧ g < t1 ∧ c < t1 ∧ t1 ≤ go ∧ t1 ≤ co ∧ go < t2 ∧ co < t2 ∧ t2 ≤ r ∧ r < B
structure Three (w0 : World) (B g c go co r n : Nat) (w : World) (h o : List Bool) : Prop where
  m : IsV w g c n h
  ob : IsV w go co 2 o
  rf : IsR B w r n h
  below : Below w0.heap.size w0 w
  size : B ≤ w.heap.size
  dj : Dj w0.heap.size B g c go co r
/-- Between a call on the window and the same call on the reference's. -/
structure Mid (w0 : World) (B g c go co r n : Nat) (w : World) (h1 h o : List Bool) : Prop where
  m : IsV w g c n h1
  ob : IsV w go co 2 o
  rf : IsR B w r n h
  below : Below w0.heap.size w0 w
  size : B ≤ w.heap.size
  dj : Dj w0.heap.size B g c go co r
section
variable {w0 w w' : World} {B g c go co r n : Nat} {h h1 h2 o o1 : List Bool}
theorem Three.toM (x : Three w0 B g c go co r n w h o) (i : IsV w' g c n h1) (f : Fr (fun k => k = g ∨ k = c) w w') : Mid w0 B g c go co r n w' h1 h o := by
  obtain ⟨t1, t2, q⟩ := x.dj.out
  exact ⟨i, x.ob.fr f (by omega) (by omega), x.rf.fr f (by omega) (fun j h1 h2 => by omega), Fr.above x.below x.below.size f (fun j h1 h2 => by omega), Nat.le_trans x.size f.size, x.dj⟩
theorem Three.toO (x : Three w0 B g c go co r n w h o) (i : IsV w' go co 2 o1) (f : Fr (fun k => k = go ∨ k = co) w w') : Three w0 B g c go co r n w' h o1 := by
  obtain ⟨t1, t2, q⟩ := x.dj.out
  exact ⟨x.m.fr f (by omega) (by omega), i, x.rf.fr f (by omega) (fun j h1 h2 => by omega), Fr.above x.below x.below.size f (fun j h1 h2 => by omega), Nat.le_trans x.size f.size, x.dj⟩
theorem Mid.toR (x : Mid w0 B g c go co r n w h1 h o) (i : IsR B w' r n h1) (f : Fr (fun k => k = r) w w') : Three w0 B g c go co r n w' h1 o := by
  obtain ⟨t1, t2, q⟩ := x.dj.out
  exact ⟨x.m.fr f (by omega) (by omega), x.ob.fr f (by omega) (by omega), i, Fr.above x.below x.below.size f (fun j h1 h2 => by omega), Nat.le_trans x.size f.size, x.dj⟩
theorem Three.still (x : Three w0 B g c go co r n w h o) (hb : Below w.heap.size w w') : Three w0 B g c go co r n w' h o :=
  ⟨x.m.below hb, x.ob.below hb, x.rf.below hb, below_step x.below hb, Nat.le_trans x.size hb.size, x.dj⟩
theorem Mid.rB (x : Mid w0 B g c go co r n w h1 h o) : r < B := by
  obtain ⟨t1, t2, q⟩ := x.dj.out
  omega
end
theorem row_lift {B B' n k : Nat} {w : World} {A : Option Addr} {h : List Bool} (x : RowB B w A n k h) (hh : n = 0) : RowB B' w A n k h := ⟨x.len, x.cap, fun h0 => by omega⟩
theorem isr_lift {B B' : Nat} {w : World} {r n : Nat} {h : List Bool} (i : IsR B w r n h) (hh : h = []) : IsR B' w r n h := by
  obtain ⟨A, k, h1, h2⟩ := i.out
  exact ⟨A, k, h1, row_lift h2 (by rw [hh]; rfl)⟩
set_option maxHeartbeats 8000000 in
set_option maxRecDepth 100000 in
theorem windows_in (n0 : Int) (A : Option Addr) (n c0 : Nat) (l : List Int) (w : World) (hr : Rds (Kd.int .i64) w A n c0 l) (hn : n ≤ 200) :
    Calls Try.prog 4 #[.int .i64 n0, .slice A n c0] w fun e w' => e = .returned (.bool true) ∧ Below w.heap.size w w' := by
  have HR := Aside0.mk hr
  have SB := Aside0.mk (sizeW_b n0)
  clear hr
  go_enter Try.func4, Try.ntmps4
  go_wp2_with (first
      | (go_at_call 6; have hcall := alive_ok w; (with_reducible refine hcall.mono ?_); clear hcall; rintro e w1 ⟨rfl, hb⟩; have B1 := Aside0.mk hb; clear hb)
      | (go_at_call 7; (with_reducible refine (v_new n0 w1).mono ?_); rintro e w2 ⟨g, c, rfl, hg, hc, i, hb⟩; have G2 := Aside0.mk (And.intro hg hc); have I2 := Aside0.mk i; have B2 := Aside0.mk hb; clear hg hc i hb)
      | (go_at_call 7; (with_reducible refine (v_new 2 w2).mono ?_); rintro e w3 ⟨go, co, rfl, hg, hc, i, hb⟩; have G3 := Aside0.mk (And.intro hg hc); have I3 := Aside0.mk (show IsV w3 go co 2 [] from i); have B3 := Aside0.mk hb; clear hg hc i hb)
      | (go_at_call 11; (with_reducible refine (newr_ok n0 0 w3).mono ?_); rintro e w4 ⟨r, rfl, hg, i, hb⟩; have G4 := Aside0.mk hg; have I4 := Aside0.mk i; have B4 := Aside0.mk hb; clear hg i hb))
  have T0 : Aside0 (Three w w4.heap.size g c go co r (sizeW n0) w4 [] []) := ⟨by
    have a1 := I2.out.lt
    have a2 := I3.out.lt
    have a3 := I4.out.lt
    have a4 := G2.out
    have a5 := G3.out
    have a6 := G4.out
    have a7 := B1.out.size
    exact ⟨(I2.out.below B3.out).below B4.out, I3.out.below B4.out, isr_lift I4.out rfl, below_step (below_step (below_step B1.out B2.out) B3.out) B4.out, Nat.le_refl _, ⟨w2.heap.size, w3.heap.size, by omega⟩⟩⟩
  generalize w4.heap.size = B at T0
  obtain ⟨m, hm⟩ : ∃ m, m = sizeW n0 := ⟨_, rfl⟩
  rw [← hm] at T0 SB
  clear I2 I3 I4 G2 G3 G4 B1 B2 B3 B4 hm
  go_loopg [9] (n + 1) (fun kq v9 w' => ∃ (i : Nat) (h o : List Bool), v9 = .int .i64 i ∧ i ≤ n ∧ kq = n + 1 - i ∧ h.length ≤ i ∧ o.length ≤ 2 ∧ Aside0 (Three w B g c go co r m w' h o))
  case atStart => exact ⟨0, _, _, rfl, by omega, by omega, by simp, by simp, T0⟩
  case round =>
    clear T0
    obtain ⟨i, h, o, rfl, hi, hkq, hhl, hol, T3⟩ := hrel
    by_cases hlt : i < n
    · obtain ⟨ad, hA, x0⟩ := (HR.out.below T3.out.below).int (i : Int) (by omega) (by omega)
      subst hA
      have HC := Aside0.mk (fun (w' : World) (hb : Below w.heap.size w w') => HR.out.cell_int hb i hlt)
      obtain ⟨x, hx⟩ : ∃ x, x = rd l i := ⟨_, rfl⟩
      rw [← hx] at HC
      clear x0 hx
      have x0 := HC.out _ T3.out.below
      have hol2 : (keep 2 o false).length ≤ 2 := (keep_le 2 o false (by omega) hol).1
      cases hp3 : (bits .and .i64 x 15 == 7)
      · obtain ⟨ok, hok⟩ : ∃ ok, (bits .and .i64 x 1 == 0) = ok := ⟨_, rfl⟩
        have hlm := T3.out.m.len
        have KL := keep_le m h ok (by omega) hlm.1
        obtain ⟨os1, os2⟩ := ordS (keep m h ok) (by omega)
        have LE := Aside0.mk (show (keep m h ok).length ≤ 1000 by omega)
        obtain ⟨h', hh'⟩ : ∃ h', h' = keep m h ok := ⟨_, rfl⟩
        have EH := Aside0.mk hh'
        rw [← hh'] at os1 os2 KL LE
        clear hh'
        go_wp2_with (first
      | (go_at_call 8; (with_reducible refine (v_note go co 2 o false (by omega) _ T3.out.ob).mono ?_); rintro e w4 ⟨rfl, i4, f4⟩; have T4 := Aside0.mk (T3.out.toO i4 f4); clear i4 f4 T3; replace x0 := HC.out _ T4.out.below)
      | (go_at_call 8; (with_reducible refine (v_note g c m h ok (by omega) _ T4.out.m).mono ?_); rintro e w5 ⟨rfl, i5, f5⟩; rw [← EH.out] at i5; have T5 := Aside0.mk (T4.out.toM i5 f5); clear i5 f5 T4; replace x0 := HC.out _ T5.out.below)
      | (go_at_call 14; (with_reducible refine (noter_ok B r m h ok hlm.1 hlm.2.1 hlm.2.2 _ T5.out.size T5.out.rB T5.out.rf).mono ?_); rintro e w6 ⟨rfl, i6, f6⟩; rw [← EH.out] at i6; have T6 := Aside0.mk (T5.out.toR i6 f6); clear i6 f6 T5 x0)
      | (go_at_call 9; (with_reducible refine (v_sum g c m h' _ T6.out.m).mono ?_); rintro e wK ⟨rfl, rfl⟩)
      | (go_at_call 15; (with_reducible refine (sumr_ok B r m h' LE.out _ T6.out.rf).mono ?_); rintro e w7 ⟨rfl, hh7, hb7⟩; have T7 := Aside0.mk (T6.out.still hb7); clear hh7 hb7))
        go_roundg (n - i)
        case measure => omega
        case rel => exact ⟨i + 1, h', _, by go_num, by omega, by omega, by omega, hol2, T7⟩
      · have q0 := o0
        go_wp2_with (first
      | (go_at_call 8; (with_reducible refine (v_note go co 2 o false (by omega) _ T3.out.ob).mono ?_); rintro e w4 ⟨rfl, i4, f4⟩; have T4 := Aside0.mk (T3.out.toO i4 f4); clear i4 f4 T3; replace x0 := HC.out _ T4.out.below)
      | (go_at_call 12; (with_reducible refine (v_clear g c m h _ T4.out.m).mono ?_); rintro e w5 ⟨rfl, i5, f5⟩; have T5 := Aside0.mk (T4.out.toM i5 f5); clear i5 f5 T4; replace x0 := HC.out _ T5.out.below)
      | (go_at_call 13; (with_reducible refine (clearr_ok B r m h _ T5.out.rf).mono ?_); rintro e w6 ⟨rfl, i6, f6⟩; have T6 := Aside0.mk (T5.out.toR i6 f6); clear i6 f6 T5 x0)
      | (go_at_call 9; (with_reducible refine (v_sum g c m [] _ T6.out.m).mono ?_); rintro e wK ⟨rfl, rfl⟩; rw [s0.1, s0.2])
      | (go_at_call 15; (with_reducible refine (sumr_ok B r m [] (by simp) _ T6.out.rf).mono ?_); rintro e w7 ⟨rfl, hh7, hb7⟩; have T7 := Aside0.mk (T6.out.still hb7); clear hh7 hb7; rw [s0.1, s0.2]))
        go_roundg (n - i)
        case measure => omega
        case rel => exact ⟨i + 1, [], _, by go_num, by omega, by omega, by simp, hol2, T7⟩
    · obtain rfl : i = n := by omega
      go_wp2_with fail
      first | go_ret | go_ret2 | ((try simp only [Exit.inBlock, Exit.then]); refine bodyPost_ret (results_tmp3 rfl _ _ _) rfl ?_) | go_end0 | refine bodyPost_ret0 rfl rfl ?_
      exact ⟨rfl, T3.out.below⟩
set_option maxHeartbeats 8000000 in
set_option maxRecDepth 100000 in
theorem windows_out (n0 : Int) (A : Option Addr) (n c0 : Nat) (w : World) (h : 200 < n) (hm : n ≤ 9223372036854775807) :
    Calls Try.prog 4 #[.int .i64 n0, .slice A n c0] w fun e w' => e = .returned (.bool true) ∧ Below w.heap.size w w' := by
  have h1 : (200 : Int) < (n : Int) := by omega
  clear h
  go_enter Try.func4, Try.ntmps4
  go_wp2_with (first
      | (go_at_call 6; have hcall := alive_ok w; (with_reducible refine hcall.mono ?_); clear hcall; rintro e w1 ⟨rfl, hb⟩; have B1 := Aside0.mk hb; clear hb))
  first | go_ret | go_ret2 | ((try simp only [Exit.inBlock, Exit.then]); refine bodyPost_ret (results_tmp3 rfl _ _ _) rfl ?_) | go_end0 | refine bodyPost_ret0 rfl rfl ?_
  exact ⟨rfl, B1.out⟩
theorem walk (a0 : Int) (a1 : Option Addr) (len1 cap1 : Nat) (z1 : List Int) (W : World) (w0 : (Lit.int .i64 a0).wf = true) (w1 : IsRow .i64 W a1 len1 cap1 z1) (_y1 : len1 * 8 ≤ 140737488351232) :
    Calls Try.prog 4 #[.int .i64 a0, .slice a1 len1 cap1] W fun e W' => e = .returned (.bool true) ∧ Below W.heap.size W W' := by
  obtain ⟨l, hr, hm, hw⟩ := rds_of_row w1
  rcases Nat.lt_or_ge 200 len1 with h | h
  · exact windows_out a0 a1 len1 cap1 W h hm
  · exact windows_in a0 a1 len1 cap1 l W hr h

end Go.Proofs.Ytoaoebkllcmanaa.TcWindowsW
