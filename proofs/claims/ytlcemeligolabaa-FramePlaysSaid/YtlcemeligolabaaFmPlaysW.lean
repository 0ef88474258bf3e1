/- The law of a reader's play: the walk. -/
import Derived.Test.YtlcemeligolabaaFmH
import Derived.Test.YtlcemeligolabaaFmS
namespace Go.Proofs.Ytlcemeligolabaa.FmPlaysW
open Go.RowKit Go.Proofs.YtlcemeligolabaaW.PrintWords Go.Proofs.YtlcemeligolabaaW.PrintLast Go.Proofs.YtlcemeligolabaaW.PrintMore Go.Proofs.Ytlcemeligolabaa.K Go.Proofs.Ytlcemeligolabaa.FmP Go.Proofs.Ytlcemeligolabaa.FmA Go.Proofs.Ytlcemeligolabaa.FmB Go.Proofs.Ytlcemeligolabaa.FmC Go.Proofs.Ytlcemeligolabaa.FmF Go.Proofs.Ytlcemeligolabaa.FmG Go.Proofs.Ytlcemeligolabaa.FmH Go.Proofs.Ytlcemeligolabaa.FcP Go.Proofs.Ytlcemeligolabaa.FcA Go.Proofs.Ytlcemeligolabaa.FcB Go.Proofs.Ytlcemeligolabaa.FcC Go.Proofs.Ytlcemeligolabaa.FcR Go.Proofs.Ytlcemeligolabaa.FcD Go.Proofs.Ytlcemeligolabaa.FcE Go.Proofs.Ytlcemeligolabaa.FcF Go.Proofs.Ytlcemeligolabaa.OctPure Go.Proofs.Ytlcemeligolabaa.FmR Go.Proofs.Ytlcemeligolabaa.FmS
set_option linter.unusedVariables false
set_option linter.unusedSimpArgs false
attribute [local go_sem] max2_int min2_int max_two min_two

/-- Two readers share no block. -/
structure Dis (w : World) (p : Nat) (v : Value) (q : Nat) (u : Value) : Prop where
  pq : p ≠ q
  pu : ∀ k, some k = u.ownBlock → k ≠ p
  qv : ∀ k, some k = v.ownBlock → k ≠ q
  vu : ∀ k, some k = v.ownBlock → ¬ some k = u.ownBlock
  lp : p < w.heap.size
  lq : q < w.heap.size
  lv : ∀ k, some k = v.ownBlock → k < w.heap.size
  lu : ∀ k, some k = u.ownBlock → k < w.heap.size
section
variable {w w2 : World} {p q : Nat} {v v' u : Value}
theorem Dis.symm (d : Dis w p v q u) : Dis w q u p v := ⟨fun e => d.pq e.symm, d.qv, d.pu, fun k h1 h2 => d.vu k h2 h1, d.lq, d.lp, d.lu, d.lv⟩
theorem Dis.free (d : Dis w p v q u) : ¬ Sp p v q ∧ ∀ k, some k = u.ownBlock → ¬ Sp p v k :=
  ⟨fun h => h.elim (fun e => d.pq e.symm) (fun e => d.qv q e rfl), fun k hk h => h.elim (fun e => d.pu k hk e) (fun e => d.vu k e hk)⟩
theorem Dis.step (d : Dis w p v q u) (hn : Nw w v v') (hs : w.heap.size ≤ w2.heap.size) (hl : ∀ k, some k = v'.ownBlock → k < w2.heap.size) : Dis w2 p v' q u :=
  ⟨d.pq, d.pu, fun k hk => by
    rcases hn k hk with h | h
    · exact d.qv k h
    · have := d.lq
      omega, fun k hk hu => by
    rcases hn k hk with h | h
    · exact d.vu k h hu
    · have := d.lu k hu
      omega, Nat.lt_of_lt_of_le d.lp hs, Nat.lt_of_lt_of_le d.lq hs, hl, fun k hk => Nat.lt_of_lt_of_le (d.lu k hk) hs⟩
theorem Dis.wide (d : Dis w p v q u) (hs : w.heap.size ≤ w2.heap.size) : Dis w2 p v q u := ⟨d.pq, d.pu, d.qv, d.vu, Nat.lt_of_lt_of_le d.lp hs, Nat.lt_of_lt_of_le d.lq hs, fun k hk => Nat.lt_of_lt_of_le (d.lv k hk) hs, fun k hk => Nat.lt_of_lt_of_le (d.lu k hk) hs⟩
theorem lt_own {xs : List Int} (h : Own (Kd.int .u8) 5 0 w v xs) : ∀ k, some k = v.ownBlock → k < w.heap.size := fun k hk => (FmA.Own.lt h k hk).2
end
/-- Two readers and the reference's one. -/
structure Tri (w0 w : World) (p1 p2 p3 : Nat) (v1 v2 v3 : Value) (R O : Re) (s : Rr) : Prop where
  i1 : IsP w p1 v1 R
  i2 : IsP w p2 v2 O
  i3 : IsS w p3 v3 s
  d12 : Dis w p1 v1 p2 v2
  d13 : Dis w p1 v1 p3 v3
  d23 : Dis w p2 v2 p3 v3
  b : Below w0.heap.size w0 w
  q1 : w0.heap.size ≤ p1
  q2 : w0.heap.size ≤ p2
  q3 : w0.heap.size ≤ p3
  n1 : ∀ k, some k = v1.ownBlock → w0.heap.size ≤ k
  n2 : ∀ k, some k = v2.ownBlock → w0.heap.size ≤ k
  n3 : ∀ k, some k = v3.ownBlock → w0.heap.size ≤ k
section
variable {w0 w w2 : World} {p1 p2 p3 : Nat} {v1 v2 v3 v' : Value} {R O R' : Re} {s s' : Rr}
theorem n_step {v v' : Value} (hb : Below w0.heap.size w0 w) (n : ∀ k, some k = v.ownBlock → w0.heap.size ≤ k) (hn : Nw w v v') : ∀ k, some k = v'.ownBlock → w0.heap.size ≤ k := fun k hk => by
  rcases hn k hk with h | h
  · exact n k h
  · exact Nat.le_trans hb.size h
theorem b_step {p : Nat} {v : Value} (hb : Below w0.heap.size w0 w) (q : w0.heap.size ≤ p) (n : ∀ k, some k = v.ownBlock → w0.heap.size ≤ k) (hf : Fr (Sp p v) w w2) : Below w0.heap.size w0 w2 :=
  Fr.above hb hb.size hf (fun i hi h => by
    rcases h with h | h
    · omega
    · have := n i h
      omega)
theorem Tri.push1 (t : Tri w0 w p1 p2 p3 v1 v2 v3 R O s) (hi : IsP w2 p1 v' R') (hn : Nw w v1 v') (hf : Fr (Sp p1 v1) w w2) : Tri w0 w2 p1 p2 p3 v' v2 v3 R' O s :=
  ⟨hi, t.i2.fr hf t.d12.free.1 t.d12.free.2, t.i3.fr hf t.d13.free.1 t.d13.free.2, t.d12.step hn hf.size (lt_own hi.row), t.d13.step hn hf.size (lt_own hi.row), t.d23.wide hf.size, b_step t.b t.q1 t.n1 hf, t.q1, t.q2, t.q3, n_step t.b t.n1 hn, t.n2, t.n3⟩
theorem Tri.push2 (t : Tri w0 w p1 p2 p3 v1 v2 v3 R O s) (hi : IsP w2 p2 v' R') (hn : Nw w v2 v') (hf : Fr (Sp p2 v2) w w2) : Tri w0 w2 p1 p2 p3 v1 v' v3 R R' s :=
  ⟨t.i1.fr hf t.d12.symm.free.1 t.d12.symm.free.2, hi, t.i3.fr hf t.d23.free.1 t.d23.free.2, (t.d12.symm.step hn hf.size (lt_own hi.row)).symm, t.d13.wide hf.size, t.d23.step hn hf.size (lt_own hi.row), b_step t.b t.q2 t.n2 hf, t.q1, t.q2, t.q3, t.n1, n_step t.b t.n2 hn, t.n3⟩
theorem Tri.push3 (t : Tri w0 w p1 p2 p3 v1 v2 v3 R O s) (hi : IsS w2 p3 v' s') (hn : Nw w v3 v') (hf : Fr (Sp p3 v3) w w2) : Tri w0 w2 p1 p2 p3 v1 v2 v' R O s' :=
  ⟨t.i1.fr hf t.d13.symm.free.1 t.d13.symm.free.2, t.i2.fr hf t.d23.symm.free.1 t.d23.symm.free.2, hi, t.d12.wide hf.size, (t.d13.symm.step hn hf.size (lt_own hi.row)).symm, (t.d23.symm.step hn hf.size (lt_own hi.row)).symm, b_step t.b t.q3 t.n3 hf, t.q1, t.q2, t.q3, t.n1, t.n2, n_step t.b t.n3 hn⟩
theorem none_out (k : Nat) (h : some k = (Value.slice none 0 0).ownBlock) : False := by simp [Value.ownBlock] at h
theorem dis_new {w : World} {p q : Nat} (h : p ≠ q) (hp : p < w.heap.size) (hq : q < w.heap.size) : Dis w p (.slice none 0 0) q (.slice none 0 0) :=
  ⟨h, fun k hk => (none_out k hk).elim, fun k hk => (none_out k hk).elim, fun k hk => (none_out k hk).elim, hp, hq, fun k hk => (none_out k hk).elim, fun k hk => (none_out k hk).elim⟩
theorem Tri.new {w0 wa wb wc wd : World} {p1 p2 p3 : Nat} {R O : Re} {s : Rr} (b0 : Below w0.heap.size w0 wa) (i1 : IsP wb p1 (.slice none 0 0) R) (g1 : wa.heap.size ≤ p1) (b1 : Below wa.heap.size wa wb)
    (i2 : IsP wc p2 (.slice none 0 0) O) (g2 : wb.heap.size ≤ p2) (b2 : Below wb.heap.size wb wc) (i3 : IsS wd p3 (.slice none 0 0) s) (g3 : wc.heap.size ≤ p3) (b3 : Below wc.heap.size wc wd) :
    Tri w0 wd p1 p2 p3 (.slice none 0 0) (.slice none 0 0) (.slice none 0 0) R O s := by
  have l1 := i1.tab.lt
  have l2 := i2.tab.lt
  have l3 := i3.tab.lt
  have s0 := b0.size
  have s1 := b1.size
  have s2 := b2.size
  have s3 := b3.size
  exact ⟨(i1.below b2).below b3, i2.below b3, i3, dis_new (by omega) (by omega) (by omega), dis_new (by omega) (by omega) (by omega), dis_new (by omega) (by omega) (by omega), below_step (below_step (below_step b0 b1) b2) b3, by omega, by omega, by omega, fun k hk => (none_out k hk).elim, fun k hk => (none_out k hk).elim, fun k hk => (none_out k hk).elim⟩
end
set_option maxHeartbeats 8000000 in
set_option maxRecDepth 100000 in
theorem plays_in (most : Int) (wide : Bool) (A : Option Addr) (n c : Nat) (l : List Int) (w : World) (hr : Rds (Kd.int .u8) w A n c l) (hl : octOk l) (hn : n ≤ 1000) :
    Calls Try.prog 5 #[.int .i64 most, .bool wide, .slice A n c] w fun e w' => e = .returned (.bool true) ∧ Below w.heap.size w w' := by
  have HR := Aside0.mk hr
  have HL := Aside0.mk hl
  have HN := Aside0.mk hr.len
  have hcn := hr.cap
  have hi1 : ¬ (1000 : Int) < ((n : Nat) : Int) := by omega
  clear hr hl
  go_enter Try.func5, Try.ntmps5
  go_wp2_with (first
    | (go_at_call 10; (with_reducible refine (alive_ok _).mono ?_); rintro e w1 ⟨rfl, hb1⟩; have HB1 := Aside0.mk hb1; clear hb1)
    | (go_at_call 16; (with_reducible refine (new_ok most wide w1).mono ?_); rintro e w2 ⟨p1, rfl, hp, hi, hb⟩; have P1 := Aside0.mk hp; have B2 := Aside0.mk hb; have I1 := Aside0.mk hi; clear hp hi hb)
    | (go_at_call 16; (with_reducible refine (new_ok 5 true w2).mono ?_); rintro e w3 ⟨p2, rfl, hp, hi, hb⟩; have P2 := Aside0.mk hp; have B3 := Aside0.mk hb; have I2 := Aside0.mk hi; clear hp hi hb)
    | (go_at_call 14; (with_reducible refine (newr_ok most wide w3).mono ?_); rintro e w4 ⟨p3, rfl, hp, hi, hb⟩; have P3 := Aside0.mk hp; have B4 := Aside0.mk hb; have I3 := Aside0.mk hi; clear hp hi hb))
  have T0 := Aside0.mk (Tri.new HB1.out I1.out P1.out B2.out I2.out P2.out B3.out I3.out P3.out B4.out)
  clear I1 P1 B2 I2 P2 B3 I3 P3 B4
  go_loopg [11, 12, 13, 14, 15] (n + 1) (fun kq v11 v12 v13 v14 v15 w' => ∃ (i : Nat) (x1 x2 x3 : Value) (R O : Re) (s : Rr), v11 = .int .i64 i ∧ i ≤ n ∧ kq = n + 1 - i ∧ Aside0 (Ok R ∧ Ok O ∧ OkR s ∧ Sim R s) ∧ Aside0 (Tri w w' p1 p2 p3 x1 x2 x3 R O s))
  case atStart => exact ⟨0, _, _, _, _, _, _, rfl, by omega, by omega, ⟨Ok.new most wide, Ok.new 5 true, OkR.new most wide, Sim.new most wide⟩, T0⟩
  case round =>
    clear T0
    obtain ⟨i, x1, x2, x3, R, O, s, rfl, hi, hkq, KK, T0⟩ := hrel
    by_cases hlt : i < n
    · have hb0 := HR.out.below T0.out.b
      obtain ⟨ad, hA⟩ := hb0.some_at i hlt
      cases hA
      have HCB := Aside0.mk (HL.out _ (rd_mem l i (by have := HN.out; omega)))
      have HX := Aside0.mk (fun w' (hb : Below w.heap.size w w') => HR.out.cell_int hb i hlt)
      obtain ⟨c, hc⟩ : ∃ c, c = rd l i := ⟨_, rfl⟩
      rw [← hc] at HCB HX
      obtain ⟨y, hy⟩ : ∃ y, IntKind.u8.wrap ((i : Nat) : Int) = y := ⟨_, rfl⟩
      have HY : Aside0 (0 ≤ y ∧ y ≤ 255) := ⟨by rw [← hy, u8_w]; omega⟩
      obtain ⟨kk, bb, hkb⟩ : ∃ kk bb, R.out c = (kk, bb) := ⟨_, _, rfl⟩
      have hks : s.out c = (kk, bb) := by rw [← hkb]; exact (KK.out.2.2.2.out c).symm
      have PR := Aside0.mk (fun w' x1 (i1 : IsP w' p1 x1 R) => (show Calls Try.prog 17 #[.pointer (some ⟨p1, 0, none⟩), .int .u8 c] w' fun e w'' => ∃ u v', e = .returned (.tuple #[.int .i64 kk, u]) ∧ Own (Kd.int .u8) 5 w'.heap.size w'' u bb ∧ IsP w'' p1 v' (R.push c) ∧ Nw w' x1 v' ∧ Fr (Sp p1 x1) w' w'' by have := push_ok p1 x1 R c KK.out.1 HCB.out.1 HCB.out.2 w' i1; rwa [hkb] at this))
      have PS := Aside0.mk (fun w' x3 (i3 : IsS w' p3 x3 s) => (show Calls Try.prog 15 #[.pointer (some ⟨p3, 0, none⟩), .int .u8 c] w' fun e w'' => ∃ u v', e = .returned (.tuple #[.int .i64 kk, u]) ∧ Own (Kd.int .u8) 5 w'.heap.size w'' u bb ∧ IsS w'' p3 v' (s.push c) ∧ Nw w' x3 v' ∧ Fr (Sp p3 x3) w' w'' by have := rpush_ok p3 x3 s c KK.out.2.2.1 HCB.out.1 HCB.out.2 w' i3; rwa [hks] at this))
      have KN := Aside0.mk (show Ok (R.push c) ∧ Ok (O.push y) ∧ OkR (s.push c) ∧ Sim (R.push c) (s.push c) from ⟨KK.out.1.push HCB.out.1 HCB.out.2, KK.out.2.1.push HY.out.1 HY.out.2, KK.out.2.2.1.push HCB.out.1 HCB.out.2, KK.out.2.2.2.push c⟩)
      clear hc hkb hks hb0
      go_wp2_with (first
        | (go_at_call 17; (with_reducible refine (push_ok p2 x2 O y KK.out.2.1 HY.out.1 HY.out.2 wr T0.out.i2).mono ?_); rintro e w5 ⟨u, z2, rfl, ho, hi2, hn2, hf2⟩; obtain ⟨A5, c5, rfl, _⟩ := ho.slice; have T1 := Aside0.mk (T0.out.push2 hi2 hn2 hf2); have hx := HX.out w5 T1.out.b; clear ho hi2 hn2 hf2 T0)
        | (go_at_call 17; (with_reducible refine (PR.out w5 x1 T1.out.i1).mono ?_); rintro e w6 ⟨u, z1, rfl, ho, hi2, hn2, hf2⟩; obtain ⟨A6, c6, rfl, _⟩ := ho.slice; have T2 := Aside0.mk (T1.out.push1 hi2 hn2 hf2); have O6 := Aside0.mk ho; have G3 := Aside0.mk (fun k (hk : w5.heap.size ≤ k) => (show ¬ Sp p3 x3 k from fun h => h.elim (fun e => by have := T1.out.i3.tab.lt; omega) (fun e => by have := lt_own T1.out.i3.row k e; omega))); clear hx; have hx := HX.out w6 T2.out.b; clear ho hi2 hn2 hf2 T1)
        | (go_at_call 15; (with_reducible refine (PS.out w6 x3 T2.out.i3).mono ?_); rintro e w7 ⟨u, z3, rfl, ho, hi2, hn2, hf2⟩; obtain ⟨A7, c7, rfl, _⟩ := ho.slice; have T3 := Aside0.mk (T2.out.push3 hi2 hn2 hf2); have hc7 := conv22 A7 _ c7 bb w7 ho.rds; have hc6 := conv22 A6 _ c6 bb w7 (O6.out.fr hf2 (fun k hk => G3.out k (FmA.Own.lt O6.out k hk).1)).rds; clear ho hi2 hn2 hf2 T2))
      go_roundg (n - i)
      case measure => omega
      case rel => exact ⟨i + 1, _, _, _, _, _, _, by go_num, by omega, by omega, KN, T3⟩
    · have hi2 : i = n := by omega
      subst hi2
      have HB := Aside0.mk T0.out.b
      go_wp2_with fail
      first | go_ret | go_ret2 | ((try simp only [Exit.inBlock, Exit.then]); refine bodyPost_ret (results_tmp3 rfl _ _ _) rfl ?_) | go_end0 | refine bodyPost_ret0 rfl rfl ?_
      exact ⟨rfl, HB.out⟩
set_option maxHeartbeats 8000000 in
set_option maxRecDepth 100000 in
theorem plays_long (most : Int) (wide : Bool) (A : Option Addr) (n c : Nat) (w : World) (h : 1000 < n) (hm : n ≤ 9223372036854775807) :
    Calls Try.prog 5 #[.int .i64 most, .bool wide, .slice A n c] w fun e w' => e = .returned (.bool true) ∧ Below w.heap.size w w' := by
  have h1 : (1000 : Int) < (n : Int) := by omega
  clear h
  go_enter Try.func5, Try.ntmps5
  go_wp2_with (first | (go_at_call 10; (with_reducible refine (alive_ok _).mono ?_); rintro e w1 ⟨rfl, hb1⟩; have HB1 := Aside0.mk hb1; clear hb1))
  go_ret
  exact ⟨rfl, HB1.out⟩
theorem walk (a0 : Int) (a1 : Bool) (a2 : Option Addr) (len2 cap2 : Nat) (z2 : List Int) (W : World) (_w0 : (Lit.int .i64 a0).wf = true) (w2 : IsRow .u8 W a2 len2 cap2 z2) (_y2 : len2 * 1 ≤ 140737488351232) :
    Calls Try.prog 5 #[.int .i64 a0, .bool a1, .slice a2 len2 cap2] W fun e w' => e = .returned (.bool true) ∧ Below W.heap.size W w' := by
  obtain ⟨l, hr, hm, hw⟩ := rds_of_row w2
  rcases Nat.lt_or_ge 1000 len2 with h | h
  · exact plays_long a0 a1 a2 len2 cap2 W h hm
  · exact plays_in a0 a1 a2 len2 cap2 l W hr (fun x hx => wf_u8 (hw x hx)) h

end Go.Proofs.Ytlcemeligolabaa.FmPlaysW
