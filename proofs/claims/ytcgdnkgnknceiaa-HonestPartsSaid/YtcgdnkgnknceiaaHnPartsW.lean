/- The law of parts: the walk. -/
import Derived.Test.YtcgdnkgnknceiaaHnD
import Derived.Test.YtcgdnkgnknceiaaOpenB
namespace Go.Proofs.Ytcgdnkgnknceiaa.HnPartsW
open Go.RowKit Go.Proofs.YtcgdnkgnknceiaaW.PrintWords Go.Proofs.YtcgdnkgnknceiaaW.PrintLast Go.Proofs.YtcgdnkgnknceiaaW.PrintMore Go.Proofs.Ytcgdnkgnknceiaa.K Go.Proofs.Ytcgdnkgnknceiaa.OpenC Go.Proofs.Ytcgdnkgnknceiaa.OpenB Go.Proofs.Ytcgdnkgnknceiaa.HnA Go.Proofs.Ytcgdnkgnknceiaa.HnB Go.Proofs.Ytcgdnkgnknceiaa.HnC Go.Proofs.Ytcgdnkgnknceiaa.HnD
set_option linter.unusedVariables false
set_option linter.unusedSimpArgs false
attribute [local go_sem] max2_int min2_int max_two min_two

theorem sw {f : FuncId} {args : Array Value} {w : World} {v : Value} (h : Calls Try.prog f args w fun e w' => e = .returned v ∧ w' = w) : Calls Try.prog f args w fun e w' => e = .returned v ∧ w = w' := h.mono fun _ _ h => ⟨h.1, h.2.symm⟩

set_option maxHeartbeats 8000000 in
set_option maxRecDepth 100000 in
theorem parts_e1 (A1 : Option Addr) (n1 c1 : Nat) (g : List (List Int)) (A2 : Option Addr) (n2 c2 : Nat) (s : List (List Int)) (A3 : Option Addr) (n3 c3 : Nat) (w : World) (r1 : Grid w A1 n1 c1 g) (r2 : Grid w A2 n2 c2 s) (h : smallB g = false) :
    Calls Try.prog 3 #[.slice A1 n1 c1, .slice A2 n2 c2, .slice A3 n3 c3] w fun e w' => e = .returned (.bool true) ∧ Below w.heap.size w w' := by
  have S1 := Aside0.mk (fun w' (hb : Below w.heap.size w w') => sw (small_ok A1 n1 c1 g w' (r1.below hb)))
  have S2 := Aside0.mk (fun w' (hb : Below w.heap.size w w') => sw (small_ok A2 n2 c2 s w' (r2.below hb)))
  rw [h] at S1
  clear r1 r2
  go_enter Try.func3, Try.ntmps3
  go_wp2_with (first
    | (go_at_call 7; (with_reducible refine (alive_ok _).mono ?_); rintro e w1 ⟨rfl, hb1⟩; have HB1 := Aside0.mk hb1; clear hb1)
    | (go_at_call 8; (with_reducible refine (S1.out _ HB1.out).mono ?_); rintro e wK ⟨rfl, rfl⟩)
    | (go_at_call 8; (with_reducible refine (S2.out _ HB1.out).mono ?_); rintro e wK ⟨rfl, rfl⟩))
  first | go_ret | go_ret2 | ((try simp only [Exit.inBlock, Exit.then]); refine bodyPost_ret (results_tmp3 rfl _ _ _) rfl ?_) | go_end0
  exact ⟨rfl, HB1.out⟩

set_option maxHeartbeats 8000000 in
set_option maxRecDepth 100000 in
theorem parts_e2 (A1 : Option Addr) (n1 c1 : Nat) (g : List (List Int)) (A2 : Option Addr) (n2 c2 : Nat) (s : List (List Int)) (A3 : Option Addr) (n3 c3 : Nat) (w : World) (r1 : Grid w A1 n1 c1 g) (r2 : Grid w A2 n2 c2 s) (h0 : smallB g = true) (h : smallB s = false) :
    Calls Try.prog 3 #[.slice A1 n1 c1, .slice A2 n2 c2, .slice A3 n3 c3] w fun e w' => e = .returned (.bool true) ∧ Below w.heap.size w w' := by
  have S1 := Aside0.mk (fun w' (hb : Below w.heap.size w w') => sw (small_ok A1 n1 c1 g w' (r1.below hb)))
  have S2 := Aside0.mk (fun w' (hb : Below w.heap.size w w') => sw (small_ok A2 n2 c2 s w' (r2.below hb)))
  rw [h0] at S1
  rw [h] at S2
  clear r1 r2
  go_enter Try.func3, Try.ntmps3
  go_wp2_with (first
    | (go_at_call 7; (with_reducible refine (alive_ok _).mono ?_); rintro e w1 ⟨rfl, hb1⟩; have HB1 := Aside0.mk hb1; clear hb1)
    | (go_at_call 8; (with_reducible refine (S1.out _ HB1.out).mono ?_); rintro e wK ⟨rfl, rfl⟩)
    | (go_at_call 8; (with_reducible refine (S2.out _ HB1.out).mono ?_); rintro e wK ⟨rfl, rfl⟩))
  first | go_ret | go_ret2 | ((try simp only [Exit.inBlock, Exit.then]); refine bodyPost_ret (results_tmp3 rfl _ _ _) rfl ?_) | go_end0
  exact ⟨rfl, HB1.out⟩

set_option maxHeartbeats 8000000 in
set_option maxRecDepth 100000 in
theorem parts_e3 (A1 : Option Addr) (n1 c1 : Nat) (g : List (List Int)) (A2 : Option Addr) (n2 c2 : Nat) (s : List (List Int)) (A3 : Option Addr) (n3 c3 : Nat) (w : World) (r1 : Grid w A1 n1 c1 g) (r2 : Grid w A2 n2 c2 s) (h0 : smallB g = true) (h1 : smallB s = true) (h : ((n3 : Nat) : Int) < ((n2 : Nat) : Int)) :
    Calls Try.prog 3 #[.slice A1 n1 c1, .slice A2 n2 c2, .slice A3 n3 c3] w fun e w' => e = .returned (.bool true) ∧ Below w.heap.size w w' := by
  have S1 := Aside0.mk (fun w' (hb : Below w.heap.size w w') => sw (small_ok A1 n1 c1 g w' (r1.below hb)))
  have S2 := Aside0.mk (fun w' (hb : Below w.heap.size w w') => sw (small_ok A2 n2 c2 s w' (r2.below hb)))
  rw [h0] at S1
  rw [h1] at S2
  clear r1 r2
  go_enter Try.func3, Try.ntmps3
  go_wp2_with (first
    | (go_at_call 7; (with_reducible refine (alive_ok _).mono ?_); rintro e w1 ⟨rfl, hb1⟩; have HB1 := Aside0.mk hb1; clear hb1)
    | (go_at_call 8; (with_reducible refine (S1.out _ HB1.out).mono ?_); rintro e wK ⟨rfl, rfl⟩)
    | (go_at_call 8; (with_reducible refine (S2.out _ HB1.out).mono ?_); rintro e wK ⟨rfl, rfl⟩))
  first | go_ret | go_ret2 | ((try simp only [Exit.inBlock, Exit.then]); refine bodyPost_ret (results_tmp3 rfl _ _ _) rfl ?_) | go_end0
  exact ⟨rfl, HB1.out⟩

theorem small_len {l : List (List Int)} (h : smallB l = true) : l.length ≤ 60 := by
  unfold smallB at h
  rw [Bool.and_eq_true] at h
  simpa using h.2
set_option maxHeartbeats 8000000 in
set_option maxRecDepth 100000 in
theorem parts_in (A1 : Option Addr) (n1 c1 : Nat) (g : List (List Int)) (A2 : Option Addr) (n2 c2 : Nat) (s : List (List Int)) (A3 : Option Addr) (n3 c3 : Nat) (kp : List Bool) (w : World) (r1 : Grid w A1 n1 c1 g) (r2 : Grid w A2 n2 c2 s) (r3 : IsBools w A3 n3 c3 kp) (h0 : smallB g = true) (h1 : smallB s = true) (h : n2 ≤ n3) :
    Calls Try.prog 3 #[.slice A1 n1 c1, .slice A2 n2 c2, .slice A3 n3 c3] w fun e w' => e = .returned (.bool true) ∧ Below w.heap.size w w' := by
  have S1 := Aside0.mk (fun w' (hb : Below w.heap.size w w') => sw (small_ok A1 n1 c1 g w' (r1.below hb)))
  have S2 := Aside0.mk (fun w' (hb : Below w.heap.size w w') => sw (small_ok A2 n2 c2 s w' (r2.below hb)))
  have hn2 : n2 ≤ 60 := by rw [r2.len]; exact small_len h1
  rw [h0] at S1
  rw [h1] at S2
  have R1 := Aside0.mk r1
  have R2 := Aside0.mk r2
  have R3 := Aside0.mk r3
  have HN := Aside0.mk r2.len
  have HNN := Aside0.mk h
  have g3 : ¬ ((n3 : Nat) : Int) < ((n2 : Nat) : Int) := by omega
  clear r1 r2 r3 h0 h1 h
  go_enter Try.func3, Try.ntmps3
  go_wp2_with (first
    | (go_at_call 7; (with_reducible refine (alive_ok _).mono ?_); rintro e w1 ⟨rfl, hb1⟩; have HB1 := Aside0.mk hb1; clear hb1)
    | (go_at_call 8; (with_reducible refine (S1.out _ HB1.out).mono ?_); rintro e wK ⟨rfl, rfl⟩)
    | (go_at_call 8; (with_reducible refine (S2.out _ HB1.out).mono ?_); rintro e wK ⟨rfl, rfl⟩))
  clear S1 S2 g3
  try generalize decide (n3 < n2) = dd
  have L1 := Aside0.mk (HRow.nil w w1)
  go_loopg [8, 9] (n2 + 1) (fun kq v8 v9 w' => ∃ (i : Nat) (L : List (List Int)), v9 = .int .i64 i ∧ i ≤ n2 ∧ kq = n2 + 1 - i ∧ Aside0 (L.Sublist (s.take i)) ∧ Aside0 (HRow w w' v8 L) ∧ Aside0 (Below w.heap.size w w'))
  case atStart => exact ⟨0, [], rfl, by omega, by omega, ⟨List.Sublist.slnil⟩, L1, HB1⟩
  case round =>
    clear L1 HB1
    obtain ⟨i, L, rfl, hi, hkq, SB, H2, B2⟩ := hrel
    have LE : Aside0 (L.length ≤ i) := ⟨by have := SB.out.length_le; rw [List.length_take] at this; omega⟩
    by_cases hlt : i < n2
    · obtain ⟨x, ad, A4, n4, c4, hx, hA, hc, hr, ho, hm⟩ := gget R2.out i hlt
      cases hA
      obtain ⟨ad3, hA3, hk⟩ := R3.out.at_ i (by have := HNN.out; omega)
      cases hA3
      obtain ⟨kb, hkb⟩ : ∃ kb, kb = kp.getD i false := ⟨_, rfl⟩
      rw [← hkb] at hk
      clear hkb
      have TS := Aside0.mk (take_sg s i x hx)
      have OX := Aside0.mk (show Oct w (.slice A4 n4 c4) x from ⟨⟨_, _, _, rfl, hr, hm⟩, ho⟩)
      have hc' := (B2.out.cell (World.block_lt_of_cell? w _ hc)).trans hc
      have hk' := (B2.out.cell (World.block_lt_of_cell? w _ hk)).trans hk
      have hi3 : ((i : Nat) : Int) < ((n3 : Nat) : Int) := by have := HNN.out; omega
      obtain ⟨nl, hnl⟩ : ∃ nl, L.length = nl := ⟨_, rfl⟩
      obtain ⟨A8, c8, hv8, hc8⟩ := H2.out.slice hnl
      subst hv8
      have NL := Aside0.mk hnl
      clear hc hr ho hx hk hnl
      cases kb
      · have SB2 : Aside0 (L.Sublist (s.take (i + 1))) := ⟨by rw [TS.out]; exact SB.out.trans (List.sublist_append_left _ _)⟩
        go_wp2_with fail
        go_roundg (n2 - i)
        case measure => omega
        case rel => exact ⟨i + 1, L, by go_num, by omega, by omega, SB2, H2, B2⟩
      · have SB2 : Aside0 ((L ++ [x]).Sublist (s.take (i + 1))) := ⟨by rw [TS.out]; exact SB.out.append (List.Sublist.refl _)⟩
        go_wp2_with (first
          | (at_builtin; refine app_hdr (.tmp 41) (.tmp 46) rfl rfl rfl rfl H2.out B2.out OX.out (by have := LE.out; omega) ?_; intro v5 w5 ho hb; have H5 := Aside0.mk ho; have B5 := Aside0.mk hb; obtain ⟨A9, c9, hv9, hc9⟩ := ho.slice (n := nl + 1) (by simp [NL.out]); subst hv9; clear ho hb))
        go_roundg (n2 - i)
        case measure => omega
        case rel => exact ⟨i + 1, L ++ [x], by go_num, by omega, by omega, SB2, H5, B5⟩
    · have hi2 : i = n2 := by omega
      subst hi2
      rw [List.take_of_length_le (by have := HN.out; omega)] at SB
      obtain ⟨nl, hnl⟩ : ∃ nl, L.length = nl := ⟨_, rfl⟩
      obtain ⟨A8, c8, hv8, hc8⟩ := H2.out.slice hnl
      subst hv8
      have hnl2 : nl ≤ i := by rw [← hnl]; exact LE.out
      have GL := Aside0.mk (H2.out.grid B2.out (by omega))
      have Q1 := Aside0.mk (sw (part_ok A1 n1 c1 g A2 i c2 s wr (R1.out.below B2.out) (R2.out.below B2.out)))
      have Q2 := Aside0.mk (rpart_ok A1 n1 c1 g A2 i c2 s wr (R1.out.below B2.out) (R2.out.below B2.out))
      have Q3 := Aside0.mk (fun w' (hb : Below wr.heap.size wr w') => (show Calls Try.prog 9 #[.slice A8 nl c8, .slice A2 i c2] w' fun e w'' => e = .returned (.bool true) ∧ w' = w'' by
        have := sw (part_ok A8 nl c8 L A2 i c2 s w' (GL.out.below hb) (R2.out.below (below_step B2.out hb)))
        rwa [show partB L s = true by unfold partB; rw [rem_sub s L SB.out]; rfl] at this))
      have Q4 := Aside0.mk (fun w' (hb : Below wr.heap.size wr w') => (show Calls Try.prog 9 #[.slice A2 i c2, .slice A2 i c2] w' fun e w'' => e = .returned (.bool true) ∧ w' = w'' by
        have := sw (part_ok A2 i c2 s A2 i c2 s w' (R2.out.below (below_step B2.out hb)) (R2.out.below (below_step B2.out hb)))
        rwa [show partB s s = true by unfold partB; rw [rem_sub s s (List.Sublist.refl _)]; rfl] at this))
      obtain ⟨pb, hpb⟩ : ∃ pb, pb = partB g s := ⟨_, rfl⟩
      rw [← hpb] at Q1 Q2
      by_cases he : nl = i
      · subst he
        clear SB hnl hpb
        go_wp2_with (first
          | (go_at_call 9; (with_reducible refine Q1.out.mono ?_); rintro e wK ⟨rfl, rfl⟩; clear Q1)
          | (go_at_call 10; (with_reducible refine Q2.out.mono ?_); rintro e w6 ⟨rfl, hb⟩; have B6 := Aside0.mk hb; clear Q2 hb)
          | (go_at_call 9; (with_reducible refine (Q3.out _ B6.out).mono ?_); rintro e wK ⟨rfl, rfl⟩; clear Q3)
          | (go_at_call 9; (with_reducible refine (Q4.out _ B6.out).mono ?_); rintro e wK ⟨rfl, rfl⟩; clear Q4))
        first | go_ret | go_ret2 | ((try simp only [Exit.inBlock, Exit.then]); refine bodyPost_ret (results_tmp3 rfl _ _ _) rfl ?_) | go_end0
        exact ⟨by first | rfl | simp, below_step B2.out B6.out⟩
      · have Q5 := Aside0.mk (fun w' (hb : Below wr.heap.size wr w') => (show Calls Try.prog 9 #[.slice A2 i c2, .slice A8 nl c8] w' fun e w'' => e = .returned (.bool false) ∧ w' = w'' by
          have := sw (part_ok A2 i c2 s A8 nl c8 L w' (R2.out.below (below_step B2.out hb)) (GL.out.below hb))
          rwa [show partB s L = false by
            unfold partB
            have h1 := (rem_len L s).2
            have := HN.out
            cases hr : rem s L with
            | nil => rw [hr] at h1; simp at h1; omega
            | cons a b => rfl] at this))
        have b0 : (((i : Nat) : Int) == ((nl : Nat) : Int)) = false := by simp; omega
        clear SB hnl hpb
        go_wp2_with (first
          | (go_at_call 9; (with_reducible refine Q1.out.mono ?_); rintro e wK ⟨rfl, rfl⟩; clear Q1)
          | (go_at_call 10; (with_reducible refine Q2.out.mono ?_); rintro e w6 ⟨rfl, hb⟩; have B6 := Aside0.mk hb; clear Q2 hb)
          | (go_at_call 9; (with_reducible refine (Q3.out _ B6.out).mono ?_); rintro e wK ⟨rfl, rfl⟩; clear Q3)
          | (go_at_call 9; (with_reducible refine (Q4.out _ B6.out).mono ?_); rintro e wK ⟨rfl, rfl⟩; clear Q4)
          | (go_at_call 9; (with_reducible refine (Q5.out _ B6.out).mono ?_); rintro e wK ⟨rfl, rfl⟩; clear Q5))
        first | go_ret | go_ret2 | ((try simp only [Exit.inBlock, Exit.then]); refine bodyPost_ret (results_tmp3 rfl _ _ _) rfl ?_) | go_end0
        exact ⟨by first | rfl | simp, below_step B2.out B6.out⟩
theorem walk (a0 : Option Addr) (len0 cap0 : Nat) (z0 : List (List Int)) (a1 : Option Addr) (len1 cap1 : Nat) (z1 : List (List Int)) (a2 : Option Addr) (len2 cap2 : Nat) (z2 : List Bool) (W : World) (w0 : Grid W a0 len0 cap0 z0) (w1 : Grid W a1 len1 cap1 z1) (w2 : IsBools W a2 len2 cap2 z2) :
    Calls Try.prog 3 #[.slice a0 len0 cap0, .slice a1 len1 cap1, .slice a2 len2 cap2] W fun e w' => e = .returned (.bool true) ∧ Below W.heap.size W w' := by
  cases h0 : smallB z0 with
  | false => exact parts_e1 a0 len0 cap0 z0 a1 len1 cap1 z1 a2 len2 cap2 W w0 w1 h0
  | true =>
    cases h1 : smallB z1 with
    | false => exact parts_e2 a0 len0 cap0 z0 a1 len1 cap1 z1 a2 len2 cap2 W w0 w1 h0 h1
    | true =>
      rcases Nat.lt_or_ge len2 len1 with h | h
      · exact parts_e3 a0 len0 cap0 z0 a1 len1 cap1 z1 a2 len2 cap2 W w0 w1 h0 h1 (by omega)
      · exact parts_in a0 len0 cap0 z0 a1 len1 cap1 z1 a2 len2 cap2 z2 W w0 w1 w2 h0 h1 h

end Go.Proofs.Ytcgdnkgnknceiaa.HnPartsW
