/- The law of fitting sessions: the walk. -/
import Derived.Test.YtcgdnkgnknceiaaHnU
import Derived.Deep.RegionLaw
namespace Go.Proofs.Ytcgdnkgnknceiaa.HnFitsW
open Go.RowKit Go.Proofs.YtcgdnkgnknceiaaW.PrintWords Go.Proofs.YtcgdnkgnknceiaaW.PrintLast Go.Proofs.YtcgdnkgnknceiaaW.PrintMore Go.Proofs.Ytcgdnkgnknceiaa.K Go.Proofs.Ytcgdnkgnknceiaa.OpenC Go.Proofs.Ytcgdnkgnknceiaa.HnA Go.Proofs.Ytcgdnkgnknceiaa.HnB Go.Proofs.Ytcgdnkgnknceiaa.HnC Go.Proofs.Ytcgdnkgnknceiaa.HnD Go.Proofs.Ytcgdnkgnknceiaa.HnS Go.Proofs.Ytcgdnkgnknceiaa.HnT Go.Proofs.Ytcgdnkgnknceiaa.HnU
set_option linter.unusedVariables false
set_option linter.unusedSimpArgs false
attribute [local go_sem] max2_int min2_int max_two min_two

theorem info22 : (Try.prog.info? 22).map (fun i => (i.zero, i.size, i.bytes)) = some (some (.slice none 0 0), 1, 24) := by kernel_rfl
/-- A row of headers of rows of the call's own; what they lead to was there before. -/
structure HRow3 (w w' : World) (v : Value) (L : List (List (List Int))) : Prop where
  out : ∃ hs, Own HK 22 w.heap.size w' v hs ∧ hs.length = L.length ∧ ∀ (i : Nat) (h : Option Addr × Nat × Nat) (x : List (List Int)), hs[i]? = some h → L[i]? = some x → Gr w (encH h) x
theorem HRow3.nil (w w' : World) : HRow3 w w' (.slice none 0 0) [] := ⟨[], Own.nil _ _ _ _, rfl, fun i h x hh => by simp at hh⟩
theorem HRow3.below {w w' w2 : World} {v : Value} {L : List (List (List Int))} (h : HRow3 w w' v L) (hb : Below w'.heap.size w' w2) : HRow3 w w2 v L := by
  obtain ⟨hs, ho, hl, hx⟩ := h.out
  exact ⟨hs, ho.below hb, hl, hx⟩
theorem HRow3.slice {w w' : World} {v : Value} {L : List (List (List Int))} (h : HRow3 w w' v L) {n : Nat} (hn : L.length = n) : ∃ A c, v = .slice A n c ∧ n ≤ c := by
  obtain ⟨hs, ho, hl, hx⟩ := h.out
  exact ho.sliceN (hl.trans hn)
theorem HRow3.grid {w w' : World} {A : Option Addr} {n c : Nat} {L : List (List (List Int))} (h : HRow3 w w' (.slice A n c) L) (hb : Below w.heap.size w w') (hm : n ≤ 9223372036854775807) : Grid3 w' A n c L := by
  obtain ⟨hs, ho, hl, hx⟩ := h.out
  have hr := ho.rds
  refine ⟨hr.len.trans hl, hr.cap, hm, fun i x hi => ?_⟩
  have hi2 : i < L.length := (List.getElem?_eq_some_iff.1 hi).1
  have hi3 : hs[i]? = some (hs[i]'(by omega)) := by simp
  obtain ⟨g, hA, _, _, hc, _⟩ := Own.elem (enc := encH) (h1 := fun _ => rfl) (none, 0, 0) ho i (by rw [hr.len, hl]; exact hi2)
  subst hA
  refine ⟨⟨g, 0, none⟩, encH (hs[i]'(by omega)), rfl, ?_, (hx i _ x hi3 hi).below hb⟩
  rw [add_at, Nat.zero_add, hc]
  simp [rdOf, List.getD_eq_getElem?_getD, hi3]
section
variable {ops : Array Oper} {rest : List Oper} {o : Oper} {a : Act} {Q : Exit → Act → World → Prop} {Kc : Act → World → Prop}
/-- append of one header, as a step of a region. -/
theorem step_hdr {W' : World} {w : World} (W : World) {v : Value} {L : List (List (List Int))} {A : Option Addr} {n c : Nat} {y : List (List Int)}
    (s x : Operand) (hw : Region.wanted o (yielded ops a.tmps) = true) (ho : o.op = .call { callee := .builtin .append, args := #[s, x], argTypes := #[30, 30] })
    (he : W.alloc (.cells #[.slice A n c] 22) = W') (hs : a.eval s = v) (hx : a.eval x = .slice (some ⟨W.heap.size, 0, none⟩) 1 1)
    (HO : HRow3 w W v L) (HB : Below w.heap.size w W) (hy : Gr w (.slice A n c) y) (hl : (L.length + 1) * 24 ≤ 140737488355328)
    (h : ∀ v1 w1, HRow3 w w1 v1 (L ++ [y]) → Below w.heap.size w w1 → Kc (a.put o.dst v1) w1) :
    if Region.wanted o (yielded ops a.tmps) = true then Oper.wp Try.prog o a W' Kc Q else Kc (a.put o.dst undef) W' := by
  subst he
  obtain ⟨hs', hown, hlen, hrd⟩ := HO.out
  refine Kd.R_append_step HK (w0 := w) w.heap.size hw s x 30 22 (.slice none 0 0) 24 ho Try.underlying30 info22 rfl (by decide) (by decide) v hs' (A, n, c) [.slice A n c] (fun _ => True) (fun _ => False) hs hx rfl (fun _ h => h.elim) (fun _ _ => trivial) hown.out HB HB.size (by rw [hlen]; exact hl) ?_
  intro v1 w1 h1 h2 h3 _
  refine h v1 w1 ⟨hs' ++ [(A, n, c)], ⟨h1⟩, by simp [hlen], fun i hh z e1 e2 => ?_⟩ h2
  by_cases hi : i < hs'.length
  · rw [List.getElem?_append_left hi] at e1
    rw [List.getElem?_append_left (by omega)] at e2
    exact hrd i hh z e1 e2
  · have hi2 : i = hs'.length := by
      have := (List.getElem?_eq_some_iff.1 e1).1
      simp at this
      omega
    subst hi2
    rw [List.getElem?_append_right (Nat.le_refl _)] at e1
    rw [hlen, List.getElem?_append_right (Nat.le_refl _)] at e2
    simp at e1 e2
    subst e1 e2
    exact hy
end
/-- Beginnings of some, in order. -/
inductive Fit : List (List (List Int)) → List (List (List Int)) → Prop
  | nil (ss) : Fit [] ss
  | pass (hs s ss) : Fit hs ss → Fit hs (s :: ss)
  | take (h s hs ss) : beginsB h s = true → Fit hs ss → Fit (h :: hs) (s :: ss)
theorem Fit.tail {h : List (List Int)} {hs ss : List (List (List Int))} (f : Fit (h :: hs) ss) : Fit hs ss := by
  generalize e : h :: hs = g at f
  induction f with
  | nil => cases e
  | pass g s ss f ih => exact Fit.pass _ _ _ (ih e)
  | take h' s hs' ss hb f _ =>
    cases e
    exact Fit.pass _ _ _ f
theorem skip_fit (h : List (List Int)) (hs : List (List (List Int))) : ∀ said, Fit (h :: hs) said → ∃ r, skip h said = some r ∧ Fit hs r := by
  intro said
  induction said with
  | nil => intro f; cases f
  | cons s ss ih =>
    intro f
    by_cases hb : beginsB h s = true
    · refine ⟨ss, by rw [skip, if_pos hb], ?_⟩
      cases f with
      | pass _ _ _ f => exact f.tail
      | take _ _ _ _ _ f => exact f
    · rw [skip, if_neg hb]
      cases f with
      | pass _ _ _ f => exact ih f
      | take _ _ _ _ hb2 f => exact absurd hb2 hb
theorem sess_fit : ∀ (hs said : List (List (List Int))), Fit hs said → sess hs said = true := by
  intro hs
  induction hs with
  | nil => intro said _; rfl
  | cons h hs ih =>
    intro said f
    rw [sess_cons]
    by_cases h0 : h = []
    · rw [if_pos h0]
      exact ih said f.tail
    · rw [if_neg h0]
      obtain ⟨r, e, f2⟩ := skip_fit h hs said f
      rw [e]
      exact ih r f2
theorem Fit.snocPass {hs ss : List (List (List Int))} (f : Fit hs ss) (s : List (List Int)) : Fit hs (ss ++ [s]) := by
  induction f with
  | nil => exact Fit.nil _
  | pass hs s' ss f ih => exact Fit.pass _ _ _ ih
  | take h s' hs ss hb f ih => exact Fit.take _ _ _ _ hb ih
theorem Fit.snocTake {hs ss : List (List (List Int))} (f : Fit hs ss) (h s : List (List Int)) (hb : beginsB h s = true) : Fit (hs ++ [h]) (ss ++ [s]) := by
  induction f with
  | nil ss =>
    induction ss with
    | nil => exact Fit.take _ _ _ _ hb (Fit.nil _)
    | cons x ss ih => exact Fit.pass _ _ _ ih
  | pass hs s' ss f ih => exact Fit.pass _ _ _ ih
  | take h' s' hs ss hb' f ih => exact Fit.take _ _ _ _ hb' ih
theorem begins_refl (s : List (List Int)) : beginsB s s = true := by simp [beginsB]
theorem begins_take (s : List (List Int)) (m : Nat) (hm : m ≤ s.length) : beginsB (s.take m) s = true := by
  simp [beginsB, List.length_take, Nat.min_eq_left hm]
  omega
theorem Fit.self : ∀ ss : List (List (List Int)), Fit ss ss := by
  intro ss
  induction ss with
  | nil => exact Fit.nil _
  | cons s ss ih => exact Fit.take _ _ _ _ (begins_refl s) ih
theorem and1023 (x : Int) : ∃ r : Nat, r ≤ 1023 ∧ bits .and .i64 x 1023 = (r : Int) := by
  simp only [bits]
  have h1 : (BitVec.ofInt IntKind.i64.bits x &&& BitVec.ofInt IntKind.i64.bits 1023).toNat ≤ 1023 := by
    rw [BitVec.toNat_and]
    exact Nat.and_le_right
  generalize (BitVec.ofInt IntKind.i64.bits x &&& BitVec.ofInt IntKind.i64.bits 1023).toNat = m at *
  rw [IntKind.wrap_i64]
  exact ⟨m, h1, by omega⟩
theorem sw {f : FuncId} {args : Array Value} {w : World} {v : Value} (h : Calls Try.prog f args w fun e w' => e = .returned v ∧ w' = w) : Calls Try.prog f args w fun e w' => e = .returned v ∧ w = w' := h.mono fun _ _ h => ⟨h.1, h.2.symm⟩
set_option maxHeartbeats 8000000 in
set_option maxRecDepth 100000 in
theorem fits_in (A1 : Option Addr) (n1 c1 : Nat) (said : List (List (List Int))) (A2 : Option Addr) (n2 c2 : Nat) (ns : List Int) (w : World) (r1 : Grid3 w A1 n1 c1 said) (r2 : Rds (Kd.int .i64) w A2 n2 c2 ns) (h1 : n1 ≤ 20) (h2 : n1 ≤ n2) :
    Calls Try.prog 6 #[.slice A1 n1 c1, .slice A2 n2 c2] w fun e w' => e = .returned (.bool true) ∧ Below w.heap.size w w' := by
  have R1 := Aside0.mk r1
  have R2 := Aside0.mk r2
  have HN := Aside0.mk r1.len
  have hcn := r1.cap
  have hcn2 := r2.cap
  have g1 : ¬ (20 : Int) < ((n1 : Nat) : Int) := by omega
  have g2 : ¬ ((n2 : Nat) : Int) < ((n1 : Nat) : Int) := by omega
  have HNN := Aside0.mk h2
  clear r1 r2
  go_enter Try.func6, Try.ntmps6
  go_wp2_with (first | (go_at_call 7; (with_reducible refine (alive_ok _).mono ?_); rintro e w1 ⟨rfl, hb1⟩; have HB1 := Aside0.mk hb1; clear hb1))
  clear h2 g2
  try generalize decide (n2 < n1) = dd
  have L1 := Aside0.mk (HRow3.nil w w1)
  go_loopg [6, 7] (n1 + 1) (fun kq v6 v7 w' => ∃ (i : Nat) (L : List (List (List Int))), v7 = .int .i64 i ∧ i ≤ n1 ∧ kq = n1 + 1 - i ∧ Aside0 (L.length ≤ i) ∧ Aside0 (Fit L (said.take i)) ∧ Aside0 (HRow3 w w' v6 L) ∧ Aside0 (Below w.heap.size w w'))
  case atStart => exact ⟨0, [], rfl, by omega, by omega, ⟨Nat.le_refl _⟩, ⟨Fit.nil _⟩, L1, HB1⟩
  case round =>
    clear L1 HB1
    obtain ⟨i, L, rfl, hi, hkq, LE, FT, H2, B2⟩ := hrel
    obtain ⟨nl, hnl⟩ : ∃ nl, L.length = nl := ⟨_, rfl⟩
    obtain ⟨A8, c8, hv8, hc8⟩ := H2.out.slice hnl
    subst hv8
    have hnl2 : nl ≤ i := by rw [← hnl]; exact LE.out
    have NL := Aside0.mk hnl
    clear hnl
    by_cases hlt : i < n1
    · obtain ⟨x, ad, A3, n3, c3, hx, hA, hcell, hr⟩ := g3get R1.out i hlt
      cases hA
      have TS := Aside0.mk (take_sg said i x hx)
      have FX := Aside0.mk (fun w' (hb : Below w.heap.size w w') => (hb.cell (World.block_lt_of_cell? w _ hcell)).trans hcell)
      have hc' := FX.out _ B2.out
      obtain ⟨ad2, hA2⟩ := R2.out.some_at i (by have := HNN.out; omega)
      cases hA2
      have FY := Aside0.mk (fun w' (hb : Below w.heap.size w w') => R2.out.cell_int hb i (by have := HNN.out; omega))
      obtain ⟨y, hy⟩ : ∃ y, y = rd ns i := ⟨_, rfl⟩
      rw [← hy] at FY
      have hcy := FY.out _ B2.out
      have hii : ((i : Nat) : Int) < ((n2 : Nat) : Int) := by have := HNN.out; omega
      have SM := Aside0.mk (sw (small_ok A3 n3 c3 x wr (hr.below B2.out)))
      have R3 := Aside0.mk hr
      have L3 := Aside0.mk hr.len
      have hcap3 := hr.cap
      have hmax3 := hr.max
      clear hcell hr hx hy
      cases hs : smallB x
      · rw [hs] at SM
        clear hs
        go_wp2_with (first | (go_at_call 8; (with_reducible refine SM.out.mono ?_); rintro e wK ⟨rfl, rfl⟩))
        first | go_ret | go_ret2 | ((try simp only [Exit.inBlock, Exit.then]); refine bodyPost_ret (results_tmp3 rfl _ _ _) rfl ?_) | go_end0
        exact ⟨rfl, B2.out⟩
      · rw [hs] at SM
        have hn3 : n3 ≤ 60 := by rw [L3.out]; unfold smallB at hs; rw [Bool.and_eq_true] at hs; simpa using hs.2
        clear hs
        by_cases hb1 : bits .and .i64 y 1 = 1
        · have b1 : (bits .and .i64 y 1 == 1) = true := beq_iff_eq.mpr hb1
          obtain ⟨r, hr2, er⟩ := and1023 (y / 2)
          obtain ⟨m, em⟩ : ∃ m : Nat, m = r % (n3 + 1) := ⟨_, rfl⟩
          have hm : m ≤ n3 := by have := Nat.mod_lt r (show 0 < n3 + 1 by omega); omega
          obtain ⟨q, hq⟩ : ∃ q, q = n3 + 1 := ⟨_, rfl⟩
          have ewn : IntKind.i64.wrap (((n3 : Nat) : Int) + 1) = ((q : Nat) : Int) := by rw [i64_w]; unfold wrap64; omega
          have em2 : ((r : Nat) : Int).tmod ((q : Nat) : Int) = ((m : Nat) : Int) := by
            rw [Int.tmod_eq_emod_of_nonneg (by omega), em, hq]
            simp
          have hz : ¬ q = 0 := by omega
          have hm0 : (0 : Int) ≤ ((m : Nat) : Int) := by omega
          clear hq
          have hmc : ((m : Nat) : Int) ≤ ((c3 : Nat) : Int) := by omega
          have GY : Aside0 (Gr w (.slice A3 m c3) (x.take m)) := ⟨⟨_, _, _, rfl, grid_take R3.out hm⟩⟩
          have FT2 : Aside0 (Fit (L ++ [x.take m]) (said.take (i + 1))) := ⟨by rw [TS.out]; exact FT.out.snocTake _ _ (begins_take x m (by have := L3.out; omega))⟩
          have hlen : (L.length + 1) * 24 ≤ 140737488355328 := by have := NL.out; omega
          have H2 := H2
          clear hb1 em
          go_wp2_with (first | (go_at_call 8; (with_reducible refine SM.out.mono ?_); rintro e wK ⟨rfl, rfl⟩))
          have BD := Aside0.mk (below_drew B2.out)
          have HD := Aside0.mk (H2.out.below (below_drew (Below.refl _ _)))
          go_region_law (refine step_hdr wr.drew (.tmp 42) (.tmp 61) (by rfl) (by rfl) (by rfl) (by rfl) (by rfl) HD.out BD.out GY.out hlen ?_; intro v5 w5 H5 B5; obtain ⟨A9, c9, hv9, hc9⟩ := H5.slice (n := nl + 1) (by simp [NL.out]); subst hv9; have H5 := Aside0.mk H5; have B5 := Aside0.mk B5)
          all_goals
            go_wp2_with fail
            go_roundg (n1 - i)
            case measure => omega
            case rel => exact ⟨i + 1, L ++ [x.take m], by go_num, by omega, by omega, ⟨by have := LE.out; simp; omega⟩, FT2, H5, B5⟩
        · have b1 : (bits .and .i64 y 1 == 1) = false := beq_eq_false_iff_ne.mpr hb1
          have FT2 : Aside0 (Fit L (said.take (i + 1))) := ⟨by rw [TS.out]; exact FT.out.snocPass x⟩
          clear hb1
          go_wp2_with (first | (go_at_call 8; (with_reducible refine SM.out.mono ?_); rintro e wK ⟨rfl, rfl⟩))
          go_roundg (n1 - i)
          case measure => omega
          case rel => exact ⟨i + 1, L, by go_num, by omega, by omega, ⟨by have := LE.out; omega⟩, FT2, H2, B2⟩
    · obtain rfl : i = n1 := by omega
      rw [List.take_of_length_le (by have := HN.out; omega)] at FT
      have GL := Aside0.mk (H2.out.grid B2.out (by omega))
      have Q1 := Aside0.mk (fun w' (hb : Below wr.heap.size wr w') => (show Calls Try.prog 14 #[.slice A8 nl c8, .slice A1 i c1] w' fun e w'' => e = .returned (.bool true) ∧ Below w'.heap.size w' w'' by
        have := sessions_ok A8 nl c8 L A1 i c1 said w' (Grid3.below GL.out hb) (Grid3.below R1.out (below_step B2.out hb))
        rwa [sess_fit L said FT.out] at this))
      have Q2 := Aside0.mk (fun w' (hb : Below wr.heap.size wr w') => (show Calls Try.prog 14 #[.slice A1 i c1, .slice A1 i c1] w' fun e w'' => e = .returned (.bool true) ∧ Below w'.heap.size w' w'' by
        have := sessions_ok A1 i c1 said A1 i c1 said w' (Grid3.below R1.out (below_step B2.out hb)) (Grid3.below R1.out (below_step B2.out hb))
        rwa [sess_fit said said (Fit.self said)] at this))
      have Q3 := Aside0.mk (fun w' (hb : Below wr.heap.size wr w') => (show Calls Try.prog 14 #[.slice none 0 0, .slice A1 i c1] w' fun e w'' => e = .returned (.bool true) ∧ Below w'.heap.size w' w'' by
        have := sessions_ok none 0 0 [] A1 i c1 said w' g3_none (Grid3.below R1.out (below_step B2.out hb))
        exact this))
      have BR := Aside0.mk (Below.refl wr.heap.size wr)
      clear FT
      go_wp2_with (first
        | (go_at_call 14; (with_reducible refine (Q1.out _ BR.out).mono ?_); rintro e w5 ⟨rfl, hb⟩; have B5 := Aside0.mk hb; clear Q1 BR hb)
        | (go_at_call 14; (with_reducible refine (Q2.out _ B5.out).mono ?_); rintro e w6 ⟨rfl, hb⟩; have B6 := Aside0.mk (below_step B5.out hb); clear Q2 hb)
        | (go_at_call 14; (with_reducible refine (Q3.out _ B6.out).mono ?_); rintro e w7 ⟨rfl, hb⟩; have B7 := Aside0.mk (below_step B6.out hb); clear Q3 hb))
      first | go_ret | go_ret2 | ((try simp only [Exit.inBlock, Exit.then]); refine bodyPost_ret (results_tmp3 rfl _ _ _) rfl ?_) | go_end0
      exact ⟨by first | rfl | simp, below_step B2.out B7.out⟩

set_option maxHeartbeats 8000000 in
set_option maxRecDepth 100000 in
theorem fits_early (A1 : Option Addr) (n1 c1 : Nat) (A2 : Option Addr) (n2 c2 : Nat) (w : World) (h : 20 < n1 ∨ n2 < n1) (m1 : n1 ≤ 9223372036854775807) (m2 : n2 ≤ 9223372036854775807) :
    Calls Try.prog 6 #[.slice A1 n1 c1, .slice A2 n2 c2] w fun e w' => e = .returned (.bool true) ∧ Below w.heap.size w w' := by
  have key : (20 : Int) < (n1 : Int) ∨ (¬ (20 : Int) < (n1 : Int) ∧ (n2 : Int) < (n1 : Int)) := by omega
  clear h
  rcases key with h1 | ⟨h1, h2⟩
  all_goals
    go_enter Try.func6, Try.ntmps6
    go_wp2_with (first | (go_at_call 7; (with_reducible refine (alive_ok _).mono ?_); rintro e w1 ⟨rfl, hb1⟩; have HB1 := Aside0.mk hb1; clear hb1))
    first | go_ret | go_ret2 | ((try simp only [Exit.inBlock, Exit.then]); refine bodyPost_ret (results_tmp3 rfl _ _ _) rfl ?_) | go_end0
    exact ⟨rfl, HB1.out⟩
theorem walk (a0 : Option Addr) (len0 cap0 : Nat) (z0 : List (List (List Int))) (a1 : Option Addr) (len1 cap1 : Nat) (z1 : List Int) (W : World) (w0 : Grid3 W a0 len0 cap0 z0) (w1 : IsRow .i64 W a1 len1 cap1 z1) (_y1 : len1 * 8 ≤ 140737488351232) :
    Calls Try.prog 6 #[.slice a0 len0 cap0, .slice a1 len1 cap1] W fun e w' => e = .returned (.bool true) ∧ Below W.heap.size W w' := by
  obtain ⟨ns, hr, hm, hw⟩ := rds_of_row w1
  by_cases h : 20 < len0 ∨ len1 < len0
  · exact fits_early a0 len0 cap0 a1 len1 cap1 W h w0.max hm
  · exact fits_in a0 len0 cap0 z0 a1 len1 cap1 ns W w0 hr (by omega) (by omega)

end Go.Proofs.Ytcgdnkgnknceiaa.HnFitsW
