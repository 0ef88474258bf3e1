/- Contracts of the reference of an end. -/
import Derived.Test.YtflgngnkfcfhpaaReC
import Derived.Test.YtflgngnkfcfhpaaRrP
namespace Go.Proofs.Ytflgngnkfcfhpaa.ReR
open Go.RowKit Go.Proofs.YtflgngnkfcfhpaaW.PrintWords Go.Proofs.YtflgngnkfcfhpaaW.PrintLast Go.Proofs.YtflgngnkfcfhpaaW.PrintMore Go.Proofs.Ytflgngnkfcfhpaa.K Go.Proofs.Ytflgngnkfcfhpaa.ReP Go.Proofs.Ytflgngnkfcfhpaa.ReA Go.Proofs.Ytflgngnkfcfhpaa.ReB Go.Proofs.Ytflgngnkfcfhpaa.ReC Go.Proofs.Ytflgngnkfcfhpaa.RrP
set_option linter.unusedVariables false
set_option linter.unusedSimpArgs false
attribute [local go_sem] max2_int min2_int max_two min_two

set_option maxHeartbeats 8000000 in
set_option maxRecDepth 100000 in
theorem stater_ok (B g : Nat) (v : Value) (R : Rn)  (w : World) (hB : B ≤ w.heap.size) (h : IsO 45 B w g v R.cells R.out) : Calls Try.prog 22 #[.pointer (some ⟨g, 0, none⟩)] w fun e w' => e = .returned (.int .i64 R.state) ∧ w = w' := by
  have c2 := h.tab.at_ 2 (v := .int .i64 R.state) rfl
  have f2 := h.tab.frozen 2
  clear h
  go_enter Try.func22, Try.ntmps22
  go_wp2
  go_ret
  exact ⟨rfl, rfl⟩
set_option maxHeartbeats 8000000 in
set_option maxRecDepth 100000 in
theorem failr_ok (B g : Nat) (v : Value) (R : Rn) (q1 : 0 ≤ R.token) (q2 : R.token < 256) (w : World) (hB : B ≤ w.heap.size) (h : IsO 45 B w g v R.cells R.out) : Calls Try.prog 14 #[.pointer (some ⟨g, 0, none⟩)] w fun e w' => e = .returned (.tuple #[]) ∧ IsO 45 B w' g v (failR R).cells R.out ∧ Mv g v v w w' := by
  have c0 := h.tab.at_ 0 (v := .int .i64 R.flush) rfl
  have f0 := h.tab.frozen 0
  have c2 := h.tab.at_ 2 (v := .int .i64 R.state) rfl
  have f2 := h.tab.frozen 2
  have c3 := h.tab.at_ 3 (v := .int .i64 R.token) rfl
  have f3 := h.tab.frozen 3
  have c4 := h.tab.at_ 4 (v := .int .i64 R.need) rfl
  have f4 := h.tab.frozen 4
  have I0 := Aside0.mk h
  have M0 := Aside0.mk (Mv.refl g v w)
  have HB0 := Aside0.mk hB
  have e1 : IntKind.i64.wrap (R.token + 1) = R.token + 1 := w64 (by omega) (by omega)
  clear h
  go_enter Try.func14, Try.ntmps14
  go_wp2
  first | go_ret | go_ret2 | go_end0 | refine bodyPost_ret0 rfl rfl ?_
  exact ⟨rfl, ((I0.out.put (by decide) 3 (.int .i64 ((R.token + 1) % 256)) (by simp [Rn.cells])).put (by decide) 2 (.int .i64 1) (by simp [Rn.cells])).put (by decide) 4 (.int .i64 R.flush) (by simp [Rn.cells]), ((M0.out.put 3 _).put 2 _).put 4 _⟩
set_option maxHeartbeats 8000000 in
set_option maxRecDepth 100000 in
theorem askr_ok (B g : Nat) (v : Value) (R : Rn) (hl : (R.out.length + 1) * 16 ≤ 140737488355328) (w : World) (hB : B ≤ w.heap.size) (h : IsO 45 B w g v R.cells R.out) : Calls Try.prog 25 #[.pointer (some ⟨g, 0, none⟩)] w fun e w' => e = .returned (.tuple #[]) ∧ (∃ v', IsO 45 B w' g v' (askR R).cells (askR R).out ∧ Mv g v v' w w') := by
  obtain ⟨q, hq⟩ : ∃ q, q = R.out.length := ⟨_, rfl⟩
  obtain ⟨A, cp, rfl, hcp⟩ := h.row.sliceN hq.symm
  have c1 := h.tab.at_ 1 (v := .int .i64 R.again) rfl
  have f1 := h.tab.frozen 1
  have c3 := h.tab.at_ 3 (v := .int .i64 R.token) rfl
  have f3 := h.tab.frozen 3
  have c5 := h.tab.at_ 5 (v := .int .i64 R.left) rfl
  have f5 := h.tab.frozen 5
  have c6 := h.tab.at_ 6 (v := .slice A q cp) rfl
  have f6 := h.tab.frozen 6
  have I0 := Aside0.mk h
  have M0 := Aside0.mk (Mv.refl g (.slice A q cp) w)
  have HB0 := Aside0.mk hB
  have HL := Aside0.mk hl
  have HQ := Aside0.mk hq
  have n6 : ∀ o, (w.alloc o).cell? ⟨g, 6, none⟩ = some (.slice A q cp) := fun o => (h.tab.alloc o).at_ 6 rfl
  clear h hl hB hq
  go_enter Try.func25, Try.ntmps25
  go_wp2
  go_region_law
    ((refine step_pair w.drew (.tmp 6) (.tmp 12) (by rfl) (by rfl) (by rfl) (by rfl) (by rfl) (I0.out.row.drew) HB0.out HL.out ?_; intro v2 w2 HO F T; obtain ⟨A2, cp2, hv2, _⟩ := HO.sliceN (n := q + 1) (by simp [HQ.out]); subst hv2; have J := I0.out.tab.drew.fr F (fun h => own_ne I0.out.row I0.out.tab (by decide) g h rfl); have k1 := J.at_ 1 (v := .int .i64 R.again) rfl; have kf1 := J.frozen 1; have k3 := J.at_ 3 (v := .int .i64 R.token) rfl; have kf3 := J.frozen 3; have k5 := J.at_ 5 (v := .int .i64 R.left) rfl; have kf5 := J.frozen 5; have k6 := J.at_ 6 (v := .slice A q cp) rfl; have kf6 := J.frozen 6; have J2 := Aside0.mk J; have O2 := Aside0.mk HO; have F2 := Aside0.mk F; have T2 := Aside0.mk T; clear J HO F T))
  all_goals
    go_wp2
    first | go_ret | go_ret2 | go_end0 | refine bodyPost_ret0 rfl rfl ?_
    exact ⟨rfl, _, (IsO.putRow (l := R.cells) J2.out (by decide) O2.out).put (by decide) 5 (.int .i64 R.again) (by simp [Rn.cells]), (((M0.out.then (below_drew (Below.refl _ _))).app F2.out T2.out).put 6 _).put 5 _⟩

set_option maxHeartbeats 8000000 in
set_option maxRecDepth 100000 in
theorem noter_ok (B g : Nat) (v : Value) (R : Rn) (ok : Bool) (q1 : 0 ≤ R.need) (q2 : R.need ≤ 1048576) (q4 : 1 ≤ R.flush) (hl : (R.out.length + 1) * 16 ≤ 140737488355328) (w : World) (hB : B ≤ w.heap.size) (h : IsO 45 B w g v R.cells R.out) : Calls Try.prog 15 #[.pointer (some ⟨g, 0, none⟩), .bool ok] w fun e w' => e = .returned (.tuple #[]) ∧ (∃ v', IsO 45 B w' g v' (noteR R ok).cells (noteR R ok).out ∧ Mv g v v' w w') := by
  have c0 := h.tab.at_ 0 (v := .int .i64 R.flush) rfl
  have f0 := h.tab.frozen 0
  have c2 := h.tab.at_ 2 (v := .int .i64 R.state) rfl
  have f2 := h.tab.frozen 2
  have c4 := h.tab.at_ 4 (v := .int .i64 R.need) rfl
  have f4 := h.tab.frozen 4
  have I0 := Aside0.mk h
  have M0 := Aside0.mk (Mv.refl g v w)
  have HB0 := Aside0.mk hB
  have HL := Aside0.mk hl
  clear h hl hB
  by_cases hs : R.state = 1
  · have hne : ¬ R.state ≠ 1 := by simp [hs]
    have e2 : IntKind.i64.wrap (R.need - 1) = R.need - 1 := w64 (by omega) (by omega)
    rw [hs] at c2
    have I1 := Aside0.mk (I0.out.put (by decide) 4 (.int .i64 (R.need - 1)) (by simp [Rn.cells]))
    have M1 := Aside0.mk (M0.out.put 4 (.int .i64 (R.need - 1)))
    cases ok
    · have hz : ¬ noteN R false = 0 := by unfold noteN; simp; omega
      rw [show noteR R false = needR R R.flush by unfold noteR; rw [if_neg hne, if_neg hz]; rfl]
      have bz : (R.flush == 0) = false := beq_eq_false_iff_ne.mpr (by omega)
      have I2 := Aside0.mk (I1.out.put (by decide) 4 (.int .i64 R.flush) (by simp [Rn.cells]))
      have M2 := Aside0.mk (M1.out.put 4 (.int .i64 R.flush))
      clear hs hne hz
      go_enter Try.func15, Try.ntmps15
      go_wp2
      first | go_ret | go_ret2 | go_end0 | refine bodyPost_ret0 rfl rfl ?_
      exact ⟨rfl, _, I2.out, M2.out⟩
    · by_cases hz : R.need = 1
      · rw [show noteR R true = askR (stateR (needR R 0) 2) by unfold noteR; rw [if_neg hne, if_pos (by unfold noteN; simp; omega)]]
        have K1 : Aside0 (IsO 45 B ((w.setCell ⟨g, 4, none⟩ (.int .i64 0)).setCell ⟨g, 2, none⟩ (.int .i64 2)) g v (stateR (needR R 0) 2).cells R.out) := ⟨(I0.out.put (by decide) 4 (.int .i64 0) (by simp [Rn.cells])).put (by decide) 2 (.int .i64 2) (by simp [Rn.cells])⟩
        have M1 := Aside0.mk ((M0.out.put 4 (.int .i64 0)).put 2 (.int .i64 2))
        have e3 : IntKind.i64.wrap (R.need - 1) = 0 := by rw [e2, hz]; rfl
        clear hs hne hz e2
        go_enter Try.func15, Try.ntmps15
        go_wp2_with (first
      | (go_at_call 25; have hcall := askr_ok B g _ (stateR (needR R 0) 2) HL.out _ (hb_set (hb_set HB0.out)) K1.out; (with_reducible refine hcall.mono ?_); clear hcall; rintro e w2 ⟨rfl, v2, i2, m2⟩; have I2 := Aside0.mk i2; have M2 := Aside0.mk (M1.out.trans m2); have m2s := m2.fr.size; clear i2 m2))
        first | go_ret | go_ret2 | go_end0 | refine bodyPost_ret0 rfl rfl ?_
        exact ⟨rfl, _, I2.out, M2.out⟩
      · rw [show noteR R true = needR R (R.need - 1) by unfold noteR; rw [if_neg hne, if_neg (by unfold noteN; simp; omega)]; rfl]
        have bz : (R.need - 1 == 0) = false := beq_eq_false_iff_ne.mpr (by omega)
        clear hs hne hz
        go_enter Try.func15, Try.ntmps15
        go_wp2
        first | go_ret | go_ret2 | go_end0 | refine bodyPost_ret0 rfl rfl ?_
        exact ⟨rfl, _, I1.out, M1.out⟩
  · rw [show noteR R ok = R by unfold noteR; rw [if_pos hs]]
    have bs : (R.state == 1) = false := beq_eq_false_iff_ne.mpr hs
    have bs2 : (R.state != 1) = true := by simp [bne, bs]
    clear hs
    go_enter Try.func15, Try.ntmps15
    go_wp2
    first | go_ret | go_ret2 | go_end0 | refine bodyPost_ret0 rfl rfl ?_
    exact ⟨rfl, _, I0.out, M0.out⟩
set_option maxHeartbeats 8000000 in
set_option maxRecDepth 100000 in
theorem inputr_ok (B g : Nat) (v : Value) (R : Rn) (asked : Bool) (x : Int) (x0 : 0 ≤ x) (x1 : x < 256) (hl : (R.out.length + 1) * 16 ≤ 140737488355328) (w : World) (hB : B ≤ w.heap.size) (h : IsO 45 B w g v R.cells R.out) : Calls Try.prog 18 #[.pointer (some ⟨g, 0, none⟩), .bool asked, .int .u8 x] w fun e w' => e = .returned (.tuple #[]) ∧ (∃ v', IsO 45 B w' g v' (inputR R asked x).cells (inputR R asked x).out ∧ Mv g v v' w w') := by
  obtain ⟨q, hq⟩ : ∃ q, q = R.out.length := ⟨_, rfl⟩
  obtain ⟨A, cp, rfl, hcp⟩ := h.row.sliceN hq.symm
  have c2 := h.tab.at_ 2 (v := .int .i64 R.state) rfl
  have f2 := h.tab.frozen 2
  have c3 := h.tab.at_ 3 (v := .int .i64 R.token) rfl
  have f3 := h.tab.frozen 3
  have c6 := h.tab.at_ 6 (v := .slice A q cp) rfl
  have f6 := h.tab.frozen 6
  have I0 := Aside0.mk h
  have M0 := Aside0.mk (Mv.refl g (.slice A q cp) w)
  have HB0 := Aside0.mk hB
  have n6 : ∀ o, (w.alloc o).cell? ⟨g, 6, none⟩ = some (.slice A q cp) := fun o => (h.tab.alloc o).at_ 6 rfl
  have e1 : IntKind.i64.wrap x = x := w64 (by omega) (by omega)
  have HL := Aside0.mk hl
  have HQ := Aside0.mk hq
  clear h hl hB hq
  cases asked
  · by_cases hs : R.state = 2
    · rw [hs] at c2
      by_cases hx : x = R.token
      · rw [show inputR R false x = stateR R 0 by unfold inputR; rw [if_neg (by simp), if_pos ⟨hs, hx⟩]]
        subst hx
        clear hs
        go_enter Try.func18, Try.ntmps18
        go_wp2
        first | go_ret | go_ret2 | go_end0 | refine bodyPost_ret0 rfl rfl ?_
        exact ⟨rfl, _, I0.out.put (by decide) 2 (.int .i64 0) (by simp [Rn.cells]), M0.out.put 2 _⟩
      · rw [show inputR R false x = R by unfold inputR; rw [if_neg (by simp), if_neg (fun h => hx h.2)]]
        have bx : (x == R.token) = false := beq_eq_false_iff_ne.mpr hx
        clear hs hx
        go_enter Try.func18, Try.ntmps18
        go_wp2
        first | go_ret | go_ret2 | go_end0 | refine bodyPost_ret0 rfl rfl ?_
        exact ⟨rfl, _, I0.out, M0.out⟩
    · rw [show inputR R false x = R by unfold inputR; rw [if_neg (by simp), if_neg (fun h => hs h.1)]]
      have bs : (R.state == 2) = false := beq_eq_false_iff_ne.mpr hs
      clear hs
      go_enter Try.func18, Try.ntmps18
      go_wp2
      first | go_ret | go_ret2 | go_end0 | refine bodyPost_ret0 rfl rfl ?_
      exact ⟨rfl, _, I0.out, M0.out⟩
  · rw [show inputR R true x = outR R (R.out ++ [(2, x)]) from rfl]
    go_enter Try.func18, Try.ntmps18
    go_wp2_with (first | (at_builtin; refine app_pair (.tmp 11) (.tmp 15) rfl rfl rfl rfl I0.out.row HB0.out HL.out ?_; intro v2 w2 HO F T; obtain ⟨A2, cp2, hv2, _⟩ := HO.sliceN (n := q + 1) (by simp [HQ.out]); subst hv2; have J := I0.out.tab.fr F (fun h => own_ne I0.out.row I0.out.tab (by decide) g h rfl); have k6 := J.at_ 6 (v := .slice A q cp) rfl; have kf6 := J.frozen 6; have J2 := Aside0.mk J; have O2 := Aside0.mk HO; have F2 := Aside0.mk F; have T2 := Aside0.mk T; clear J HO F T))
    first | go_ret | go_ret2 | go_end0 | refine bodyPost_ret0 rfl rfl ?_
    exact ⟨rfl, _, IsO.putRow (l := R.cells) J2.out (by decide) O2.out, (M0.out.app F2.out T2.out).put 6 _⟩
set_option maxHeartbeats 8000000 in
set_option maxRecDepth 100000 in
theorem outputr_ok (B g : Nat) (v : Value) (R : Rn)  (w : World) (hB : B ≤ w.heap.size) (h : IsO 45 B w g v R.cells R.out) : Calls Try.prog 21 #[.pointer (some ⟨g, 0, none⟩)] w fun e w' => e = .returned v ∧ Own PK 39 B w' v R.out ∧ IsO 45 B w' g (.slice none 0 0) R.cells [] ∧ Fr (fun k => k = g) w w' := by
  obtain ⟨q, hq⟩ : ∃ q, q = R.out.length := ⟨_, rfl⟩
  obtain ⟨A, cp, rfl, hcp⟩ := h.row.sliceN hq.symm
  have c6 := h.tab.at_ 6 (v := .slice A q cp) rfl
  have f6 := h.tab.frozen 6
  have I0 := Aside0.mk h
  clear h hB hq hcp
  go_enter Try.func21, Try.ntmps21
  go_wp2
  first | go_ret | go_ret2 | go_end0 | refine bodyPost_ret0 rfl rfl ?_
  exact ⟨rfl, own_fr I0.out.row (Fr.put (Fr.refl (fun x => x = g) w) 6 (.slice none 0 0)) (own_ne I0.out.row I0.out.tab (by decide)), IsO.putRow (l := R.cells) I0.out.tab (by decide) (Own.nil _ _ _ _), Fr.put (Fr.refl _ _) 6 _⟩
set_option maxHeartbeats 8000000 in
set_option maxRecDepth 100000 in
theorem cut_ok (n l h : Int) (w : World) : Calls Try.prog 24 #[.int .i64 n, .int .i64 l, .int .i64 h] w fun e w' => e = .returned (.int .i64 (cutQ n l h)) ∧ w = w' := by
  by_cases h0 : n < l
  · rw [cutQ, if_pos h0]
    go_enter Try.func24, Try.ntmps24
    go_wp2
    go_ret
    exact ⟨rfl, rfl⟩
  · by_cases h1 : n > h
    · rw [cutQ, if_neg h0, if_pos h1]
      go_enter Try.func24, Try.ntmps24
      go_wp2
      go_ret
      exact ⟨rfl, rfl⟩
    · rw [cutQ, if_neg h0, if_neg h1]
      go_enter Try.func24, Try.ntmps24
      go_wp2
      go_ret
      exact ⟨rfl, rfl⟩
set_option maxHeartbeats 8000000 in
set_option maxRecDepth 100000 in
theorem newr_ok (flush again : Int) (B : Nat) (w : World) : Calls Try.prog 13 #[.int .i64 flush, .int .i64 again] w fun e w' => ∃ g, e = .returned (.pointer (some ⟨g, 0, none⟩)) ∧ w.heap.size ≤ g ∧ IsO 45 B w' g (.slice none 0 0) (newR flush again).cells [] ∧ Below w.heap.size w w' := by
  go_enter Try.func13, Try.ntmps13
  go_wp2_with (first | (go_at_call 24; (with_reducible refine (cut_ok _ _ _ _).mono ?_); rintro e w' ⟨rfl, rfl⟩))
  go_ret
  exact ⟨_, rfl, Nat.le_refl _, ⟨Ob.new _ 45 _, Own.nil _ _ _ _⟩, below_alloc (Below.refl _ _) _⟩

end Go.Proofs.Ytflgngnkfcfhpaa.ReR
