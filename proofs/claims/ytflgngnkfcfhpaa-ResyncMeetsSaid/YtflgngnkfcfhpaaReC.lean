/- Contracts of an end: Note, Input, New, Clone, Output. -/
import Derived.Test.YtflgngnkfcfhpaaReB
import Derived.Lib.LazyBuf
namespace Go.Proofs.Ytflgngnkfcfhpaa.ReC
open Go.RowKit Go.Proofs.YtflgngnkfcfhpaaW.PrintWords Go.Proofs.YtflgngnkfcfhpaaW.PrintLast Go.Proofs.YtflgngnkfcfhpaaW.PrintMore Go.Proofs.Ytflgngnkfcfhpaa.K Go.Proofs.Ytflgngnkfcfhpaa.ReP Go.Proofs.Ytflgngnkfcfhpaa.ReA Go.Proofs.Ytflgngnkfcfhpaa.ReB
set_option linter.unusedVariables false
set_option linter.unusedSimpArgs false
attribute [local go_sem] max2_int min2_int max_two min_two

set_option maxHeartbeats 8000000 in
set_option maxRecDepth 100000 in
theorem note_ok (B g : Nat) (v : Value) (E : En) (ok : Bool) (hk : Ok E) (hl : (E.out.length + 1) * 16 ≤ 140737488355328) (w : World) (hB : B ≤ w.heap.size) (h : IsO 42 B w g v E.cells E.out) : Calls Try.prog 11 #[.pointer (some ⟨g, 0, none⟩), .bool ok] w fun e w' => e = .returned (.tuple #[]) ∧ (∃ v', IsO 42 B w' g v' (noteE E ok).cells (noteE E ok).out ∧ Mv g v v' w w') := by
  have c0 := h.tab.at_ 0 (v := .int .i64 E.flush) rfl
  have f0 := h.tab.frozen 0
  have c2 := h.tab.at_ 2 (v := .int .i64 E.state) rfl
  have f2 := h.tab.frozen 2
  have c4 := h.tab.at_ 4 (v := .int .i64 E.left) rfl
  have f4 := h.tab.frozen 4
  have I0 := Aside0.mk h
  have M0 := Aside0.mk (Mv.refl g v w)
  have HB0 := Aside0.mk hB
  have q1 := hk.l0
  have q2 := hk.l1
  have q3 := hk.l2
  have q4 := hk.f0
  have HK := Aside0.mk hk
  have HL := Aside0.mk hl
  clear h hl hB hk
  by_cases hs : E.state = 1
  · have hne : ¬ E.state ≠ 1 := by simp [hs]
    have q3 := q3 (.inl hs)
    have e2 : IntKind.i64.wrap (E.left - 1) = E.left - 1 := w64 (by omega) (by omega)
    rw [hs] at c2
    have I1 := Aside0.mk (I0.out.put (by decide) 4 (.int .i64 (E.left - 1)) (by simp [En.cells]))
    have M1 := Aside0.mk (M0.out.put 4 (.int .i64 (E.left - 1)))
    cases ok
    · have hz : ¬ noteL E false = 0 := by unfold noteL; simp; omega
      rw [show noteE E false = leftE E E.flush by unfold noteE; rw [if_neg hne, if_neg hz]; rfl]
      have bz : (E.flush == 0) = false := beq_eq_false_iff_ne.mpr (by omega)
      have I2 := Aside0.mk (I1.out.put (by decide) 4 (.int .i64 E.flush) (by simp [En.cells]))
      have M2 := Aside0.mk (M1.out.put 4 (.int .i64 E.flush))
      clear hs hne hz
      go_enter Try.func11, Try.ntmps11
      go_wp2
      first | go_ret | go_ret2 | go_end0 | refine bodyPost_ret0 rfl rfl ?_
      exact ⟨rfl, _, I2.out, M2.out⟩
    · by_cases hz : E.left = 1
      · rw [show noteE E true = asksE (leftE E 0) by unfold noteE; rw [if_neg hne, if_pos (by unfold noteL; simp; omega)]]
        have K1 : Aside0 (IsO 42 B (w.setCell ⟨g, 4, none⟩ (.int .i64 0)) g v (leftE E 0).cells E.out) := ⟨I0.out.put (by decide) 4 (.int .i64 0) (by simp [En.cells])⟩
        have M1 := Aside0.mk (M0.out.put 4 (.int .i64 0))
        have e3 : IntKind.i64.wrap (E.left - 1) = 0 := by rw [e2, hz]; rfl
        clear hs hne hz e2
        go_enter Try.func11, Try.ntmps11
        go_wp2_with (first
      | (go_at_call 23; have hcall := asks_ok B g _ (leftE E 0) HK.out.t0 HK.out.t1 HL.out _ (hb_set HB0.out) K1.out; (with_reducible refine hcall.mono ?_); clear hcall; rintro e w2 ⟨rfl, v2, i2, m2⟩; have I2 := Aside0.mk i2; have M2 := Aside0.mk (M1.out.trans m2); clear i2 m2))
        first | go_ret | go_ret2 | go_end0 | refine bodyPost_ret0 rfl rfl ?_
        exact ⟨rfl, _, I2.out, M2.out⟩
      · rw [show noteE E true = leftE E (E.left - 1) by unfold noteE; rw [if_neg hne, if_neg (by unfold noteL; simp; omega)]; rfl]
        have bz : (E.left - 1 == 0) = false := beq_eq_false_iff_ne.mpr (by omega)
        clear hs hne hz
        go_enter Try.func11, Try.ntmps11
        go_wp2
        first | go_ret | go_ret2 | go_end0 | refine bodyPost_ret0 rfl rfl ?_
        exact ⟨rfl, _, I1.out, M1.out⟩
  · rw [show noteE E ok = E by unfold noteE; rw [if_pos hs]]
    have bs : (E.state == 1) = false := beq_eq_false_iff_ne.mpr hs
    have bs2 : (E.state != 1) = true := by simp [bne, bs]
    clear hs
    go_enter Try.func11, Try.ntmps11
    go_wp2
    first | go_ret | go_ret2 | go_end0 | refine bodyPost_ret0 rfl rfl ?_
    exact ⟨rfl, _, I0.out, M0.out⟩

set_option maxHeartbeats 8000000 in
set_option maxRecDepth 100000 in
theorem input_ok (B g : Nat) (v : Value) (E : En) (asked : Bool) (x : Int) (x0 : 0 ≤ x) (x1 : x < 256) (hk : Ok E) (hl : (E.out.length + 1) * 16 ≤ 140737488355328) (w : World) (hB : B ≤ w.heap.size) (h : IsO 42 B w g v E.cells E.out) : Calls Try.prog 12 #[.pointer (some ⟨g, 0, none⟩), .bool asked, .int .u8 x] w fun e w' => e = .returned (.tuple #[]) ∧ (∃ v', IsO 42 B w' g v' (inputE E asked x).cells (inputE E asked x).out ∧ Mv g v v' w w') := by
  obtain ⟨q, hq⟩ : ∃ q, q = E.out.length := ⟨_, rfl⟩
  obtain ⟨A, cp, rfl, hcp⟩ := h.row.sliceN hq.symm
  have c2 := h.tab.at_ 2 (v := .int .i64 E.state) rfl
  have f2 := h.tab.frozen 2
  have c3 := h.tab.at_ 3 (v := .int .u8 E.token) rfl
  have f3 := h.tab.frozen 3
  have c5 := h.tab.at_ 5 (v := .slice A q cp) rfl
  have f5 := h.tab.frozen 5
  have I0 := Aside0.mk h
  have M0 := Aside0.mk (Mv.refl g (.slice A q cp) w)
  have HB0 := Aside0.mk hB
  have n5 : ∀ o, (w.alloc o).cell? ⟨g, 5, none⟩ = some (.slice A q cp) := fun o => (h.tab.alloc o).at_ 5 rfl
  have e1 : IntKind.i64.wrap x = x := w64 (by omega) (by omega)
  have HL := Aside0.mk hl
  have HQ := Aside0.mk hq
  clear h hl hB hq
  cases asked
  · by_cases hs : E.state = 2
    · rw [hs] at c2
      by_cases hx : E.token = x
      · rw [show inputE E false x = stateE E 0 by unfold inputE; rw [if_neg (by simp), if_pos ⟨hs, hx⟩]]
        subst hx
        clear hs
        go_enter Try.func12, Try.ntmps12
        go_wp2
        first | go_ret | go_ret2 | go_end0 | refine bodyPost_ret0 rfl rfl ?_
        exact ⟨rfl, _, I0.out.put (by decide) 2 (.int .i64 0) (by simp [En.cells]), M0.out.put 2 _⟩
      · rw [show inputE E false x = E by unfold inputE; rw [if_neg (by simp), if_neg (fun h => hx h.2)]]
        have bx : (E.token == x) = false := beq_eq_false_iff_ne.mpr hx
        clear hs hx
        go_enter Try.func12, Try.ntmps12
        go_wp2
        first | go_ret | go_ret2 | go_end0 | refine bodyPost_ret0 rfl rfl ?_
        exact ⟨rfl, _, I0.out, M0.out⟩
    · rw [show inputE E false x = E by unfold inputE; rw [if_neg (by simp), if_neg (fun h => hs h.1)]]
      have bs : (E.state == 2) = false := beq_eq_false_iff_ne.mpr hs
      clear hs
      go_enter Try.func12, Try.ntmps12
      go_wp2
      first | go_ret | go_ret2 | go_end0 | refine bodyPost_ret0 rfl rfl ?_
      exact ⟨rfl, _, I0.out, M0.out⟩
  · rw [show inputE E true x = outE E (E.out ++ [(2, x)]) from rfl]
    go_enter Try.func12, Try.ntmps12
    go_wp2_with (first | (at_builtin; refine app_pair (.tmp 12) (.tmp 16) rfl rfl rfl rfl I0.out.row HB0.out HL.out ?_; intro v2 w2 HO F T; obtain ⟨A2, cp2, hv2, _⟩ := HO.sliceN (n := q + 1) (by simp [HQ.out]); subst hv2; have J := I0.out.tab.fr F (fun h => own_ne I0.out.row I0.out.tab (by decide) g h rfl); have k5 := J.at_ 5 (v := .slice A q cp) rfl; have kf5 := J.frozen 5; have J2 := Aside0.mk J; have O2 := Aside0.mk HO; have F2 := Aside0.mk F; have T2 := Aside0.mk T; clear J HO F T))
    first | go_ret | go_ret2 | go_end0 | refine bodyPost_ret0 rfl rfl ?_
    exact ⟨rfl, _, IsO.putRow (l := E.cells) J2.out (by decide) O2.out, (M0.out.app F2.out T2.out).put 5 _⟩
theorem rds_nil {w : World} : Rds PK w none 0 0 [] := ⟨(Own.nil PK 39 0 w).rds.row, rfl, Nat.le_refl _⟩
theorem lit0 (B : Nat) (w : World) (hB : B ≤ w.heap.size) : Own PK 39 B (w.alloc (.cells #[] 39)) (.slice (some ⟨w.heap.size, 0, none⟩) 0 0) [] := by
  have h2 := World.ownsRow_lit (base := B) (e := 39) (size := 2) w #[] 0 hB (by simp [maxLen]) (by simp)
  refine ⟨fun _ _ => trivial, [], by simpa [PK_sz] using h2, ?_⟩
  exact Reps.none _ _
theorem rds_own {B n c : Nat} {w : World} {A : Option Addr} {xs : List (Int × Int)} (h : Own PK 39 B w (.slice A n c) xs) : Rds PK w A n c xs := h.rds
set_option maxHeartbeats 8000000 in
set_option maxRecDepth 100000 in
theorem clone_ok (A : Option Addr) (n c : Nat) (xs : List (Int × Int)) (w : World) (h : Rds PK w A n c xs) (hl : n * 16 ≤ 140737488355328) :
    Calls Try.prog 26 #[.slice A n c] w fun e w' => ∃ v', e = .returned v' ∧ Own PK 39 w.heap.size w' v' xs ∧ Below w.heap.size w w' := by
  have HR := Aside0.mk h
  have HL := Aside0.mk hl
  cases A with
  | none =>
    have hn : n = 0 := by
      rcases Nat.eq_zero_or_pos n with h0 | h0
      · exact h0
      · obtain ⟨ad, ha⟩ := h.some_at 0 h0
        cases ha
    subst hn
    obtain rfl : xs = [] := List.eq_nil_of_length_eq_zero h.len.symm
    clear h hl
    have hb : (binOp .eql 36 (.slice none 0 c) (.slice none 0 0)).run Try.prog w = .ok (.bool true) w := Go.run_eql_slice_nil (P := Try.prog) w 36 39 none 0 c Try.underlying36
    go_enter Try.func26, Try.ntmps26
    go_wp2
    go_ret
    exact ⟨_, rfl, Own.nil _ _ _ _, Below.refl _ _⟩
  | some ad =>
    clear h hl
    have hb : (binOp .eql 36 (.slice (some ad) n c) (.slice none 0 0)).run Try.prog w = .ok (.bool false) w := Go.run_eql_slice_nil (P := Try.prog) w 36 39 (some ad) n c Try.underlying36
    go_enter Try.func26, Try.ntmps26
    go_wp2_with (first | (at_builtin; refine Kd.R_append_rows PK (w0 := w) w.heap.size rfl (.tmp 5) (.tmp 6) 36 39 (.agg #[.int .i64 0, .int .i64 0]) 16 rfl Try.underlying36 info39 rfl (by decide) (by decide) (.slice (some ⟨w.heap.size, 0, none⟩) 0 0) [] xs (some ad) n c (fun _ => True) (fun _ => False) rfl rfl (lit0 w.heap.size w (Nat.le_refl _)).out (HR.out.alloc _).row (fun x cs hx => by rw [PK_K hx]; exact PK_M _ _ _ _) (fun _ h => h.elim) (fun _ _ => trivial) (below_alloc (Below.refl _ _) _) (by simp) (by simpa using HL.out) ?_; intro v2 w2 HO hb hg hat; obtain ⟨A2, cp2, hv2, _⟩ := (Own.mk HO).slice; subst hv2; have O2 := Aside0.mk (Own.mk HO); have B2 := Aside0.mk hb; clear HO hb hg hat))
    go_ret
    exact ⟨_, rfl, O2.out, B2.out⟩

end Go.Proofs.Ytflgngnkfcfhpaa.ReC
