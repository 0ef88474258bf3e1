/- Contracts of an end: New, Output, Pass. -/
import Derived.Test.YtflgngnkfcfhpaaReC
namespace Go.Proofs.Ytflgngnkfcfhpaa.ReD
open Go.RowKit Go.Proofs.YtflgngnkfcfhpaaW.PrintWords Go.Proofs.YtflgngnkfcfhpaaW.PrintLast Go.Proofs.YtflgngnkfcfhpaaW.PrintMore Go.Proofs.Ytflgngnkfcfhpaa.K Go.Proofs.Ytflgngnkfcfhpaa.ReP Go.Proofs.Ytflgngnkfcfhpaa.ReA Go.Proofs.Ytflgngnkfcfhpaa.ReB Go.Proofs.Ytflgngnkfcfhpaa.ReC
set_option linter.unusedVariables false
set_option linter.unusedSimpArgs false
attribute [local go_sem] max2_int min2_int max_two min_two

set_option maxHeartbeats 8000000 in
set_option maxRecDepth 100000 in
theorem new_ok (flush again : Int) (B : Nat) (w : World) (hB : B ≤ w.heap.size) : Calls Try.prog 8 #[.int .i64 flush, .int .i64 again] w fun e w' => ∃ g, e = .returned (.pointer (some ⟨g, 0, none⟩)) ∧ w.heap.size ≤ g ∧ IsO 42 B w' g (.slice none 0 0) (newE flush again).cells [] ∧ Below w.heap.size w w' := by
  have key : ∀ n h : Int, 1 < h → (n > h ∧ cutQ n 1 h = h) ∨ (n ≤ 1 ∧ cutQ n 1 h = 1) ∨ (¬ n > h ∧ ¬ n ≤ 1 ∧ cutQ n 1 h = n) := by
    intro n h hh
    unfold cutQ
    (repeat' split) <;> omega
  rcases key flush 1000 (by omega) with ⟨h1, e1⟩ | ⟨h1, e1⟩ | ⟨h1, h1', e1⟩
  all_goals rcases key again 1048576 (by omega) with ⟨h2, e2⟩ | ⟨h2, e2⟩ | ⟨h2, h2', e2⟩
  all_goals
    rw [newE, e1, e2]
    clear key e1 e2 hB
    go_enter Try.func8, Try.ntmps8
    go_wp2
    go_ret
    exact ⟨_, rfl, Nat.le_refl _, ⟨Ob.new _ 42 _, Own.nil _ _ _ _⟩, below_alloc (Below.refl _ _) _⟩
set_option maxHeartbeats 8000000 in
set_option maxRecDepth 100000 in
theorem output_ok (B g : Nat) (v : Value) (E : En) (hl : E.out.length * 16 ≤ 140737488355328) (w : World) (hB : B ≤ w.heap.size) (h : IsO 42 B w g v E.cells E.out) : Calls Try.prog 20 #[.pointer (some ⟨g, 0, none⟩)] w fun e w' => ∃ v1, e = .returned v1 ∧ Own PK 39 w.heap.size w' v1 E.out ∧ IsO 42 B w' g (.slice none 0 0) E.cells [] ∧ Mv g v (.slice none 0 0) w w' := by
  obtain ⟨q, hq⟩ : ∃ q, q = E.out.length := ⟨_, rfl⟩
  rw [← hq] at hl
  obtain ⟨A, cp, rfl, hcp⟩ := h.row.sliceN hq.symm
  have HR := Aside0.mk (show Rds PK w A q cp E.out from h.row.rds)
  have c5 := h.tab.at_ 5 (v := .slice A q cp) rfl
  have f5 := h.tab.frozen 5
  have I0 := Aside0.mk h
  have M0 := Aside0.mk (Mv.refl g (.slice A q cp) w)
  have HB0 := Aside0.mk hB
  have HL := Aside0.mk hl
  have HQ := Aside0.mk hq
  clear h hl hB hq hcp
  go_enter Try.func20, Try.ntmps20
  go_wp2_with (first | (go_at_call 26; have hcall := clone_ok A q cp E.out _ HR.out HL.out; (with_reducible refine hcall.mono ?_); clear hcall; rintro e w2 ⟨v1, rfl, ho, hb⟩; obtain ⟨A2, cp2, hv2, _⟩ := ho.sliceN HQ.out.symm; subst hv2; have J := I0.out.tab.below hb; have k5 := J.at_ 5 (v := .slice A q cp) rfl; have kf5 := J.frozen 5; have J2 := Aside0.mk J; have O2 := Aside0.mk ho; have B2 := Aside0.mk hb; clear J ho hb))
  first | go_ret | go_ret2 | go_end0 | refine bodyPost_ret0 rfl rfl ?_
  exact ⟨_, rfl, ⟨(own_fr O2.out (Fr.put (Fr.refl (fun x => x = g) w2) 5 (.slice none 0 0)) (own_ne O2.out J2.out (by decide))).out⟩, IsO.putRow (l := E.cells) J2.out (by decide) (Own.nil _ _ _ _), ((M0.out.then B2.out).put 5 _).nil⟩
theorem pass_walk (P1 : Nat → En → Int → Prop) : True := trivial
set_option maxHeartbeats 8000000 in
set_option maxRecDepth 100000 in
theorem pass_ok (B g : Nat) (v : Value) (E : En) (n : Int) (hk : Ok E) (hl : (E.out.length + (passN n).toNat + 2) * 16 ≤ 140737488355328) (w : World) (hB : B ≤ w.heap.size) (h : IsO 42 B w g v E.cells E.out) :
    Calls Try.prog 16 #[.pointer (some ⟨g, 0, none⟩), .int .i64 n] w fun e w' => e = .returned (.tuple #[]) ∧ (∃ v', IsO 42 B w' g v' (passE E n).cells (passE E n).out ∧ Mv g v v' w w') := by
  have key : (n > 1048576 ∧ passN n = 1048576) ∨ (n ≤ 0 ∧ passN n = 0) ∨ (¬ n > 1048576 ∧ ¬ n ≤ 0 ∧ passN n = n) := by
    unfold passN cutQ
    (repeat' split) <;> omega
  obtain ⟨m, hm⟩ : ∃ m : Nat, passN n = m := ⟨(passN n).toNat, by have := passN_b n; omega⟩
  have hpe : passE E n = if E.state ≠ 2 then E else leftE (passL (m + 1) E m).1 ((passL (m + 1) E m).1.left - (passL (m + 1) E m).2) := by unfold passE; rw [hm]; rfl
  rw [hpe]
  rw [hm] at key hl
  clear hpe hm
  have hl : (E.out.length + m + 2) * 16 ≤ 140737488355328 := by simpa using hl
  by_cases hs : E.state = 2
  · rw [if_neg (by simp [hs])]
    have hs2 := Aside0.mk hs
    have I0 := Aside0.mk h
    have M0 := Aside0.mk (Mv.refl g v w)
    have HB0 := Aside0.mk hB
    have HL := Aside0.mk hl
    have HK := Aside0.mk hk
    have c2 := h.tab.at_ 2 (v := .int .i64 E.state) rfl
    rw [hs] at c2
    clear hs h hB hl hk
    obtain ⟨x, hx⟩ : ∃ x : Int, x = (m : Int) := ⟨_, rfl⟩
    rw [← hx] at key
    have HX := Aside0.mk hx
    have hx1 := passN_b n
    clear hx
    rcases key with ⟨h1, rfl⟩ | ⟨h1, rfl⟩ | ⟨h1, h1', rfl⟩
    all_goals
      clear hx1
      go_enter Try.func16, Try.ntmps16
      go_wp2
      go_loopg [1] (m + 1) (fun kq x1 w' => ∃ (E1 : En) (n1 : Int) (u : Value) (r : Nat), kq = r + 1 ∧ x1 = .int .i64 n1 ∧ 0 ≤ n1 ∧ n1 ≤ r ∧ n1 ≤ 1048576 ∧ Aside0 (passL (m + 1) E m = passL (r + 1) E1 n1) ∧ Aside0 (Ok E1) ∧ Aside0 (E1.state = 2) ∧ Aside0 (E1.out.length + r ≤ E.out.length + m) ∧ Aside0 (IsO 42 B w' g u E1.cells E1.out) ∧ Aside0 (Mv g v u w w') ∧ Aside0 (B ≤ w'.heap.size))
      case atStart => exact ⟨E, _, v, m, rfl, rfl, by omega, by have := HX.out; omega, by omega, ⟨by rw [HX.out]⟩, HK, hs2, ⟨by omega⟩, I0, M0, HB0⟩
      case round =>
        clear I0 M0 HB0 c2
        obtain ⟨E1, n1, u, r, hkq, rfl, h3, h4, h5, EQ, K1, S1, L1, I1, M1, B1⟩ := hrel
        have c4 := I1.out.tab.at_ 4 (v := .int .i64 E1.left) rfl
        have f4 := I1.out.tab.frozen 4
        have q1 := K1.out.l2 (.inr S1.out)
        have q2 := K1.out.l1
        by_cases hle : E1.left ≤ n1
        · obtain ⟨r', rfl⟩ : ∃ r', r = r' + 1 := ⟨r - 1, by omega⟩
          have EQ2 : Aside0 (passL (m + 1) E m = passL (r' + 1) (asksE E1) (n1 - E1.left)) := ⟨by rw [EQ.out, passL, if_pos hle]⟩
          have e2 : IntKind.i64.wrap (n1 - E1.left) = n1 - E1.left := w64 (by omega) (by omega)
          have HL2 : Aside0 ((E1.out.length + 1) * 16 ≤ 140737488355328) := ⟨lenb L1.out HL.out⟩
          go_wp2_with (first
      | (go_at_call 23; have hcall := asks_ok B g _ E1 K1.out.t0 K1.out.t1 HL2.out _ B1.out I1.out; (with_reducible refine hcall.mono ?_); clear hcall; rintro e w2 ⟨rfl, v2, i2, m2⟩; have I2 := Aside0.mk i2; have M2 := Aside0.mk (M1.out.trans m2); have m2s := m2.fr.size; clear i2 m2))
          go_roundg (r' + 1)
          case measure => (rw [hkq]; exact Nat.lt_succ_self _)
          case rel => exact ⟨asksE E1, n1 - E1.left, v2, r', rfl, rfl, by omega, by omega, by omega, EQ2, ⟨K1.out.asks⟩, ⟨rfl⟩, ⟨by have := L1.out; simp [asksE]; omega⟩, I2, M2, ⟨Nat.le_trans B1.out m2s⟩⟩
        · have EQ2 : Aside0 (passL (m + 1) E m = (E1, n1)) := ⟨by rw [EQ.out, passL, if_neg hle]⟩
          have hlt : n1 < E1.left := by omega
          have e2 : IntKind.i64.wrap (E1.left - n1) = E1.left - n1 := w64 (by omega) (by omega)
          go_wp2_with fail
          first | go_ret | go_ret2 | go_end0 | refine bodyPost_ret0 rfl rfl ?_
          rw [EQ2.out]
          exact ⟨rfl, _, I1.out.put (by decide) 4 (.int .i64 (E1.left - n1)) (by simp [En.cells]), M1.out.put 4 _⟩
  · rw [if_pos hs]
    have I0 := Aside0.mk h
    have bs : (E.state == 2) = false := beq_eq_false_iff_ne.mpr hs
    have bs2 : (E.state != 2) = true := by simp [bne, bs]
    have c2 := h.tab.at_ 2 (v := .int .i64 E.state) rfl
    clear hs h hB hl
    obtain ⟨x, hx⟩ : ∃ x : Int, x = (m : Int) := ⟨_, rfl⟩
    rw [← hx] at key
    clear hx
    rcases key with ⟨h1, rfl⟩ | ⟨h1, rfl⟩ | ⟨h1, h1', rfl⟩
    all_goals
      go_enter Try.func16, Try.ntmps16
      go_wp2
      first | go_ret | go_ret2 | go_end0 | refine bodyPost_ret0 rfl rfl ?_
      exact ⟨rfl, _, I0.out, Mv.refl _ _ _⟩

end Go.Proofs.Ytflgngnkfcfhpaa.ReD
