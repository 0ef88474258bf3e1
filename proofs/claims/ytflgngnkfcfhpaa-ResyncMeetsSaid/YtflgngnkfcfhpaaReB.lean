/- Contracts of an end: Fail, asks, State. -/
import Derived.Test.YtflgngnkfcfhpaaReA
import Derived.Deep.RegionLaw
namespace Go.Proofs.Ytflgngnkfcfhpaa.ReB
open Go.RowKit Go.Proofs.YtflgngnkfcfhpaaW.PrintWords Go.Proofs.YtflgngnkfcfhpaaW.PrintLast Go.Proofs.YtflgngnkfcfhpaaW.PrintMore Go.Proofs.Ytflgngnkfcfhpaa.K Go.Proofs.Ytflgngnkfcfhpaa.ReP Go.Proofs.Ytflgngnkfcfhpaa.ReA
set_option linter.unusedVariables false
set_option linter.unusedSimpArgs false
attribute [local go_sem] max2_int min2_int max_two min_two

theorem u8_w (x : Int) : IntKind.u8.wrap x = x % 256 := by simp [IntKind.wrap, IntKind.bits, IntKind.signed]
set_option maxHeartbeats 8000000 in
set_option maxRecDepth 100000 in
theorem state_ok (B g : Nat) (v : Value) (E : En)  (w : World) (hB : B ≤ w.heap.size) (h : IsO 42 B w g v E.cells E.out) : Calls Try.prog 10 #[.pointer (some ⟨g, 0, none⟩)] w fun e w' => e = .returned (.int .i64 E.state) ∧ w = w' := by
  have c2 := h.tab.at_ 2 (v := .int .i64 E.state) rfl
  have f2 := h.tab.frozen 2
  clear h
  go_enter Try.func10, Try.ntmps10
  go_wp2
  go_ret
  exact ⟨rfl, rfl⟩
set_option maxHeartbeats 8000000 in
set_option maxRecDepth 100000 in
theorem fail_ok (B g : Nat) (v : Value) (E : En) (ok : Ok E) (w : World) (hB : B ≤ w.heap.size) (h : IsO 42 B w g v E.cells E.out) : Calls Try.prog 9 #[.pointer (some ⟨g, 0, none⟩)] w fun e w' => e = .returned (.tuple #[]) ∧ IsO 42 B w' g v (failE E).cells E.out ∧ Mv g v v w w' := by
  have c0 := h.tab.at_ 0 (v := .int .i64 E.flush) rfl
  have f0 := h.tab.frozen 0
  have c2 := h.tab.at_ 2 (v := .int .i64 E.state) rfl
  have f2 := h.tab.frozen 2
  have c3 := h.tab.at_ 3 (v := .int .u8 E.token) rfl
  have f3 := h.tab.frozen 3
  have c4 := h.tab.at_ 4 (v := .int .i64 E.left) rfl
  have f4 := h.tab.frozen 4
  have I0 := Aside0.mk h
  have M0 := Aside0.mk (Mv.refl g v w)
  have HB0 := Aside0.mk hB
  have q1 := ok.t0
  have q2 := ok.t1
  have e1 : IntKind.u8.wrap (E.token + 1) = (E.token + 1) % 256 := u8_w _
  clear h
  go_enter Try.func9, Try.ntmps9
  go_wp2
  first | go_ret | go_ret2 | go_end0 | refine bodyPost_ret0 rfl rfl ?_
  exact ⟨rfl, ((I0.out.put (by decide) 3 (.int .u8 ((E.token + 1) % 256)) (by simp [En.cells])).put (by decide) 2 (.int .i64 1) (by simp [En.cells])).put (by decide) 4 (.int .i64 E.flush) (by simp [En.cells]), ((M0.out.put 3 _).put 2 _).put 4 _⟩
set_option maxHeartbeats 8000000 in
set_option maxRecDepth 100000 in
theorem asks_ok (B g : Nat) (v : Value) (E : En) (q1 : 0 ≤ E.token) (q2 : E.token < 256) (hl : (E.out.length + 1) * 16 ≤ 140737488355328) (w : World) (hB : B ≤ w.heap.size) (h : IsO 42 B w g v E.cells E.out) : Calls Try.prog 23 #[.pointer (some ⟨g, 0, none⟩)] w fun e w' => e = .returned (.tuple #[]) ∧ (∃ v', IsO 42 B w' g v' (asksE E).cells (asksE E).out ∧ Mv g v v' w w') := by
  obtain ⟨q, hq⟩ : ∃ q, q = E.out.length := ⟨_, rfl⟩
  obtain ⟨A, cp, rfl, hcp⟩ := h.row.sliceN hq.symm
  have c1 := h.tab.at_ 1 (v := .int .i64 E.again) rfl
  have f1 := h.tab.frozen 1
  have c2 := h.tab.at_ 2 (v := .int .i64 E.state) rfl
  have f2 := h.tab.frozen 2
  have c3 := h.tab.at_ 3 (v := .int .u8 E.token) rfl
  have f3 := h.tab.frozen 3
  have c4 := h.tab.at_ 4 (v := .int .i64 E.left) rfl
  have f4 := h.tab.frozen 4
  have c5 := h.tab.at_ 5 (v := .slice A q cp) rfl
  have f5 := h.tab.frozen 5
  have I0 := Aside0.mk h
  have M0 := Aside0.mk (Mv.refl g (.slice A q cp) w)
  have HB0 := Aside0.mk hB
  have HL := Aside0.mk hl
  have HQ := Aside0.mk hq
  have e1 : IntKind.i64.wrap E.token = E.token := w64 (by omega) (by omega)
  have n5 : ∀ o, (w.alloc o).cell? ⟨g, 5, none⟩ = some (.slice A q cp) := fun o => (h.tab.alloc o).at_ 5 rfl
  clear h hl hB hq
  go_enter Try.func23, Try.ntmps23
  go_wp2
  go_region_law
    ((refine step_pair w.drew (.tmp 6) (.tmp 13) (by rfl) (by rfl) (by rfl) (by rfl) (by rfl) (I0.out.row.drew) HB0.out HL.out ?_; intro v2 w2 HO F T; obtain ⟨A2, cp2, hv2, _⟩ := HO.sliceN (n := q + 1) (by simp [HQ.out]); subst hv2; have J := I0.out.tab.drew.fr F (fun h => own_ne I0.out.row I0.out.tab (by decide) g h rfl); have k1 := J.at_ 1 (v := .int .i64 E.again) rfl; have kf1 := J.frozen 1; have k2 := J.at_ 2 (v := .int .i64 E.state) rfl; have kf2 := J.frozen 2; have k3 := J.at_ 3 (v := .int .u8 E.token) rfl; have kf3 := J.frozen 3; have k4 := J.at_ 4 (v := .int .i64 E.left) rfl; have kf4 := J.frozen 4; have k5 := J.at_ 5 (v := .slice A q cp) rfl; have kf5 := J.frozen 5; have J2 := Aside0.mk J; have O2 := Aside0.mk HO; have F2 := Aside0.mk F; have T2 := Aside0.mk T; clear J HO F T))
  all_goals
    go_wp2
    first | go_ret | go_ret2 | go_end0 | refine bodyPost_ret0 rfl rfl ?_
    exact ⟨rfl, _, ((IsO.putRow (l := E.cells) J2.out (by decide) O2.out).put (by decide) 2 (.int .i64 2) (by simp [En.cells])).put (by decide) 4 (.int .i64 E.again) (by simp [En.cells]), ((((M0.out.then (below_drew (Below.refl _ _))).app F2.out T2.out).put 5 _).put 2 _).put 4 _⟩

end Go.Proofs.Ytflgngnkfcfhpaa.ReB
