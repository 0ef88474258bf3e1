/- A greater rate and a longer message: the walk. -/
import Derived.Test.YtbcgihkmgmbomaaK2
import Derived.Test.YtbcgihkmgmbomaaQPureGrows
namespace Go.Proofs.Ytbcgihkmgmbomaa.QGrowsW
open Go.RowKit Go.Proofs.YtbcgihkmgmbomaaW.PrintWords Go.Proofs.YtbcgihkmgmbomaaW.PrintLast Go.Proofs.YtbcgihkmgmbomaaW.PrintMore Go.Proofs.Ytbcgihkmgmbomaa.K Go.Proofs.Ytbcgihkmgmbomaa.PBoundGrows Go.Proofs.Ytbcgihkmgmbomaa.QPureGrows
set_option linter.unusedVariables false
set_option linter.unusedSimpArgs false

set_option maxHeartbeats 8000000 in
set_option maxRecDepth 100000 in
theorem grows_early (a0 a1 a2 a3 a4 a5 a6 a7 a8 a9 a10 a11 a12 a13 : Int) (a14 a15 : Bool) (m : Int) (w : World) (h : m < 0 ∨ 100 < m ∨ lat a0 a1 a2 a3 a4 a5 a6 a7 a8 a9 a10 a11 a12 a13 a14 a15 = 0) : Calls Try.prog 6 #[.agg #[.int .i64 a0, .int .i64 a1, .int .i64 a2, .int .i64 a3, .int .i64 a4, .int .i64 a5, .int .i64 a6, .int .i64 a7, .int .i64 a8, .int .i64 a9, .int .i64 a10, .int .i64 a11, .int .i64 a12, .int .i64 a13, .bool a14, .bool a15], .int .i64 m] w fun e w' => e = .returned (.bool true) ∧ Below w.heap.size w w' := by
  have hu23 := Try.underlying23
  obtain ⟨l, hl⟩ : ∃ l, l = lat a0 a1 a2 a3 a4 a5 a6 a7 a8 a9 a10 a11 a12 a13 a14 a15 := ⟨_, rfl⟩
  rw [← hl] at h
  have HL := Aside0.mk hl
  clear hl
  have key : m < 0 ∨ (¬ m < 0 ∧ 100 < m) ∨ (¬ m < 0 ∧ ¬ 100 < m ∧ l = 0) := by omega
  clear h
  rcases key with h1 | ⟨h1, h2⟩ | ⟨h1, h2, h3⟩
  · go_enter Try.func6, Try.ntmps6
    go_wp2_with (first
    | ((with_reducible refine gate_dst (N := 2) rfl ?_); refine box_event ?hg (N := 2) ?hd (cs := #[.int .i64 a0, .int .i64 a1, .int .i64 a2, .int .i64 a3, .int .i64 a4, .int .i64 a5, .int .i64 a6, .int .i64 a7, .int .i64 a8, .int .i64 a9, .int .i64 a10, .int .i64 a11, .int .i64 a12, .int .i64 a13, .bool a14, .bool a15]) (t := 23) ?hr ?_; (case hd => rfl); (case hg => rfl); (case hr => first | (go_simp; done) | (go_simp; rfl)); intro g hg w1 hbox hb; have IC1 := Aside0.mk (show Ob w1 g 23 [.int .i64 a0, .int .i64 a1, .int .i64 a2, .int .i64 a3, .int .i64 a4, .int .i64 a5, .int .i64 a6, .int .i64 a7, .int .i64 a8, .int .i64 a9, .int .i64 a10, .int .i64 a11, .int .i64 a12, .int .i64 a13, .bool a14, .bool a15] from hbox); have B1 := Aside0.mk hb; have GE := Aside0.mk (show w.heap.size ≤ g by omega); clear hg hbox hb)
    | (go_at_call 13; (with_reducible refine (alive_ok _).mono ?_); rintro e w2 ⟨rfl, hn⟩; have IC2 := Aside0.mk (IC1.out.below hn); have B2 := Aside0.mk (below_step B1.out hn); clear hn; have y0 := IC2.out.at_ 0 rfl; have y1 := IC2.out.at_ 1 rfl; have y2 := IC2.out.at_ 2 rfl; have y3 := IC2.out.at_ 3 rfl; have y4 := IC2.out.at_ 4 rfl; have y5 := IC2.out.at_ 5 rfl; have y6 := IC2.out.at_ 6 rfl; have y7 := IC2.out.at_ 7 rfl; have y8 := IC2.out.at_ 8 rfl; have y9 := IC2.out.at_ 9 rfl; have y10 := IC2.out.at_ 10 rfl; have y11 := IC2.out.at_ 11 rfl; have y12 := IC2.out.at_ 12 rfl; have y13 := IC2.out.at_ 13 rfl; have y14 := IC2.out.at_ 14 rfl; have y15 := IC2.out.at_ 15 rfl; skip))
    go_ret
    exact ⟨rfl, B2.out⟩
  · go_enter Try.func6, Try.ntmps6
    go_wp2_with (first
    | ((with_reducible refine gate_dst (N := 2) rfl ?_); refine box_event ?hg (N := 2) ?hd (cs := #[.int .i64 a0, .int .i64 a1, .int .i64 a2, .int .i64 a3, .int .i64 a4, .int .i64 a5, .int .i64 a6, .int .i64 a7, .int .i64 a8, .int .i64 a9, .int .i64 a10, .int .i64 a11, .int .i64 a12, .int .i64 a13, .bool a14, .bool a15]) (t := 23) ?hr ?_; (case hd => rfl); (case hg => rfl); (case hr => first | (go_simp; done) | (go_simp; rfl)); intro g hg w1 hbox hb; have IC1 := Aside0.mk (show Ob w1 g 23 [.int .i64 a0, .int .i64 a1, .int .i64 a2, .int .i64 a3, .int .i64 a4, .int .i64 a5, .int .i64 a6, .int .i64 a7, .int .i64 a8, .int .i64 a9, .int .i64 a10, .int .i64 a11, .int .i64 a12, .int .i64 a13, .bool a14, .bool a15] from hbox); have B1 := Aside0.mk hb; have GE := Aside0.mk (show w.heap.size ≤ g by omega); clear hg hbox hb)
    | (go_at_call 13; (with_reducible refine (alive_ok _).mono ?_); rintro e w2 ⟨rfl, hn⟩; have IC2 := Aside0.mk (IC1.out.below hn); have B2 := Aside0.mk (below_step B1.out hn); clear hn; have y0 := IC2.out.at_ 0 rfl; have y1 := IC2.out.at_ 1 rfl; have y2 := IC2.out.at_ 2 rfl; have y3 := IC2.out.at_ 3 rfl; have y4 := IC2.out.at_ 4 rfl; have y5 := IC2.out.at_ 5 rfl; have y6 := IC2.out.at_ 6 rfl; have y7 := IC2.out.at_ 7 rfl; have y8 := IC2.out.at_ 8 rfl; have y9 := IC2.out.at_ 9 rfl; have y10 := IC2.out.at_ 10 rfl; have y11 := IC2.out.at_ 11 rfl; have y12 := IC2.out.at_ 12 rfl; have y13 := IC2.out.at_ 13 rfl; have y14 := IC2.out.at_ 14 rfl; have y15 := IC2.out.at_ 15 rfl; skip))
    go_ret
    exact ⟨rfl, B2.out⟩
  · go_enter Try.func6, Try.ntmps6
    go_wp2_with (first
    | ((with_reducible refine gate_dst (N := 2) rfl ?_); refine box_event ?hg (N := 2) ?hd (cs := #[.int .i64 a0, .int .i64 a1, .int .i64 a2, .int .i64 a3, .int .i64 a4, .int .i64 a5, .int .i64 a6, .int .i64 a7, .int .i64 a8, .int .i64 a9, .int .i64 a10, .int .i64 a11, .int .i64 a12, .int .i64 a13, .bool a14, .bool a15]) (t := 23) ?hr ?_; (case hd => rfl); (case hg => rfl); (case hr => first | (go_simp; done) | (go_simp; rfl)); intro g hg w1 hbox hb; have IC1 := Aside0.mk (show Ob w1 g 23 [.int .i64 a0, .int .i64 a1, .int .i64 a2, .int .i64 a3, .int .i64 a4, .int .i64 a5, .int .i64 a6, .int .i64 a7, .int .i64 a8, .int .i64 a9, .int .i64 a10, .int .i64 a11, .int .i64 a12, .int .i64 a13, .bool a14, .bool a15] from hbox); have B1 := Aside0.mk hb; have GE := Aside0.mk (show w.heap.size ≤ g by omega); clear hg hbox hb)
    | (go_at_call 13; (with_reducible refine (alive_ok _).mono ?_); rintro e w2 ⟨rfl, hn⟩; have IC2 := Aside0.mk (IC1.out.below hn); have B2 := Aside0.mk (below_step B1.out hn); clear hn; have y0 := IC2.out.at_ 0 rfl; have y1 := IC2.out.at_ 1 rfl; have y2 := IC2.out.at_ 2 rfl; have y3 := IC2.out.at_ 3 rfl; have y4 := IC2.out.at_ 4 rfl; have y5 := IC2.out.at_ 5 rfl; have y6 := IC2.out.at_ 6 rfl; have y7 := IC2.out.at_ 7 rfl; have y8 := IC2.out.at_ 8 rfl; have y9 := IC2.out.at_ 9 rfl; have y10 := IC2.out.at_ 10 rfl; have y11 := IC2.out.at_ 11 rfl; have y12 := IC2.out.at_ 12 rfl; have y13 := IC2.out.at_ 13 rfl; have y14 := IC2.out.at_ 14 rfl; have y15 := IC2.out.at_ 15 rfl; skip)
    | (go_at_call 16; (with_reducible refine (latc a0 a1 a2 a3 a4 a5 a6 a7 a8 a9 a10 a11 a12 a13 a14 a15 _).mono ?_); rintro e w3 ⟨rfl, hn⟩; rw [← HL.out, h3]; clear y0 y1 y2 y3 y4 y5 y6 y7 y8 y9 y10 y11 y12 y13 y14 y15; have IC3 := Aside0.mk (IC2.out.below hn); have B3 := Aside0.mk (below_step B2.out hn); clear hn; have y0 := IC3.out.at_ 0 rfl; have y1 := IC3.out.at_ 1 rfl; have y2 := IC3.out.at_ 2 rfl; have y3 := IC3.out.at_ 3 rfl; have y4 := IC3.out.at_ 4 rfl; have y5 := IC3.out.at_ 5 rfl; have y6 := IC3.out.at_ 6 rfl; have y7 := IC3.out.at_ 7 rfl; have y8 := IC3.out.at_ 8 rfl; have y9 := IC3.out.at_ 9 rfl; have y10 := IC3.out.at_ 10 rfl; have y11 := IC3.out.at_ 11 rfl; have y12 := IC3.out.at_ 12 rfl; have y13 := IC3.out.at_ 13 rfl; have y14 := IC3.out.at_ 14 rfl; have y15 := IC3.out.at_ 15 rfl; skip))
    go_ret
    exact ⟨rfl, B3.out⟩
theorem ob_new2 (w : World) (o : Obj) (t : TypeId) (l : List Value) : Ob ((w.alloc o).alloc (.cells l.toArray t)) (w.heap.size + 1) t l := by
  have h := Ob.new (w.alloc o) t l
  rwa [show (w.alloc o).heap.size = w.heap.size + 1 by first | rfl | simp] at h
set_option maxHeartbeats 4000000 in
theorem ld16 (a0 a1 a2 a3 a4 a5 a6 a7 a8 a9 a10 a11 a12 a13 : Int) (a14 a15 : Bool) (ev : Operand → Value) (o : Oper) (p : Operand) (g : Nat) (w : World) (ho : o.op = Op.load 23 p) (he : ev p = .pointer (some ⟨g, 0, none⟩)) (h : Ob w g 23 [.int .i64 a0, .int .i64 a1, .int .i64 a2, .int .i64 a3, .int .i64 a4, .int .i64 a5, .int .i64 a6, .int .i64 a7, .int .i64 a8, .int .i64 a9, .int .i64 a10, .int .i64 a11, .int .i64 a12, .int .i64 a13, .bool a14, .bool a15]) : (execOp ev o).run Try.prog w = .ok (.value (.agg #[.int .i64 a0, .int .i64 a1, .int .i64 a2, .int .i64 a3, .int .i64 a4, .int .i64 a5, .int .i64 a6, .int .i64 a7, .int .i64 a8, .int .i64 a9, .int .i64 a10, .int .i64 a11, .int .i64 a12, .int .i64 a13, .bool a14, .bool a15])) w := by
  have hu23 := Try.underlying23
  have y0 := h.at_ 0 rfl; have y1 := h.at_ 1 rfl; have y2 := h.at_ 2 rfl; have y3 := h.at_ 3 rfl; have y4 := h.at_ 4 rfl; have y5 := h.at_ 5 rfl; have y6 := h.at_ 6 rfl; have y7 := h.at_ 7 rfl; have y8 := h.at_ 8 rfl; have y9 := h.at_ 9 rfl; have y10 := h.at_ 10 rfl; have y11 := h.at_ 11 rfl; have y12 := h.at_ 12 rfl; have y13 := h.at_ 13 rfl; have y14 := h.at_ 14 rfl; have y15 := h.at_ 15 rfl
  simp only [execOp, ho, he]
  go_simp
set_option maxHeartbeats 8000000 in
set_option maxRecDepth 100000 in
theorem grows_late (a0 a1 a2 a3 a4 a5 a6 a7 a8 a9 a10 a11 a12 a13 : Int) (a14 a15 : Bool) (m l : Int) (w : World) (h1 : ¬ m < 0) (h2 : ¬ 100 < m) (h3 : ¬ l = 0) (hl : l = lat a0 a1 a2 a3 a4 a5 a6 a7 a8 a9 a10 a11 a12 a13 a14 a15) (ld le sc sd : Int) (hld : ld = lat a0 a1 a2 a3 a4 a5 a6 a7 a8 a9 a10 (a11 + m) a12 a13 a14 a15) (hle : le = lat a0 a1 a2 a3 a4 a5 a6 a7 a8 (a9 + m) a10 a11 a12 a13 a14 a15) (hsc : sc = QPureGrows.settle a0 a1 a2 a3 a4 a5 a6 a7 a8 a9 a10 a11 a12 a13 a14 a15) (hsd : sd = QPureGrows.settle a0 a1 a2 a3 a4 a5 a6 a7 a8 a9 a10 (a11 + m) a12 a13 a14 a15) (hlaw : ¬ ld = 0 → ¬ le = 0 → ld ≤ l ∧ l ≤ le ∧ sd ≤ sc ∧ l < sc) (hw1 : IntKind.i64.wrap (a11 + m) = a11 + m) (hw2 : IntKind.i64.wrap (a9 + m) = a9 + m) : Calls Try.prog 6 #[.agg #[.int .i64 a0, .int .i64 a1, .int .i64 a2, .int .i64 a3, .int .i64 a4, .int .i64 a5, .int .i64 a6, .int .i64 a7, .int .i64 a8, .int .i64 a9, .int .i64 a10, .int .i64 a11, .int .i64 a12, .int .i64 a13, .bool a14, .bool a15], .int .i64 m] w fun e w' => e = .returned (.bool true) ∧ Below w.heap.size w w' := by
  have hu23 := Try.underlying23
  have HL := Aside0.mk hl
  have HD := Aside0.mk hld
  have HE := Aside0.mk hle
  have HSC := Aside0.mk hsc
  have HSD := Aside0.mk hsd
  have HLAW := Aside0.mk hlaw
  clear hl hld hle hsc hsd hlaw
  have b1 : decide (m < 0) = false := decide_eq_false h1
  have b2 : decide (100 < m) = false := decide_eq_false h2
  have b3 : (l == 0) = false := beq_eq_false_iff_ne.mpr h3
  go_enter Try.func6, Try.ntmps6
  go_upto_region 4 with (first
    | ((with_reducible refine gate_dst (N := 2) rfl ?_); refine box_event ?hg (N := 2) ?hd (cs := #[.int .i64 a0, .int .i64 a1, .int .i64 a2, .int .i64 a3, .int .i64 a4, .int .i64 a5, .int .i64 a6, .int .i64 a7, .int .i64 a8, .int .i64 a9, .int .i64 a10, .int .i64 a11, .int .i64 a12, .int .i64 a13, .bool a14, .bool a15]) (t := 23) ?hr ?_; (case hd => rfl); (case hg => rfl); (case hr => first | (go_simp; done) | (go_simp; rfl)); intro g hg w1 hbox hb; have IC1 := Aside0.mk (show Ob w1 g 23 [.int .i64 a0, .int .i64 a1, .int .i64 a2, .int .i64 a3, .int .i64 a4, .int .i64 a5, .int .i64 a6, .int .i64 a7, .int .i64 a8, .int .i64 a9, .int .i64 a10, .int .i64 a11, .int .i64 a12, .int .i64 a13, .bool a14, .bool a15] from hbox); have B1 := Aside0.mk hb; have GE := Aside0.mk (show w.heap.size ≤ g by omega); clear hg hbox hb)
    | (go_at_call 13; (with_reducible refine (alive_ok _).mono ?_); rintro e w2 ⟨rfl, hn⟩; have IC2 := Aside0.mk (IC1.out.below hn); have B2 := Aside0.mk (below_step B1.out hn); clear hn; have y0 := IC2.out.at_ 0 rfl; have y1 := IC2.out.at_ 1 rfl; have y2 := IC2.out.at_ 2 rfl; have y3 := IC2.out.at_ 3 rfl; have y4 := IC2.out.at_ 4 rfl; have y5 := IC2.out.at_ 5 rfl; have y6 := IC2.out.at_ 6 rfl; have y7 := IC2.out.at_ 7 rfl; have y8 := IC2.out.at_ 8 rfl; have y9 := IC2.out.at_ 9 rfl; have y10 := IC2.out.at_ 10 rfl; have y11 := IC2.out.at_ 11 rfl; have y12 := IC2.out.at_ 12 rfl; have y13 := IC2.out.at_ 13 rfl; have y14 := IC2.out.at_ 14 rfl; have y15 := IC2.out.at_ 15 rfl; skip)
    | (go_at_call 16; (with_reducible refine (latc a0 a1 a2 a3 a4 a5 a6 a7 a8 a9 a10 a11 a12 a13 a14 a15 _).mono ?_); rintro e w3 ⟨rfl, hn⟩; rw [← HL.out]; clear y0 y1 y2 y3 y4 y5 y6 y7 y8 y9 y10 y11 y12 y13 y14 y15; have IC3 := Aside0.mk (IC2.out.below hn); have B3 := Aside0.mk (below_step B2.out hn); clear hn; have y0 := IC3.out.at_ 0 rfl; have y1 := IC3.out.at_ 1 rfl; have y2 := IC3.out.at_ 2 rfl; have y3 := IC3.out.at_ 3 rfl; have y4 := IC3.out.at_ 4 rfl; have y5 := IC3.out.at_ 5 rfl; have y6 := IC3.out.at_ 6 rfl; have y7 := IC3.out.at_ 7 rfl; have y8 := IC3.out.at_ 8 rfl; have y9 := IC3.out.at_ 9 rfl; have y10 := IC3.out.at_ 10 rfl; have y11 := IC3.out.at_ 11 rfl; have y12 := IC3.out.at_ 12 rfl; have y13 := IC3.out.at_ 13 rfl; have y14 := IC3.out.at_ 14 rfl; have y15 := IC3.out.at_ 15 rfl;have z0 : ∀ o, (w3.alloc o).cell? ⟨g, 0, none⟩ = some (.int .i64 a0) := fun o => (IC3.out.alloc o).at_ 0 rfl; have z1 : ∀ o, (w3.alloc o).cell? ⟨g, 1, none⟩ = some (.int .i64 a1) := fun o => (IC3.out.alloc o).at_ 1 rfl; have z2 : ∀ o, (w3.alloc o).cell? ⟨g, 2, none⟩ = some (.int .i64 a2) := fun o => (IC3.out.alloc o).at_ 2 rfl; have z3 : ∀ o, (w3.alloc o).cell? ⟨g, 3, none⟩ = some (.int .i64 a3) := fun o => (IC3.out.alloc o).at_ 3 rfl; have z4 : ∀ o, (w3.alloc o).cell? ⟨g, 4, none⟩ = some (.int .i64 a4) := fun o => (IC3.out.alloc o).at_ 4 rfl; have z5 : ∀ o, (w3.alloc o).cell? ⟨g, 5, none⟩ = some (.int .i64 a5) := fun o => (IC3.out.alloc o).at_ 5 rfl; have z6 : ∀ o, (w3.alloc o).cell? ⟨g, 6, none⟩ = some (.int .i64 a6) := fun o => (IC3.out.alloc o).at_ 6 rfl; have z7 : ∀ o, (w3.alloc o).cell? ⟨g, 7, none⟩ = some (.int .i64 a7) := fun o => (IC3.out.alloc o).at_ 7 rfl; have z8 : ∀ o, (w3.alloc o).cell? ⟨g, 8, none⟩ = some (.int .i64 a8) := fun o => (IC3.out.alloc o).at_ 8 rfl; have z9 : ∀ o, (w3.alloc o).cell? ⟨g, 9, none⟩ = some (.int .i64 a9) := fun o => (IC3.out.alloc o).at_ 9 rfl; have z10 : ∀ o, (w3.alloc o).cell? ⟨g, 10, none⟩ = some (.int .i64 a10) := fun o => (IC3.out.alloc o).at_ 10 rfl; have z11 : ∀ o, (w3.alloc o).cell? ⟨g, 11, none⟩ = some (.int .i64 a11) := fun o => (IC3.out.alloc o).at_ 11 rfl; have z12 : ∀ o, (w3.alloc o).cell? ⟨g, 12, none⟩ = some (.int .i64 a12) := fun o => (IC3.out.alloc o).at_ 12 rfl; have z13 : ∀ o, (w3.alloc o).cell? ⟨g, 13, none⟩ = some (.int .i64 a13) := fun o => (IC3.out.alloc o).at_ 13 rfl; have z14 : ∀ o, (w3.alloc o).cell? ⟨g, 14, none⟩ = some (.bool a14) := fun o => (IC3.out.alloc o).at_ 14 rfl; have z15 : ∀ o, (w3.alloc o).cell? ⟨g, 15, none⟩ = some (.bool a15) := fun o => (IC3.out.alloc o).at_ 15 rfl; have z16 : ∀ o p, ((w3.alloc o).alloc p).cell? ⟨g, 9, none⟩ = some (.int .i64 a9) := fun o p => ((IC3.out.alloc o).alloc p).at_ 9 rfl))
  clear IC1 IC2 B1 B2
  as_aux_lemma =>
    go_upto_region 6 with fail
    as_aux_lemma =>
      go_upto_region 8 with fail
      have IC := Aside0.mk ((IC3.out.alloc (.cells #[.int .i64 a0, .int .i64 a1, .int .i64 a2, .int .i64 a3, .int .i64 a4, .int .i64 a5, .int .i64 a6, .int .i64 a7, .int .i64 a8, .int .i64 a9, .int .i64 a10, .int .i64 (a11 + m), .int .i64 a12, .int .i64 a13, .bool a14, .bool a15] 23)).alloc (.cells #[.int .i64 a0, .int .i64 a1, .int .i64 a2, .int .i64 a3, .int .i64 a4, .int .i64 a5, .int .i64 a6, .int .i64 a7, .int .i64 a8, .int .i64 (a9 + m), .int .i64 a10, .int .i64 a11, .int .i64 a12, .int .i64 a13, .bool a14, .bool a15] 23))
      have ID := Aside0.mk ((Ob.new w3 23 [.int .i64 a0, .int .i64 a1, .int .i64 a2, .int .i64 a3, .int .i64 a4, .int .i64 a5, .int .i64 a6, .int .i64 a7, .int .i64 a8, .int .i64 a9, .int .i64 a10, .int .i64 (a11 + m), .int .i64 a12, .int .i64 a13, .bool a14, .bool a15]).alloc (.cells #[.int .i64 a0, .int .i64 a1, .int .i64 a2, .int .i64 a3, .int .i64 a4, .int .i64 a5, .int .i64 a6, .int .i64 a7, .int .i64 a8, .int .i64 (a9 + m), .int .i64 a10, .int .i64 a11, .int .i64 a12, .int .i64 a13, .bool a14, .bool a15] 23))
      have IE := Aside0.mk (ob_new2 w3 (.cells #[.int .i64 a0, .int .i64 a1, .int .i64 a2, .int .i64 a3, .int .i64 a4, .int .i64 a5, .int .i64 a6, .int .i64 a7, .int .i64 a8, .int .i64 a9, .int .i64 a10, .int .i64 (a11 + m), .int .i64 a12, .int .i64 a13, .bool a14, .bool a15] 23) 23 [.int .i64 a0, .int .i64 a1, .int .i64 a2, .int .i64 a3, .int .i64 a4, .int .i64 a5, .int .i64 a6, .int .i64 a7, .int .i64 a8, .int .i64 (a9 + m), .int .i64 a10, .int .i64 a11, .int .i64 a12, .int .i64 a13, .bool a14, .bool a15])
      have B4 := Aside0.mk (below_alloc (below_alloc B3.out (.cells #[.int .i64 a0, .int .i64 a1, .int .i64 a2, .int .i64 a3, .int .i64 a4, .int .i64 a5, .int .i64 a6, .int .i64 a7, .int .i64 a8, .int .i64 a9, .int .i64 a10, .int .i64 (a11 + m), .int .i64 a12, .int .i64 a13, .bool a14, .bool a15] 23)) (.cells #[.int .i64 a0, .int .i64 a1, .int .i64 a2, .int .i64 a3, .int .i64 a4, .int .i64 a5, .int .i64 a6, .int .i64 a7, .int .i64 a8, .int .i64 (a9 + m), .int .i64 a10, .int .i64 a11, .int .i64 a12, .int .i64 a13, .bool a14, .bool a15] 23))
      clear y0 y1 y2 y3 y4 y5 y6 y7 y8 y9 y10 y11 y12 y13 y14 y15 z0 z1 z2 z3 z4 z5 z6 z7 z8 z9 z10 z11 z12 z13 z14 z15 z16 IC3 B3 GE hw1 hw2
      generalize (w3.alloc (.cells #[.int .i64 a0, .int .i64 a1, .int .i64 a2, .int .i64 a3, .int .i64 a4, .int .i64 a5, .int .i64 a6, .int .i64 a7, .int .i64 a8, .int .i64 a9, .int .i64 a10, .int .i64 (a11 + m), .int .i64 a12, .int .i64 a13, .bool a14, .bool a15] 23)).alloc (.cells #[.int .i64 a0, .int .i64 a1, .int .i64 a2, .int .i64 a3, .int .i64 a4, .int .i64 a5, .int .i64 a6, .int .i64 a7, .int .i64 a8, .int .i64 (a9 + m), .int .i64 a10, .int .i64 a11, .int .i64 a12, .int .i64 a13, .bool a14, .bool a15] 23) = w4 at IC ID IE B4 ⊢
      generalize w3.heap.size + 1 = ge at IE ⊢
      generalize w3.heap.size = gd at ID ⊢
      have y0 := ID.out.at_ 0 rfl; have y1 := ID.out.at_ 1 rfl; have y2 := ID.out.at_ 2 rfl; have y3 := ID.out.at_ 3 rfl; have y4 := ID.out.at_ 4 rfl; have y5 := ID.out.at_ 5 rfl; have y6 := ID.out.at_ 6 rfl; have y7 := ID.out.at_ 7 rfl; have y8 := ID.out.at_ 8 rfl; have y9 := ID.out.at_ 9 rfl; have y10 := ID.out.at_ 10 rfl; have y11 := ID.out.at_ 11 rfl; have y12 := ID.out.at_ 12 rfl; have y13 := ID.out.at_ 13 rfl; have y14 := ID.out.at_ 14 rfl; have y15 := ID.out.at_ 15 rfl
      by_cases d0 : ld = 0
      · have d0b : (ld == 0) = true := beq_iff_eq.mpr d0
        as_aux_lemma =>
          go_wp2_with (first
    | (go_at_call 16; (with_reducible refine (latc a0 a1 a2 a3 a4 a5 a6 a7 a8 a9 a10 (a11 + m) a12 a13 a14 a15 _).mono ?_); rintro e w5 ⟨rfl, hn⟩; rw [← HD.out]; clear y0 y1 y2 y3 y4 y5 y6 y7 y8 y9 y10 y11 y12 y13 y14 y15; have IC5 := Aside0.mk (IC.out.below hn); have ID5 := Aside0.mk (ID.out.below hn); have IE5 := Aside0.mk (IE.out.below hn); have B5 := Aside0.mk (below_step B4.out hn); clear hn; have y0 := IE5.out.at_ 0 rfl; have y1 := IE5.out.at_ 1 rfl; have y2 := IE5.out.at_ 2 rfl; have y3 := IE5.out.at_ 3 rfl; have y4 := IE5.out.at_ 4 rfl; have y5 := IE5.out.at_ 5 rfl; have y6 := IE5.out.at_ 6 rfl; have y7 := IE5.out.at_ 7 rfl; have y8 := IE5.out.at_ 8 rfl; have y9 := IE5.out.at_ 9 rfl; have y10 := IE5.out.at_ 10 rfl; have y11 := IE5.out.at_ 11 rfl; have y12 := IE5.out.at_ 12 rfl; have y13 := IE5.out.at_ 13 rfl; have y14 := IE5.out.at_ 14 rfl; have y15 := IE5.out.at_ 15 rfl; skip))
          go_ret
          exact ⟨rfl, B5.out⟩
      · have d0b : (ld == 0) = false := beq_eq_false_iff_ne.mpr d0
        by_cases e0 : le = 0
        · have e0b : (le == 0) = true := beq_iff_eq.mpr e0
          as_aux_lemma =>
            go_wp2_with (first
    | (go_at_call 16; (with_reducible refine (latc a0 a1 a2 a3 a4 a5 a6 a7 a8 a9 a10 (a11 + m) a12 a13 a14 a15 _).mono ?_); rintro e w5 ⟨rfl, hn⟩; rw [← HD.out]; clear y0 y1 y2 y3 y4 y5 y6 y7 y8 y9 y10 y11 y12 y13 y14 y15; have IC5 := Aside0.mk (IC.out.below hn); have ID5 := Aside0.mk (ID.out.below hn); have IE5 := Aside0.mk (IE.out.below hn); have B5 := Aside0.mk (below_step B4.out hn); clear hn; have y0 := IE5.out.at_ 0 rfl; have y1 := IE5.out.at_ 1 rfl; have y2 := IE5.out.at_ 2 rfl; have y3 := IE5.out.at_ 3 rfl; have y4 := IE5.out.at_ 4 rfl; have y5 := IE5.out.at_ 5 rfl; have y6 := IE5.out.at_ 6 rfl; have y7 := IE5.out.at_ 7 rfl; have y8 := IE5.out.at_ 8 rfl; have y9 := IE5.out.at_ 9 rfl; have y10 := IE5.out.at_ 10 rfl; have y11 := IE5.out.at_ 11 rfl; have y12 := IE5.out.at_ 12 rfl; have y13 := IE5.out.at_ 13 rfl; have y14 := IE5.out.at_ 14 rfl; have y15 := IE5.out.at_ 15 rfl; skip)
    | (go_at_call 16; (with_reducible refine (latc a0 a1 a2 a3 a4 a5 a6 a7 a8 (a9 + m) a10 a11 a12 a13 a14 a15 _).mono ?_); rintro e w6 ⟨rfl, hn⟩; rw [← HE.out]; clear y0 y1 y2 y3 y4 y5 y6 y7 y8 y9 y10 y11 y12 y13 y14 y15; have IC6 := Aside0.mk (IC5.out.below hn); have ID6 := Aside0.mk (ID5.out.below hn); have IE6 := Aside0.mk (IE5.out.below hn); have B6 := Aside0.mk (below_step B5.out hn); clear hn))
            go_ret
            exact ⟨rfl, B6.out⟩
        · have e0b : (le == 0) = false := beq_eq_false_iff_ne.mpr e0
          obtain ⟨k1, k2, k3, k4⟩ := HLAW.out d0 e0
          as_aux_lemma =>
            go_upto_region 10 with (first
    | (go_at_call 16; (with_reducible refine (latc a0 a1 a2 a3 a4 a5 a6 a7 a8 a9 a10 (a11 + m) a12 a13 a14 a15 _).mono ?_); rintro e w5 ⟨rfl, hn⟩; rw [← HD.out]; clear y0 y1 y2 y3 y4 y5 y6 y7 y8 y9 y10 y11 y12 y13 y14 y15; have IC5 := Aside0.mk (IC.out.below hn); have ID5 := Aside0.mk (ID.out.below hn); have IE5 := Aside0.mk (IE.out.below hn); have B5 := Aside0.mk (below_step B4.out hn); clear hn; have y0 := IE5.out.at_ 0 rfl; have y1 := IE5.out.at_ 1 rfl; have y2 := IE5.out.at_ 2 rfl; have y3 := IE5.out.at_ 3 rfl; have y4 := IE5.out.at_ 4 rfl; have y5 := IE5.out.at_ 5 rfl; have y6 := IE5.out.at_ 6 rfl; have y7 := IE5.out.at_ 7 rfl; have y8 := IE5.out.at_ 8 rfl; have y9 := IE5.out.at_ 9 rfl; have y10 := IE5.out.at_ 10 rfl; have y11 := IE5.out.at_ 11 rfl; have y12 := IE5.out.at_ 12 rfl; have y13 := IE5.out.at_ 13 rfl; have y14 := IE5.out.at_ 14 rfl; have y15 := IE5.out.at_ 15 rfl; skip)
    | (go_at_call 16; (with_reducible refine (latc a0 a1 a2 a3 a4 a5 a6 a7 a8 (a9 + m) a10 a11 a12 a13 a14 a15 _).mono ?_); rintro e w6 ⟨rfl, hn⟩; rw [← HE.out]; clear y0 y1 y2 y3 y4 y5 y6 y7 y8 y9 y10 y11 y12 y13 y14 y15; have IC6 := Aside0.mk (IC5.out.below hn); have ID6 := Aside0.mk (ID5.out.below hn); have IE6 := Aside0.mk (IE5.out.below hn); have B6 := Aside0.mk (below_step B5.out hn); clear hn))
            obtain ⟨vc, hvc⟩ : ∃ v, v = Value.agg #[.int .i64 a0, .int .i64 a1, .int .i64 a2, .int .i64 a3, .int .i64 a4, .int .i64 a5, .int .i64 a6, .int .i64 a7, .int .i64 a8, .int .i64 a9, .int .i64 a10, .int .i64 a11, .int .i64 a12, .int .i64 a13, .bool a14, .bool a15] := ⟨_, rfl⟩
            obtain ⟨vd, hvd⟩ : ∃ v, v = Value.agg #[.int .i64 a0, .int .i64 a1, .int .i64 a2, .int .i64 a3, .int .i64 a4, .int .i64 a5, .int .i64 a6, .int .i64 a7, .int .i64 a8, .int .i64 a9, .int .i64 a10, .int .i64 (a11 + m), .int .i64 a12, .int .i64 a13, .bool a14, .bool a15] := ⟨_, rfl⟩
            obtain ⟨ve, hve⟩ : ∃ v, v = Value.agg #[.int .i64 a0, .int .i64 a1, .int .i64 a2, .int .i64 a3, .int .i64 a4, .int .i64 a5, .int .i64 a6, .int .i64 a7, .int .i64 a8, .int .i64 (a9 + m), .int .i64 a10, .int .i64 a11, .int .i64 a12, .int .i64 a13, .bool a14, .bool a15] := ⟨_, rfl⟩
            have FC := Aside0.mk (fun (ev : Operand → Value) (o : Oper) (p : Operand) (w' : World) (ho : o.op = Op.load 23 p) (he : ev p = .pointer (some ⟨g, 0, none⟩)) (hb : Below w6.heap.size w6 w') => (show (execOp ev o).run Try.prog w' = .ok (.value vc) w' from by rw [hvc]; exact ld16 a0 a1 a2 a3 a4 a5 a6 a7 a8 a9 a10 a11 a12 a13 a14 a15 ev o p g w' ho he (IC6.out.below hb)))
            have FD := Aside0.mk (fun (ev : Operand → Value) (o : Oper) (p : Operand) (w' : World) (ho : o.op = Op.load 23 p) (he : ev p = .pointer (some ⟨gd, 0, none⟩)) (hb : Below w6.heap.size w6 w') => (show (execOp ev o).run Try.prog w' = .ok (.value vd) w' from by rw [hvd]; exact ld16 a0 a1 a2 a3 a4 a5 a6 a7 a8 a9 a10 (a11 + m) a12 a13 a14 a15 ev o p gd w' ho he (ID6.out.below hb)))
            have FE := Aside0.mk (fun (ev : Operand → Value) (o : Oper) (p : Operand) (w' : World) (ho : o.op = Op.load 23 p) (he : ev p = .pointer (some ⟨ge, 0, none⟩)) (hb : Below w6.heap.size w6 w') => (show (execOp ev o).run Try.prog w' = .ok (.value ve) w' from by rw [hve]; exact ld16 a0 a1 a2 a3 a4 a5 a6 a7 a8 (a9 + m) a10 a11 a12 a13 a14 a15 ev o p ge w' ho he (IE6.out.below hb)))
            have KC := Aside0.mk (fun (w' : World) => (show Calls Try.prog 16 #[vc] w' fun e w'' => e = .returned (.int .i64 l) ∧ Below w'.heap.size w' w'' from by rw [hvc, HL.out]; exact latc a0 a1 a2 a3 a4 a5 a6 a7 a8 a9 a10 a11 a12 a13 a14 a15 w'))
            have KD := Aside0.mk (fun (w' : World) => (show Calls Try.prog 16 #[vd] w' fun e w'' => e = .returned (.int .i64 ld) ∧ Below w'.heap.size w' w'' from by rw [hvd, HD.out]; exact latc a0 a1 a2 a3 a4 a5 a6 a7 a8 a9 a10 (a11 + m) a12 a13 a14 a15 w'))
            have KE := Aside0.mk (fun (w' : World) => (show Calls Try.prog 16 #[ve] w' fun e w'' => e = .returned (.int .i64 le) ∧ Below w'.heap.size w' w'' from by rw [hve, HE.out]; exact latc a0 a1 a2 a3 a4 a5 a6 a7 a8 (a9 + m) a10 a11 a12 a13 a14 a15 w'))
            have SC := Aside0.mk (fun (w' : World) => (show Calls Try.prog 18 #[vc] w' fun e w'' => e = .returned (.int .i64 sc) ∧ Below w'.heap.size w' w'' from by rw [hvc, HSC.out]; exact settlec a0 a1 a2 a3 a4 a5 a6 a7 a8 a9 a10 a11 a12 a13 a14 a15 w'))
            have SD := Aside0.mk (fun (w' : World) => (show Calls Try.prog 18 #[vd] w' fun e w'' => e = .returned (.int .i64 sd) ∧ Below w'.heap.size w' w'' from by rw [hvd, HSD.out]; exact settlec a0 a1 a2 a3 a4 a5 a6 a7 a8 a9 a10 (a11 + m) a12 a13 a14 a15 w'))
            clear hvc hvd hve IC6 ID6 IE6 HL HD HE HSC HSD HLAW 
            as_aux_lemma =>
              refine region_known 27 27 [vd, .int .i64 ld, vc, .int .i64 l, .bool true, .bool true, ve, .int .i64 le, vc, .int .i64 l, .bool true, .bool true, .bool true, vd, .int .i64 sd, vc, .int .i64 sc, .bool true, .bool true, .bool true, vc, .int .i64 sc, vc, .int .i64 l, .bool true, .bool true, .bool true] (fun _ _ w' => Below w6.heap.size w6 w') (by kernel_rfl) (by kernel_rfl) (by kernel_rfl) (fun _ _ w1 w2 hb hj => below_step hj hb) (Below.refl _ _) ?rgoa10 ?rgra10
              case rgoa10 =>
                refine ⟨?_, ?_, ?_, ?_, ?_, ?_, ?_, ?_, ?_, ?_, ?_, ?_, ?_, ?_, ?_, ?_, ?_, ?_, ?_, ?_, ?_, ?_, ?_, ?_, ?_, ?_, ?_, trivial⟩
                · intro b1_ b2_ a_ w_ st x1_ x2_ y1_ y2_ hJ_
                  have e6 : a_.eval (.tmp 6) = .pointer (some ⟨gd, 0, none⟩) := st.slot 6 (by kernel_rfl)
                  try simp only [List.getD_cons_zero, List.getD_cons_succ] at e6
                  refine op2_yield _ (by rfl) ?_ rfl (by decide) (by decide) hJ_
                  exact FD.out _ _ _ _ rfl e6 hJ_
                · intro b1_ b2_ a_ w_ st x1_ x2_ y1_ y2_ hJ_
                  have e45 : a_.eval (.tmp 45) = _ := st.dep 0 _ 45 rfl rfl (by kernel_rfl)
                  try simp only [List.getD_cons_zero, List.getD_cons_succ] at e45
                  exact op2_call Try.func16 (by kernel_rfl) rfl #[vd] (by rfl) rfl (by simp [e45]) (VC_stable _) (fun _ _ w1 w2 hb hj => below_step hj hb) (by decide) (by decide) hJ_ ((KD.out w_).mono fun e w'' h => ⟨_, h.1, h.2, rfl⟩)
                · intro b1_ b2_ a_ w_ st x1_ x2_ y1_ y2_ hJ_
                  have e2 : a_.eval (.tmp 2) = .pointer (some ⟨g, 0, none⟩) := st.slot 2 (by kernel_rfl)
                  try simp only [List.getD_cons_zero, List.getD_cons_succ] at e2
                  refine op2_yield _ (by rfl) ?_ rfl (by decide) (by decide) hJ_
                  exact FC.out _ _ _ _ rfl e2 hJ_
                · intro b1_ b2_ a_ w_ st x1_ x2_ y1_ y2_ hJ_
                  have e47 : a_.eval (.tmp 47) = _ := st.dep 2 _ 47 rfl rfl (by kernel_rfl)
                  try simp only [List.getD_cons_zero, List.getD_cons_succ] at e47
                  exact op2_call Try.func16 (by kernel_rfl) rfl #[vc] (by rfl) rfl (by simp [e47]) (VC_stable _) (fun _ _ w1 w2 hb hj => below_step hj hb) (by decide) (by decide) hJ_ ((KC.out w_).mono fun e w'' h => ⟨_, h.1, h.2, rfl⟩)
                · intro b1_ b2_ a_ w_ st x1_ x2_ y1_ y2_ hJ_
                  have e46 : a_.eval (.tmp 46) = _ := st.dep 1 _ 46 rfl rfl (by kernel_rfl)
                  have e48 : a_.eval (.tmp 48) = _ := st.dep 3 _ 48 rfl rfl (by kernel_rfl)
                  try simp only [List.getD_cons_zero, List.getD_cons_succ] at e46 e48
                  refine op2_yield _ (by rfl) ?_ rfl (by decide) (by decide) hJ_
                  simp only [execOp, e46, e48]
                  go_simp
                  all_goals first | with_reducible rfl | omega
                · intro b1_ b2_ a_ w_ st x1_ x2_ y1_ y2_ hJ_
                  have e49 : a_.eval (.tmp 49) = _ := st.dep 4 _ 49 rfl rfl (by kernel_rfl)
                  try simp only [List.getD_cons_zero, List.getD_cons_succ] at e49
                  refine op2_yield _ (by rfl) ?_ rfl (by decide) (by decide) hJ_
                  simp only [execOp, e49]
                  go_simp
                  all_goals first | with_reducible rfl | omega
                · intro b1_ b2_ a_ w_ st x1_ x2_ y1_ y2_ hJ_
                  have e7 : a_.eval (.tmp 7) = .pointer (some ⟨ge, 0, none⟩) := st.slot 7 (by kernel_rfl)
                  have e50 : a_.eval (.tmp 50) = _ := st.dep 5 _ 50 rfl rfl (by kernel_rfl)
                  try simp only [List.getD_cons_zero, List.getD_cons_succ] at e7 e50
                  refine op2_yield _ (wanted_some rfl (st.yields 5 _ 50 rfl rfl (of_decide_eq_true (by kernel_rfl)) true e50)) ?_ rfl (by decide) (by decide) hJ_
                  exact FE.out _ _ _ _ rfl e7 hJ_
                · intro b1_ b2_ a_ w_ st x1_ x2_ y1_ y2_ hJ_
                  have e51 : a_.eval (.tmp 51) = _ := st.dep 6 _ 51 rfl rfl (by kernel_rfl)
                  have e50 : a_.eval (.tmp 50) = _ := st.dep 5 _ 50 rfl rfl (by kernel_rfl)
                  try simp only [List.getD_cons_zero, List.getD_cons_succ] at e51 e50
                  exact op2_call Try.func16 (by kernel_rfl) rfl #[ve] (wanted_some rfl (st.yields 5 _ 50 rfl rfl (of_decide_eq_true (by kernel_rfl)) true e50)) rfl (by simp [e51, e50]) (VC_stable _) (fun _ _ w1 w2 hb hj => below_step hj hb) (by decide) (by decide) hJ_ ((KE.out w_).mono fun e w'' h => ⟨_, h.1, h.2, rfl⟩)
                · intro b1_ b2_ a_ w_ st x1_ x2_ y1_ y2_ hJ_
                  have e2 : a_.eval (.tmp 2) = .pointer (some ⟨g, 0, none⟩) := st.slot 2 (by kernel_rfl)
                  have e50 : a_.eval (.tmp 50) = _ := st.dep 5 _ 50 rfl rfl (by kernel_rfl)
                  try simp only [List.getD_cons_zero, List.getD_cons_succ] at e2 e50
                  refine op2_yield _ (wanted_some rfl (st.yields 5 _ 50 rfl rfl (of_decide_eq_true (by kernel_rfl)) true e50)) ?_ rfl (by decide) (by decide) hJ_
                  exact FC.out _ _ _ _ rfl e2 hJ_
                · intro b1_ b2_ a_ w_ st x1_ x2_ y1_ y2_ hJ_
                  have e53 : a_.eval (.tmp 53) = _ := st.dep 8 _ 53 rfl rfl (by kernel_rfl)
                  have e50 : a_.eval (.tmp 50) = _ := st.dep 5 _ 50 rfl rfl (by kernel_rfl)
                  try simp only [List.getD_cons_zero, List.getD_cons_succ] at e53 e50
                  exact op2_call Try.func16 (by kernel_rfl) rfl #[vc] (wanted_some rfl (st.yields 5 _ 50 rfl rfl (of_decide_eq_true (by kernel_rfl)) true e50)) rfl (by simp [e53, e50]) (VC_stable _) (fun _ _ w1 w2 hb hj => below_step hj hb) (by decide) (by decide) hJ_ ((KC.out w_).mono fun e w'' h => ⟨_, h.1, h.2, rfl⟩)
                · intro b1_ b2_ a_ w_ st x1_ x2_ y1_ y2_ hJ_
                  have e52 : a_.eval (.tmp 52) = _ := st.dep 7 _ 52 rfl rfl (by kernel_rfl)
                  have e54 : a_.eval (.tmp 54) = _ := st.dep 9 _ 54 rfl rfl (by kernel_rfl)
                  have e50 : a_.eval (.tmp 50) = _ := st.dep 5 _ 50 rfl rfl (by kernel_rfl)
                  try simp only [List.getD_cons_zero, List.getD_cons_succ] at e52 e54 e50
                  refine op2_yield _ (wanted_some rfl (st.yields 5 _ 50 rfl rfl (of_decide_eq_true (by kernel_rfl)) true e50)) ?_ rfl (by decide) (by decide) hJ_
                  simp only [execOp, e52, e54, e50]
                  go_simp
                  all_goals first | with_reducible rfl | omega
                · intro b1_ b2_ a_ w_ st x1_ x2_ y1_ y2_ hJ_
                  have e50 : a_.eval (.tmp 50) = _ := st.dep 5 _ 50 rfl rfl (by kernel_rfl)
                  have e55 : a_.eval (.tmp 55) = _ := st.dep 10 _ 55 rfl rfl (by kernel_rfl)
                  try simp only [List.getD_cons_zero, List.getD_cons_succ] at e50 e55
                  refine op2_yield _ (by rfl) ?_ rfl (by decide) (by decide) hJ_
                  simp only [execOp, e50, e55]
                  go_simp
                  all_goals first | with_reducible rfl | omega
                · intro b1_ b2_ a_ w_ st x1_ x2_ y1_ y2_ hJ_
                  have e56 : a_.eval (.tmp 56) = _ := st.dep 11 _ 56 rfl rfl (by kernel_rfl)
                  try simp only [List.getD_cons_zero, List.getD_cons_succ] at e56
                  refine op2_yield _ (by rfl) ?_ rfl (by decide) (by decide) hJ_
                  simp only [execOp, e56]
                  go_simp
                  all_goals first | with_reducible rfl | omega
                · intro b1_ b2_ a_ w_ st x1_ x2_ y1_ y2_ hJ_
                  have e6 : a_.eval (.tmp 6) = .pointer (some ⟨gd, 0, none⟩) := st.slot 6 (by kernel_rfl)
                  have e57 : a_.eval (.tmp 57) = _ := st.dep 12 _ 57 rfl rfl (by kernel_rfl)
                  try simp only [List.getD_cons_zero, List.getD_cons_succ] at e6 e57
                  refine op2_yield _ (wanted_some rfl (st.yields 12 _ 57 rfl rfl (of_decide_eq_true (by kernel_rfl)) true e57)) ?_ rfl (by decide) (by decide) hJ_
                  exact FD.out _ _ _ _ rfl e6 hJ_
                · intro b1_ b2_ a_ w_ st x1_ x2_ y1_ y2_ hJ_
                  have e58 : a_.eval (.tmp 58) = _ := st.dep 13 _ 58 rfl rfl (by kernel_rfl)
                  have e57 : a_.eval (.tmp 57) = _ := st.dep 12 _ 57 rfl rfl (by kernel_rfl)
                  try simp only [List.getD_cons_zero, List.getD_cons_succ] at e58 e57
                  exact op2_call Try.func18 (by kernel_rfl) rfl #[vd] (wanted_some rfl (st.yields 12 _ 57 rfl rfl (of_decide_eq_true (by kernel_rfl)) true e57)) rfl (by simp [e58, e57]) (VC_stable _) (fun _ _ w1 w2 hb hj => below_step hj hb) (by decide) (by decide) hJ_ ((SD.out w_).mono fun e w'' h => ⟨_, h.1, h.2, rfl⟩)
                · intro b1_ b2_ a_ w_ st x1_ x2_ y1_ y2_ hJ_
                  have e2 : a_.eval (.tmp 2) = .pointer (some ⟨g, 0, none⟩) := st.slot 2 (by kernel_rfl)
                  have e57 : a_.eval (.tmp 57) = _ := st.dep 12 _ 57 rfl rfl (by kernel_rfl)
                  try simp only [List.getD_cons_zero, List.getD_cons_succ] at e2 e57
                  refine op2_yield _ (wanted_some rfl (st.yields 12 _ 57 rfl rfl (of_decide_eq_true (by kernel_rfl)) true e57)) ?_ rfl (by decide) (by decide) hJ_
                  exact FC.out _ _ _ _ rfl e2 hJ_
                · intro b1_ b2_ a_ w_ st x1_ x2_ y1_ y2_ hJ_
                  have e60 : a_.eval (.tmp 60) = _ := st.dep 15 _ 60 rfl rfl (by kernel_rfl)
                  have e57 : a_.eval (.tmp 57) = _ := st.dep 12 _ 57 rfl rfl (by kernel_rfl)
                  try simp only [List.getD_cons_zero, List.getD_cons_succ] at e60 e57
                  exact op2_call Try.func18 (by kernel_rfl) rfl #[vc] (wanted_some rfl (st.yields 12 _ 57 rfl rfl (of_decide_eq_true (by kernel_rfl)) true e57)) rfl (by simp [e60, e57]) (VC_stable _) (fun _ _ w1 w2 hb hj => below_step hj hb) (by decide) (by decide) hJ_ ((SC.out w_).mono fun e w'' h => ⟨_, h.1, h.2, rfl⟩)
                · intro b1_ b2_ a_ w_ st x1_ x2_ y1_ y2_ hJ_
                  have e59 : a_.eval (.tmp 59) = _ := st.dep 14 _ 59 rfl rfl (by kernel_rfl)
                  have e61 : a_.eval (.tmp 61) = _ := st.dep 16 _ 61 rfl rfl (by kernel_rfl)
                  have e57 : a_.eval (.tmp 57) = _ := st.dep 12 _ 57 rfl rfl (by kernel_rfl)
                  try simp only [List.getD_cons_zero, List.getD_cons_succ] at e59 e61 e57
                  refine op2_yield _ (wanted_some rfl (st.yields 12 _ 57 rfl rfl (of_decide_eq_true (by kernel_rfl)) true e57)) ?_ rfl (by decide) (by decide) hJ_
                  simp only [execOp, e59, e61, e57]
                  go_simp
                  all_goals first | with_reducible rfl | omega
                · intro b1_ b2_ a_ w_ st x1_ x2_ y1_ y2_ hJ_
                  have e57 : a_.eval (.tmp 57) = _ := st.dep 12 _ 57 rfl rfl (by kernel_rfl)
                  have e62 : a_.eval (.tmp 62) = _ := st.dep 17 _ 62 rfl rfl (by kernel_rfl)
                  try simp only [List.getD_cons_zero, List.getD_cons_succ] at e57 e62
                  refine op2_yield _ (by rfl) ?_ rfl (by decide) (by decide) hJ_
                  simp only [execOp, e57, e62]
                  go_simp
                  all_goals first | with_reducible rfl | omega
                · intro b1_ b2_ a_ w_ st x1_ x2_ y1_ y2_ hJ_
                  have e63 : a_.eval (.tmp 63) = _ := st.dep 18 _ 63 rfl rfl (by kernel_rfl)
                  try simp only [List.getD_cons_zero, List.getD_cons_succ] at e63
                  refine op2_yield _ (by rfl) ?_ rfl (by decide) (by decide) hJ_
                  simp only [execOp, e63]
                  go_simp
                  all_goals first | with_reducible rfl | omega
                · intro b1_ b2_ a_ w_ st x1_ x2_ y1_ y2_ hJ_
                  have e2 : a_.eval (.tmp 2) = .pointer (some ⟨g, 0, none⟩) := st.slot 2 (by kernel_rfl)
                  have e64 : a_.eval (.tmp 64) = _ := st.dep 19 _ 64 rfl rfl (by kernel_rfl)
                  try simp only [List.getD_cons_zero, List.getD_cons_succ] at e2 e64
                  refine op2_yield _ (wanted_some rfl (st.yields 19 _ 64 rfl rfl (of_decide_eq_true (by kernel_rfl)) true e64)) ?_ rfl (by decide) (by decide) hJ_
                  exact FC.out _ _ _ _ rfl e2 hJ_
                · intro b1_ b2_ a_ w_ st x1_ x2_ y1_ y2_ hJ_
                  have e65 : a_.eval (.tmp 65) = _ := st.dep 20 _ 65 rfl rfl (by kernel_rfl)
                  have e64 : a_.eval (.tmp 64) = _ := st.dep 19 _ 64 rfl rfl (by kernel_rfl)
                  try simp only [List.getD_cons_zero, List.getD_cons_succ] at e65 e64
                  exact op2_call Try.func18 (by kernel_rfl) rfl #[vc] (wanted_some rfl (st.yields 19 _ 64 rfl rfl (of_decide_eq_true (by kernel_rfl)) true e64)) rfl (by simp [e65, e64]) (VC_stable _) (fun _ _ w1 w2 hb hj => below_step hj hb) (by decide) (by decide) hJ_ ((SC.out w_).mono fun e w'' h => ⟨_, h.1, h.2, rfl⟩)
                · intro b1_ b2_ a_ w_ st x1_ x2_ y1_ y2_ hJ_
                  have e2 : a_.eval (.tmp 2) = .pointer (some ⟨g, 0, none⟩) := st.slot 2 (by kernel_rfl)
                  have e64 : a_.eval (.tmp 64) = _ := st.dep 19 _ 64 rfl rfl (by kernel_rfl)
                  try simp only [List.getD_cons_zero, List.getD_cons_succ] at e2 e64
                  refine op2_yield _ (wanted_some rfl (st.yields 19 _ 64 rfl rfl (of_decide_eq_true (by kernel_rfl)) true e64)) ?_ rfl (by decide) (by decide) hJ_
                  exact FC.out _ _ _ _ rfl e2 hJ_
                · intro b1_ b2_ a_ w_ st x1_ x2_ y1_ y2_ hJ_
                  have e67 : a_.eval (.tmp 67) = _ := st.dep 22 _ 67 rfl rfl (by kernel_rfl)
                  have e64 : a_.eval (.tmp 64) = _ := st.dep 19 _ 64 rfl rfl (by kernel_rfl)
                  try simp only [List.getD_cons_zero, List.getD_cons_succ] at e67 e64
                  exact op2_call Try.func16 (by kernel_rfl) rfl #[vc] (wanted_some rfl (st.yields 19 _ 64 rfl rfl (of_decide_eq_true (by kernel_rfl)) true e64)) rfl (by simp [e67, e64]) (VC_stable _) (fun _ _ w1 w2 hb hj => below_step hj hb) (by decide) (by decide) hJ_ ((KC.out w_).mono fun e w'' h => ⟨_, h.1, h.2, rfl⟩)
                · intro b1_ b2_ a_ w_ st x1_ x2_ y1_ y2_ hJ_
                  have e66 : a_.eval (.tmp 66) = _ := st.dep 21 _ 66 rfl rfl (by kernel_rfl)
                  have e68 : a_.eval (.tmp 68) = _ := st.dep 23 _ 68 rfl rfl (by kernel_rfl)
                  have e64 : a_.eval (.tmp 64) = _ := st.dep 19 _ 64 rfl rfl (by kernel_rfl)
                  try simp only [List.getD_cons_zero, List.getD_cons_succ] at e66 e68 e64
                  refine op2_yield _ (wanted_some rfl (st.yields 19 _ 64 rfl rfl (of_decide_eq_true (by kernel_rfl)) true e64)) ?_ rfl (by decide) (by decide) hJ_
                  simp only [execOp, e66, e68, e64]
                  go_simp
                  all_goals first | with_reducible rfl | omega
                · intro b1_ b2_ a_ w_ st x1_ x2_ y1_ y2_ hJ_
                  have e64 : a_.eval (.tmp 64) = _ := st.dep 19 _ 64 rfl rfl (by kernel_rfl)
                  have e69 : a_.eval (.tmp 69) = _ := st.dep 24 _ 69 rfl rfl (by kernel_rfl)
                  try simp only [List.getD_cons_zero, List.getD_cons_succ] at e64 e69
                  refine op2_yield _ (by rfl) ?_ rfl (by decide) (by decide) hJ_
                  simp only [execOp, e64, e69]
                  go_simp
                  all_goals first | with_reducible rfl | omega
                · intro b1_ b2_ a_ w_ st x1_ x2_ y1_ y2_ hJ_
                  have e70 : a_.eval (.tmp 70) = _ := st.dep 25 _ 70 rfl rfl (by kernel_rfl)
                  try simp only [List.getD_cons_zero, List.getD_cons_succ] at e70
                  refine op2_yield _ (by rfl) ?_ rfl (by decide) (by decide) hJ_
                  simp only [execOp, e70]
                  go_simp
                  all_goals first | with_reducible rfl | omega
              case rgra10 =>
              intro w7 hj7
              have hj7 := (show Below w6.heap.size w6 w7 from hj7)
              simp only [putL, Act.put, List.headD_cons, List.tail_cons, List.setIfInBounds_toArray, List.set_cons_zero, List.set_cons_succ]
              have B7 := Aside0.mk (below_step B6.out hj7)
              clear hj7
              go_wp2
              go_ret
              exact ⟨rfl, B7.out⟩
theorem walk (a0 a1 a2 a3 a4 a5 a6 a7 a8 a9 a10 a11 a12 a13 : Int) (a14 a15 : Bool) (m : Int) (w : World) (_h : (Lit.int .i64 m).wf = true) : Calls Try.prog 6 #[.agg #[.int .i64 a0, .int .i64 a1, .int .i64 a2, .int .i64 a3, .int .i64 a4, .int .i64 a5, .int .i64 a6, .int .i64 a7, .int .i64 a8, .int .i64 a9, .int .i64 a10, .int .i64 a11, .int .i64 a12, .int .i64 a13, .bool a14, .bool a15], .int .i64 m] w fun e w' => e = .returned (.bool true) ∧ Below w.heap.size w w' := by
  rcases Classical.em (m < 0 ∨ 100 < m ∨ lat a0 a1 a2 a3 a4 a5 a6 a7 a8 a9 a10 a11 a12 a13 a14 a15 = 0) with h | h
  · exact grows_early a0 a1 a2 a3 a4 a5 a6 a7 a8 a9 a10 a11 a12 a13 a14 a15 m w h
  · have h1 : ¬ m < 0 := fun x => h (.inl x)
    have h2 : ¬ 100 < m := fun x => h (.inr (.inl x))
    have h3 : ¬ lat a0 a1 a2 a3 a4 a5 a6 a7 a8 a9 a10 a11 a12 a13 a14 a15 = 0 := fun x => h (.inr (.inr x))
    have hb := ok_out a0 a1 a2 a3 a4 a5 a6 a7 a8 a9 a10 a11 a12 a13 a14 a15 (lat_ok a0 a1 a2 a3 a4 a5 a6 a7 a8 a9 a10 a11 a12 a13 a14 a15 h3)
    have u1 : IntKind.i64.wrap (a11 + m) = a11 + m := by simp only [IntKind.wrap_i64]; omega
    have u2 : IntKind.i64.wrap (a9 + m) = a9 + m := by simp only [IntKind.wrap_i64]; omega
    exact grows_late a0 a1 a2 a3 a4 a5 a6 a7 a8 a9 a10 a11 a12 a13 a14 a15 m _ w h1 h2 h3 rfl _ _ _ _ rfl rfl rfl rfl (fun hd he => law a0 a1 a2 a3 a4 a5 a6 a7 a8 a9 a10 a11 a12 a13 a14 a15 m (by omega) h3 hd he) u1 u2
end Go.Proofs.Ytbcgihkmgmbomaa.QGrowsW
