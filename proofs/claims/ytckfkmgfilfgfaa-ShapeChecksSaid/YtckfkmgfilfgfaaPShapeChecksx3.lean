-- PRINTED BY print.sh 35421559b90ae4d0a3588c463048766b98c2df88dd9212a6774a882060cdf62d: not written by this session
import Derived.Test.YtckfkmgfilfgfaaPShapeChecksx0
import Derived.Test.YtckfkmgfilfgfaaPShapeChecksx1
import Derived.Test.YtckfkmgfilfgfaaPShapeChecksx2
namespace Go.Proofs.Ytckfkmgfilfgfaa.PShapeChecks
open Go.RowKit Go.Proofs.YtckfkmgfilfgfaaW.PrintWords Go.Proofs.YtckfkmgfilfgfaaW.PrintLast Go.Proofs.YtckfkmgfilfgfaaW.PrintMore
attribute [local go_sem] max2_int min2_int max_two min_two max_three min_three max_four min_four   -- for this text's walks alone
set_option linter.unusedVariables false
set_option linter.unusedSimpArgs false

/-! ### signalmanlaw19_good: function 12 -/
def signalmanlaw19_good.f  : Option (Int × Int × Int × Int × Int × Int × Int × Int × Int × Int × Int × Int × Int × Int × Bool × Bool) := some (0, 128, 4, 10, 3, 0, 5, 20, 4, 20, 500, 10, 3, 3, false, false)
set_option maxHeartbeats 8000000 in
set_option maxRecDepth 100000 in
theorem signalmanlaw19_good.calls  (r1 : Int) (r2 : Int) (r3 : Int) (r4 : Int) (r5 : Int) (r6 : Int) (r7 : Int) (r8 : Int) (r9 : Int) (r10 : Int) (r11 : Int) (r12 : Int) (r13 : Int) (r14 : Int) (r15 : Bool) (r16 : Bool) (w : World) (h : signalmanlaw19_good.f  = some (r1, r2, r3, r4, r5, r6, r7, r8, r9, r10, r11, r12, r13, r14, r15, r16)) :
    Calls Try.prog 12 #[] w fun e w' => e = .returned (.agg #[.int .i64 r1, .int .i64 r2, .int .i64 r3, .int .i64 r4, .int .i64 r5, .int .i64 r6, .int .i64 r7, .int .i64 r8, .int .i64 r9, .int .i64 r10, .int .i64 r11, .int .i64 r12, .int .i64 r13, .int .i64 r14, .bool r15, .bool r16]) ∧ Below w.heap.size w w' := by
  have hu23 := Try.underlying23
  have HB := Aside0.mk (Below.refl w.heap.size w)
  have H : (some (0, 128, 4, 10, 3, 0, 5, 20, 4, 20, 500, 10, 3, 3, false, false)) = some (r1, r2, r3, r4, r5, r6, r7, r8, r9, r10, r11, r12, r13, r14, r15, r16) := h
  clear h
  simp only [Option.some.injEq, Prod.mk.injEq] at H
  obtain ⟨rfl, rfl, rfl, rfl, rfl, rfl, rfl, rfl, rfl, rfl, rfl, rfl, rfl, rfl, rfl, rfl⟩ := H
  go_enter Try.func12, Try.ntmps12
  go_wp2_with (first | ((with_reducible refine gate_dst (N := 0) rfl ?_); refine box_event ?hg (N := 0) ?hd (cs := #[.int .i64 0, .int .i64 0, .int .i64 0, .int .i64 0, .int .i64 0, .int .i64 0, .int .i64 0, .int .i64 0, .int .i64 0, .int .i64 0, .int .i64 0, .int .i64 0, .int .i64 0, .int .i64 0, .bool false, .bool false]) (t := 23) ?hr ?_; (case hd => rfl); (case hg => rfl); (case hr => first | (go_simp; done) | (go_simp; rfl)); intro gb116 hg w1 hbox hb; have n0_ := Aside0.mk (below_step (by repeat (first | (with_reducible first | exact HB.out | apply below_alloc | apply pw_below_drewN | apply below_drew1) | exact HB.out)) hb); have n1_ := Aside0.mk (hbox); have n2_ := Aside0.mk ((by rw [hg]; exact (below_size (by repeat (first | (with_reducible first | exact HB.out | apply below_alloc | apply pw_below_drewN | apply below_drew1) | exact HB.out))) : w.heap.size ≤ gb116)); have n3_ := Aside0.mk ((by rw [hg]; exact (below_size (by repeat (first | (with_reducible first | exact HB.out | apply below_alloc | apply pw_below_drewN | apply below_drew1) | exact HB.out))) : w.heap.size ≤ gb116)); clear HB; have HB := n0_; have BK116 := n1_; have GW116 := n2_; have GE116 := n3_; clear n0_ n1_ n2_ n3_; clear hb hbox hg; have hcz2_0 : w1.cell? ⟨gb116, 0, none⟩ = some (.int .i64 0) := (blk_cell BK116.out 0).trans rfl; have hcz2_1 : w1.cell? ⟨gb116, 1, none⟩ = some (.int .i64 0) := (blk_cell BK116.out 1).trans rfl; have hcz2_2 : w1.cell? ⟨gb116, 2, none⟩ = some (.int .i64 0) := (blk_cell BK116.out 2).trans rfl; have hcz2_3 : w1.cell? ⟨gb116, 3, none⟩ = some (.int .i64 0) := (blk_cell BK116.out 3).trans rfl; have hcz2_4 : w1.cell? ⟨gb116, 4, none⟩ = some (.int .i64 0) := (blk_cell BK116.out 4).trans rfl; have hcz2_5 : w1.cell? ⟨gb116, 5, none⟩ = some (.int .i64 0) := (blk_cell BK116.out 5).trans rfl; have hcz2_6 : w1.cell? ⟨gb116, 6, none⟩ = some (.int .i64 0) := (blk_cell BK116.out 6).trans rfl; have hcz2_7 : w1.cell? ⟨gb116, 7, none⟩ = some (.int .i64 0) := (blk_cell BK116.out 7).trans rfl; have hcz2_8 : w1.cell? ⟨gb116, 8, none⟩ = some (.int .i64 0) := (blk_cell BK116.out 8).trans rfl; have hcz2_9 : w1.cell? ⟨gb116, 9, none⟩ = some (.int .i64 0) := (blk_cell BK116.out 9).trans rfl; have hcz2_10 : w1.cell? ⟨gb116, 10, none⟩ = some (.int .i64 0) := (blk_cell BK116.out 10).trans rfl; have hcz2_11 : w1.cell? ⟨gb116, 11, none⟩ = some (.int .i64 0) := (blk_cell BK116.out 11).trans rfl; have hcz2_12 : w1.cell? ⟨gb116, 12, none⟩ = some (.int .i64 0) := (blk_cell BK116.out 12).trans rfl; have hcz2_13 : w1.cell? ⟨gb116, 13, none⟩ = some (.int .i64 0) := (blk_cell BK116.out 13).trans rfl; have hcz2_14 : w1.cell? ⟨gb116, 14, none⟩ = some (.bool false) := (blk_cell BK116.out 14).trans rfl; have hcz2_15 : w1.cell? ⟨gb116, 15, none⟩ = some (.bool false) := (blk_cell BK116.out 15).trans rfl; have hfz2_0 := blk_frozen BK116.out 0; have hfz2_1 := blk_frozen BK116.out 1; have hfz2_2 := blk_frozen BK116.out 2; have hfz2_3 := blk_frozen BK116.out 3; have hfz2_4 := blk_frozen BK116.out 4; have hfz2_5 := blk_frozen BK116.out 5; have hfz2_6 := blk_frozen BK116.out 6; have hfz2_7 := blk_frozen BK116.out 7; have hfz2_8 := blk_frozen BK116.out 8; have hfz2_9 := blk_frozen BK116.out 9; have hfz2_10 := blk_frozen BK116.out 10; have hfz2_11 := blk_frozen BK116.out 11; have hfz2_12 := blk_frozen BK116.out 12; have hfz2_13 := blk_frozen BK116.out 13; have hfz2_14 := blk_frozen BK116.out 14; have hfz2_15 := blk_frozen BK116.out 15))
  refine bodyPost_ret (results_cell_row rfl _ _ gb116 23 #[.int .i64 0, .int .i64 128, .int .i64 4, .int .i64 10, .int .i64 3, .int .i64 0, .int .i64 5, .int .i64 20, .int .i64 4, .int .i64 20, .int .i64 500, .int .i64 10, .int .i64 3, .int .i64 3, .bool false, .bool false] (0, 0) _ rfl (by (with_reducible repeat (first | refine blk_drewN ?_ _ | refine blk_drew ?_ | refine blk_alloc ?_ _)); refine blk_put (cs := #[.int .i64 0, .int .i64 128, .int .i64 4, .int .i64 10, .int .i64 3, .int .i64 0, .int .i64 5, .int .i64 20, .int .i64 4, .int .i64 20, .int .i64 500, .int .i64 10, .int .i64 3, .int .i64 3, .bool false, .bool false]) ?_ 15 _ rfl; (with_reducible repeat (first | refine blk_drewN ?_ _ | refine blk_drew ?_ | refine blk_alloc ?_ _)); refine blk_put (cs := #[.int .i64 0, .int .i64 128, .int .i64 4, .int .i64 10, .int .i64 3, .int .i64 0, .int .i64 5, .int .i64 20, .int .i64 4, .int .i64 20, .int .i64 500, .int .i64 10, .int .i64 3, .int .i64 3, .bool false, .bool false]) ?_ 14 _ rfl; (with_reducible repeat (first | refine blk_drewN ?_ _ | refine blk_drew ?_ | refine blk_alloc ?_ _)); refine blk_put (cs := #[.int .i64 0, .int .i64 128, .int .i64 4, .int .i64 10, .int .i64 3, .int .i64 0, .int .i64 5, .int .i64 20, .int .i64 4, .int .i64 20, .int .i64 500, .int .i64 10, .int .i64 3, .int .i64 0, .bool false, .bool false]) ?_ 13 _ rfl; (with_reducible repeat (first | refine blk_drewN ?_ _ | refine blk_drew ?_ | refine blk_alloc ?_ _)); refine blk_put (cs := #[.int .i64 0, .int .i64 128, .int .i64 4, .int .i64 10, .int .i64 3, .int .i64 0, .int .i64 5, .int .i64 20, .int .i64 4, .int .i64 20, .int .i64 500, .int .i64 10, .int .i64 0, .int .i64 0, .bool false, .bool false]) ?_ 12 _ rfl; (with_reducible repeat (first | refine blk_drewN ?_ _ | refine blk_drew ?_ | refine blk_alloc ?_ _)); refine blk_put (cs := #[.int .i64 0, .int .i64 128, .int .i64 4, .int .i64 10, .int .i64 3, .int .i64 0, .int .i64 5, .int .i64 20, .int .i64 4, .int .i64 20, .int .i64 500, .int .i64 0, .int .i64 0, .int .i64 0, .bool false, .bool false]) ?_ 11 _ rfl; (with_reducible repeat (first | refine blk_drewN ?_ _ | refine blk_drew ?_ | refine blk_alloc ?_ _)); refine blk_put (cs := #[.int .i64 0, .int .i64 128, .int .i64 4, .int .i64 10, .int .i64 3, .int .i64 0, .int .i64 5, .int .i64 20, .int .i64 4, .int .i64 20, .int .i64 0, .int .i64 0, .int .i64 0, .int .i64 0, .bool false, .bool false]) ?_ 10 _ rfl; (with_reducible repeat (first | refine blk_drewN ?_ _ | refine blk_drew ?_ | refine blk_alloc ?_ _)); refine blk_put (cs := #[.int .i64 0, .int .i64 128, .int .i64 4, .int .i64 10, .int .i64 3, .int .i64 0, .int .i64 5, .int .i64 20, .int .i64 4, .int .i64 0, .int .i64 0, .int .i64 0, .int .i64 0, .int .i64 0, .bool false, .bool false]) ?_ 9 _ rfl; (with_reducible repeat (first | refine blk_drewN ?_ _ | refine blk_drew ?_ | refine blk_alloc ?_ _)); refine blk_put (cs := #[.int .i64 0, .int .i64 128, .int .i64 4, .int .i64 10, .int .i64 3, .int .i64 0, .int .i64 5, .int .i64 20, .int .i64 0, .int .i64 0, .int .i64 0, .int .i64 0, .int .i64 0, .int .i64 0, .bool false, .bool false]) ?_ 8 _ rfl; (with_reducible repeat (first | refine blk_drewN ?_ _ | refine blk_drew ?_ | refine blk_alloc ?_ _)); refine blk_put (cs := #[.int .i64 0, .int .i64 128, .int .i64 4, .int .i64 10, .int .i64 3, .int .i64 0, .int .i64 5, .int .i64 0, .int .i64 0, .int .i64 0, .int .i64 0, .int .i64 0, .int .i64 0, .int .i64 0, .bool false, .bool false]) ?_ 7 _ rfl; (with_reducible repeat (first | refine blk_drewN ?_ _ | refine blk_drew ?_ | refine blk_alloc ?_ _)); refine blk_put (cs := #[.int .i64 0, .int .i64 128, .int .i64 4, .int .i64 10, .int .i64 3, .int .i64 0, .int .i64 0, .int .i64 0, .int .i64 0, .int .i64 0, .int .i64 0, .int .i64 0, .int .i64 0, .int .i64 0, .bool false, .bool false]) ?_ 6 _ rfl; (with_reducible repeat (first | refine blk_drewN ?_ _ | refine blk_drew ?_ | refine blk_alloc ?_ _)); refine blk_put (cs := #[.int .i64 0, .int .i64 128, .int .i64 4, .int .i64 10, .int .i64 3, .int .i64 0, .int .i64 0, .int .i64 0, .int .i64 0, .int .i64 0, .int .i64 0, .int .i64 0, .int .i64 0, .int .i64 0, .bool false, .bool false]) ?_ 5 _ rfl; (with_reducible repeat (first | refine blk_drewN ?_ _ | refine blk_drew ?_ | refine blk_alloc ?_ _)); refine blk_put (cs := #[.int .i64 0, .int .i64 128, .int .i64 4, .int .i64 10, .int .i64 0, .int .i64 0, .int .i64 0, .int .i64 0, .int .i64 0, .int .i64 0, .int .i64 0, .int .i64 0, .int .i64 0, .int .i64 0, .bool false, .bool false]) ?_ 4 _ rfl; (with_reducible repeat (first | refine blk_drewN ?_ _ | refine blk_drew ?_ | refine blk_alloc ?_ _)); refine blk_put (cs := #[.int .i64 0, .int .i64 128, .int .i64 4, .int .i64 0, .int .i64 0, .int .i64 0, .int .i64 0, .int .i64 0, .int .i64 0, .int .i64 0, .int .i64 0, .int .i64 0, .int .i64 0, .int .i64 0, .bool false, .bool false]) ?_ 3 _ rfl; (with_reducible repeat (first | refine blk_drewN ?_ _ | refine blk_drew ?_ | refine blk_alloc ?_ _)); refine blk_put (cs := #[.int .i64 0, .int .i64 128, .int .i64 0, .int .i64 0, .int .i64 0, .int .i64 0, .int .i64 0, .int .i64 0, .int .i64 0, .int .i64 0, .int .i64 0, .int .i64 0, .int .i64 0, .int .i64 0, .bool false, .bool false]) ?_ 2 _ rfl; (with_reducible repeat (first | refine blk_drewN ?_ _ | refine blk_drew ?_ | refine blk_alloc ?_ _)); refine blk_put (cs := #[.int .i64 0, .int .i64 0, .int .i64 0, .int .i64 0, .int .i64 0, .int .i64 0, .int .i64 0, .int .i64 0, .int .i64 0, .int .i64 0, .int .i64 0, .int .i64 0, .int .i64 0, .int .i64 0, .bool false, .bool false]) ?_ 1 _ rfl; (with_reducible repeat (first | refine blk_drewN ?_ _ | refine blk_drew ?_ | refine blk_alloc ?_ _)); refine blk_put (cs := #[.int .i64 0, .int .i64 0, .int .i64 0, .int .i64 0, .int .i64 0, .int .i64 0, .int .i64 0, .int .i64 0, .int .i64 0, .int .i64 0, .int .i64 0, .int .i64 0, .int .i64 0, .int .i64 0, .bool false, .bool false]) ?_ 0 _ rfl; (with_reducible repeat (first | refine blk_drewN ?_ _ | refine blk_drew ?_ | refine blk_alloc ?_ _)); exact BK116.out) Try.underlying23 rfl (by kernel_rfl)) rfl ?_
  exact ⟨by first | rfl | (simp [errW_none, errW_some] <;> rfl) | (simp [*, errW_none, errW_some] <;> rfl), by repeat (first | (with_reducible first | exact HB.out | apply below_alloc | apply pw_below_drewN | apply below_drew1 | refine below_set ?_ GE116.out) | exact HB.out)⟩

/-! ### signalmanlaw19_alive: function 6 -/
def signalmanlaw19_alive.f (k : Nat)  : Option (Bool) := (shape_Most.f 0 0 0 0 0 0 0 0 0 1 0 0 0 0 false false).bind fun t117 => (if t117 = 36 then ((signalmanlaw19_good.f).bind fun bt118 => ((shape_Check.f k bt118.1 bt118.2.1 bt118.2.2.1 bt118.2.2.2.1 bt118.2.2.2.2.1 bt118.2.2.2.2.2.1 bt118.2.2.2.2.2.2.1 bt118.2.2.2.2.2.2.2.1 bt118.2.2.2.2.2.2.2.2.1 bt118.2.2.2.2.2.2.2.2.2.1 bt118.2.2.2.2.2.2.2.2.2.2.1 bt118.2.2.2.2.2.2.2.2.2.2.2.1 bt118.2.2.2.2.2.2.2.2.2.2.2.2.1 bt118.2.2.2.2.2.2.2.2.2.2.2.2.2.1 bt118.2.2.2.2.2.2.2.2.2.2.2.2.2.2.1 bt118.2.2.2.2.2.2.2.2.2.2.2.2.2.2.2).bind fun t134 => ((signalmanlaw19_num.f t134).bind fun t135 => (if t135 = 0 then ((shape_Check.f k 0 0 0 0 0 0 0 0 0 0 0 0 0 0 false false).bind fun t136 => ((signalmanlaw19_num.f t136).bind fun t137 => (some (t137 == 1)))) else (some false))))) else (some false))
theorem signalmanlaw19_alive.mono : ∀ k, LeO (signalmanlaw19_alive.f k ) (signalmanlaw19_alive.f (k + 1) ) := by
  intro  k
  unfold signalmanlaw19_alive.f
  repeat' first
      | (with_reducible exact shape_Check.mono _ _ _ _ _ _ _ _ _ _ _ _ _ _ _ _ _)
      | (with_reducible exact LeO.refl _)
      | (with_reducible exact LeO.none _)
      | (with_reducible refine LeO.ite ?_ ?_)
      | (with_reducible refine LeO.bind ?_ (fun _ => ?_))
      | exact shape_Check.mono _ _ _ _ _ _ _ _ _ _ _ _ _ _ _ _ _
      | exact LeO.none _
      | refine LeO.ite ?_ ?_
      | refine LeO.bind ?_ (fun _ => ?_)
set_option maxHeartbeats 8000000 in
set_option maxRecDepth 100000 in
theorem signalmanlaw19_alive.calls (k : Nat)  (r : Bool) (w : World) (h : signalmanlaw19_alive.f k  = some r) :
    Calls Try.prog 6 #[] w fun e w' => e = .returned (.bool r) ∧ Below w.heap.size w w' := by
  have hu23 := Try.underlying23
  have HB := Aside0.mk (Below.refl w.heap.size w)
  have H : ((shape_Most.f 0 0 0 0 0 0 0 0 0 1 0 0 0 0 false false).bind fun t117 => (if t117 = 36 then ((signalmanlaw19_good.f).bind fun bt118 => ((shape_Check.f k bt118.1 bt118.2.1 bt118.2.2.1 bt118.2.2.2.1 bt118.2.2.2.2.1 bt118.2.2.2.2.2.1 bt118.2.2.2.2.2.2.1 bt118.2.2.2.2.2.2.2.1 bt118.2.2.2.2.2.2.2.2.1 bt118.2.2.2.2.2.2.2.2.2.1 bt118.2.2.2.2.2.2.2.2.2.2.1 bt118.2.2.2.2.2.2.2.2.2.2.2.1 bt118.2.2.2.2.2.2.2.2.2.2.2.2.1 bt118.2.2.2.2.2.2.2.2.2.2.2.2.2.1 bt118.2.2.2.2.2.2.2.2.2.2.2.2.2.2.1 bt118.2.2.2.2.2.2.2.2.2.2.2.2.2.2.2).bind fun t134 => ((signalmanlaw19_num.f t134).bind fun t135 => (if t135 = 0 then ((shape_Check.f k 0 0 0 0 0 0 0 0 0 0 0 0 0 0 false false).bind fun t136 => ((signalmanlaw19_num.f t136).bind fun t137 => (some (t137 == 1)))) else (some false))))) else (some false))) = some r := h
  clear h
  replace H := Option.bind_eq_some_iff.mp H
  obtain ⟨t117, A10, H⟩ := H
  replace H : (if t117 = 36 then ((signalmanlaw19_good.f).bind fun bt118 => ((shape_Check.f k bt118.1 bt118.2.1 bt118.2.2.1 bt118.2.2.2.1 bt118.2.2.2.2.1 bt118.2.2.2.2.2.1 bt118.2.2.2.2.2.2.1 bt118.2.2.2.2.2.2.2.1 bt118.2.2.2.2.2.2.2.2.1 bt118.2.2.2.2.2.2.2.2.2.1 bt118.2.2.2.2.2.2.2.2.2.2.1 bt118.2.2.2.2.2.2.2.2.2.2.2.1 bt118.2.2.2.2.2.2.2.2.2.2.2.2.1 bt118.2.2.2.2.2.2.2.2.2.2.2.2.2.1 bt118.2.2.2.2.2.2.2.2.2.2.2.2.2.2.1 bt118.2.2.2.2.2.2.2.2.2.2.2.2.2.2.2).bind fun t134 => ((signalmanlaw19_num.f t134).bind fun t135 => (if t135 = 0 then ((shape_Check.f k 0 0 0 0 0 0 0 0 0 0 0 0 0 0 false false).bind fun t136 => ((signalmanlaw19_num.f t136).bind fun t137 => (some (t137 == 1)))) else (some false))))) else (some false)) = some r := H
  have A1 := Aside0.mk A10
  clear A10
  by_cases c2 : t117 = 36
  · rw [if_pos c2] at H
    have c2b0 : (t117 == 36) = true := beq_iff_eq.mpr c2
    have c2b1 : (t117 != 36) = false := bne_eq_false_iff_eq.mpr c2
    clear c2
    replace H := Option.bind_eq_some_iff.mp H
    obtain ⟨⟨t118, t119, t120, t121, t122, t123, t124, t125, t126, t127, t128, t129, t130, t131, t132, t133⟩, A30, H⟩ := H
    replace H : ((shape_Check.f k t118 t119 t120 t121 t122 t123 t124 t125 t126 t127 t128 t129 t130 t131 t132 t133).bind fun t134 => ((signalmanlaw19_num.f t134).bind fun t135 => (if t135 = 0 then ((shape_Check.f k 0 0 0 0 0 0 0 0 0 0 0 0 0 0 false false).bind fun t136 => ((signalmanlaw19_num.f t136).bind fun t137 => (some (t137 == 1)))) else (some false)))) = some r := H
    have A3 := Aside0.mk A30
    clear A30
    replace H := Option.bind_eq_some_iff.mp H
    obtain ⟨t134, A40, H⟩ := H
    replace H : ((signalmanlaw19_num.f t134).bind fun t135 => (if t135 = 0 then ((shape_Check.f k 0 0 0 0 0 0 0 0 0 0 0 0 0 0 false false).bind fun t136 => ((signalmanlaw19_num.f t136).bind fun t137 => (some (t137 == 1)))) else (some false))) = some r := H
    have A4 := Aside0.mk A40
    clear A40
    replace H := Option.bind_eq_some_iff.mp H
    obtain ⟨t135, A50, H⟩ := H
    replace H : (if t135 = 0 then ((shape_Check.f k 0 0 0 0 0 0 0 0 0 0 0 0 0 0 false false).bind fun t136 => ((signalmanlaw19_num.f t136).bind fun t137 => (some (t137 == 1)))) else (some false)) = some r := H
    have A5 := Aside0.mk A50
    clear A50
    by_cases c6 : t135 = 0
    · rw [if_pos c6] at H
      have c6b0 : (t135 == 0) = true := beq_iff_eq.mpr c6
      have c6b1 : (t135 != 0) = false := bne_eq_false_iff_eq.mpr c6
      clear c6
      replace H := Option.bind_eq_some_iff.mp H
      obtain ⟨t136, A70, H⟩ := H
      replace H : ((signalmanlaw19_num.f t136).bind fun t137 => (some (t137 == 1))) = some r := H
      have A7 := Aside0.mk A70
      clear A70
      replace H := Option.bind_eq_some_iff.mp H
      obtain ⟨t137, A80, H⟩ := H
      replace H : (some (t137 == 1)) = some r := H
      have A8 := Aside0.mk A80
      clear A80
      obtain rfl := Option.some.inj H
      go_enter Try.func6, Try.ntmps6
      go_wp2_with (first | ((with_reducible refine gate_callee (f := 10) rfl ?_); refine goesL_ (some 2) rfl rfl Try.func10 (by kernel_rfl) rfl #[.agg #[.int .i64 0, .int .i64 0, .int .i64 0, .int .i64 0, .int .i64 0, .int .i64 0, .int .i64 0, .int .i64 0, .int .i64 0, .int .i64 1, .int .i64 0, .int .i64 0, .int .i64 0, .int .i64 0, .bool false, .bool false]] rfl (by (try simp only [List.map_toArray, List.map_cons, List.map_nil]); first | done | rfl | (simp only [List.length_drop, List.length_take]; rfl)) ?_; (with_reducible refine (shape_Most.calls 0 0 0 0 0 0 0 0 0 1 0 0 0 0 false false t117 _ A1.out).mono ?_); rintro e w9 ⟨rfl, hb⟩; refine ⟨_, rfl, ?_⟩; have n0_ := Aside0.mk (below_step (by repeat (first | (with_reducible first | exact HB.out | apply below_alloc | apply pw_below_drewN | apply below_drew1) | exact HB.out)) hb); clear HB; have HB := n0_; clear n0_; (try clear hb); (try clear hb2); (try clear hk); (try clear hi)) | (go_at_call 12; (with_reducible refine (signalmanlaw19_good.calls  t118 t119 t120 t121 t122 t123 t124 t125 t126 t127 t128 t129 t130 t131 t132 t133 _ A3.out).mono ?_); rintro e w10 ⟨rfl, hb⟩; have n0_ := Aside0.mk (below_step (by repeat (first | (with_reducible first | exact HB.out | apply below_alloc | apply pw_below_drewN | apply below_drew1) | exact HB.out)) hb); clear HB; have HB := n0_; clear n0_; (try clear hb); (try clear hb2); (try clear hk); (try clear hi)) | (go_at_call 8; (with_reducible refine (shape_Check.calls k t118 t119 t120 t121 t122 t123 t124 t125 t126 t127 t128 t129 t130 t131 t132 t133 t134 _ A4.out).mono ?_); rintro e w11 ⟨rfl, hb⟩; have n0_ := Aside0.mk (below_step (by repeat (first | (with_reducible first | exact HB.out | apply below_alloc | apply pw_below_drewN | apply below_drew1) | exact HB.out)) hb); clear HB; have HB := n0_; clear n0_; (try clear hb); (try clear hb2); (try clear hk); (try clear hi)) | (go_at_call 7; (with_reducible refine (signalmanlaw19_num.calls t134 t135 _ A5.out).mono ?_); rintro e w' ⟨rfl, ⟨nd, rfl⟩⟩) | (go_at_call 8; (with_reducible refine (shape_Check.calls k 0 0 0 0 0 0 0 0 0 0 0 0 0 0 false false t136 _ A7.out).mono ?_); rintro e w12 ⟨rfl, hb⟩; have n0_ := Aside0.mk (below_step (by repeat (first | (with_reducible first | exact HB.out | apply below_alloc | apply pw_below_drewN | apply below_drew1) | exact HB.out)) hb); clear HB; have HB := n0_; clear n0_; (try clear hb); (try clear hb2); (try clear hk); (try clear hi)) | (go_at_call 7; (with_reducible refine (signalmanlaw19_num.calls t136 t137 _ A8.out).mono ?_); rintro e w' ⟨rfl, ⟨nd, rfl⟩⟩))
      go_ret
      exact ⟨by first | rfl | (simp [errW_none, errW_some] <;> rfl) | (simp [*, errW_none, errW_some] <;> rfl), by repeat (first | (with_reducible first | exact HB.out | apply below_alloc | apply pw_below_drewN | apply below_drew1) | exact HB.out)⟩
    · rw [if_neg c6] at H
      have c6b0 : (t135 == 0) = false := beq_eq_false_iff_ne.mpr c6
      have c6b1 : (t135 != 0) = true := bne_iff_ne.mpr c6
      obtain rfl := Option.some.inj H
      go_enter Try.func6, Try.ntmps6
      go_wp2_with (first | ((with_reducible refine gate_callee (f := 10) rfl ?_); refine goesL_ (some 2) rfl rfl Try.func10 (by kernel_rfl) rfl #[.agg #[.int .i64 0, .int .i64 0, .int .i64 0, .int .i64 0, .int .i64 0, .int .i64 0, .int .i64 0, .int .i64 0, .int .i64 0, .int .i64 1, .int .i64 0, .int .i64 0, .int .i64 0, .int .i64 0, .bool false, .bool false]] rfl (by (try simp only [List.map_toArray, List.map_cons, List.map_nil]); first | done | rfl | (simp only [List.length_drop, List.length_take]; rfl)) ?_; (with_reducible refine (shape_Most.calls 0 0 0 0 0 0 0 0 0 1 0 0 0 0 false false t117 _ A1.out).mono ?_); rintro e w13 ⟨rfl, hb⟩; refine ⟨_, rfl, ?_⟩; have n0_ := Aside0.mk (below_step (by repeat (first | (with_reducible first | exact HB.out | apply below_alloc | apply pw_below_drewN | apply below_drew1) | exact HB.out)) hb); clear HB; have HB := n0_; clear n0_; (try clear hb); (try clear hb2); (try clear hk); (try clear hi)) | (go_at_call 12; (with_reducible refine (signalmanlaw19_good.calls  t118 t119 t120 t121 t122 t123 t124 t125 t126 t127 t128 t129 t130 t131 t132 t133 _ A3.out).mono ?_); rintro e w14 ⟨rfl, hb⟩; have n0_ := Aside0.mk (below_step (by repeat (first | (with_reducible first | exact HB.out | apply below_alloc | apply pw_below_drewN | apply below_drew1) | exact HB.out)) hb); clear HB; have HB := n0_; clear n0_; (try clear hb); (try clear hb2); (try clear hk); (try clear hi)) | (go_at_call 8; (with_reducible refine (shape_Check.calls k t118 t119 t120 t121 t122 t123 t124 t125 t126 t127 t128 t129 t130 t131 t132 t133 t134 _ A4.out).mono ?_); rintro e w15 ⟨rfl, hb⟩; have n0_ := Aside0.mk (below_step (by repeat (first | (with_reducible first | exact HB.out | apply below_alloc | apply pw_below_drewN | apply below_drew1) | exact HB.out)) hb); clear HB; have HB := n0_; clear n0_; (try clear hb); (try clear hb2); (try clear hk); (try clear hi)) | (go_at_call 7; (with_reducible refine (signalmanlaw19_num.calls t134 t135 _ A5.out).mono ?_); rintro e w' ⟨rfl, ⟨nd, rfl⟩⟩))
      go_ret
      exact ⟨by first | rfl | (simp [errW_none, errW_some] <;> rfl) | (simp [*, errW_none, errW_some] <;> rfl), by repeat (first | (with_reducible first | exact HB.out | apply below_alloc | apply pw_below_drewN | apply below_drew1) | exact HB.out)⟩
  · rw [if_neg c2] at H
    have c2b0 : (t117 == 36) = false := beq_eq_false_iff_ne.mpr c2
    have c2b1 : (t117 != 36) = true := bne_iff_ne.mpr c2
    obtain rfl := Option.some.inj H
    go_enter Try.func6, Try.ntmps6
    go_wp2_with (first | ((with_reducible refine gate_callee (f := 10) rfl ?_); refine goesL_ (some 2) rfl rfl Try.func10 (by kernel_rfl) rfl #[.agg #[.int .i64 0, .int .i64 0, .int .i64 0, .int .i64 0, .int .i64 0, .int .i64 0, .int .i64 0, .int .i64 0, .int .i64 0, .int .i64 1, .int .i64 0, .int .i64 0, .int .i64 0, .int .i64 0, .bool false, .bool false]] rfl (by (try simp only [List.map_toArray, List.map_cons, List.map_nil]); first | done | rfl | (simp only [List.length_drop, List.length_take]; rfl)) ?_; (with_reducible refine (shape_Most.calls 0 0 0 0 0 0 0 0 0 1 0 0 0 0 false false t117 _ A1.out).mono ?_); rintro e w16 ⟨rfl, hb⟩; refine ⟨_, rfl, ?_⟩; have n0_ := Aside0.mk (below_step (by repeat (first | (with_reducible first | exact HB.out | apply below_alloc | apply pw_below_drewN | apply below_drew1) | exact HB.out)) hb); clear HB; have HB := n0_; clear n0_; (try clear hb); (try clear hb2); (try clear hk); (try clear hi)))
    go_ret
    exact ⟨by first | rfl | (simp [errW_none, errW_some] <;> rfl) | (simp [*, errW_none, errW_some] <;> rfl), by repeat (first | (with_reducible first | exact HB.out | apply below_alloc | apply pw_below_drewN | apply below_drew1) | exact HB.out)⟩

/-! ### signalmanref1_Cut: function 16 -/
def signalmanref1_Cut.f (a0 : Int) (a1 : Int) (a2 : Int) : Option (Int) := if a0 < a1 then (some a1) else (if a0 > a2 then (some a2) else (some a0))
set_option maxHeartbeats 8000000 in
set_option maxRecDepth 100000 in
theorem signalmanref1_Cut.calls (a0 : Int) (a1 : Int) (a2 : Int) (r : Int) (w : World) (h : signalmanref1_Cut.f a0 a1 a2 = some r) :
    Calls Try.prog 16 #[.int .i64 a0, .int .i64 a1, .int .i64 a2] w fun e w' => e = .returned (.int .i64 r) ∧ Drawn0 w w' := by
  have H : (if a0 < a1 then (some a1) else (if a0 > a2 then (some a2) else (some a0))) = some r := h
  clear h
  by_cases c4 : a0 < a1
  · rw [if_pos c4] at H
    have c4b0 : decide (a0 < a1) = true := decide_eq_true c4
    clear c4
    obtain rfl := Option.some.inj H
    go_enter Try.func16, Try.ntmps16
    go_wp2
    go_ret
    exact ⟨by first | rfl | (simp; done) | (simp [*]; done), by repeat (first | exact Drawn0.refl _ | apply Drawn0.step)⟩
  · rw [if_neg c4] at H
    have c4b0 : decide (a0 < a1) = false := decide_eq_false c4
    clear c4
    by_cases c5 : a0 > a2
    · rw [if_pos c5] at H
      have c5b0 : decide (a2 < a0) = true := decide_eq_true c5
      clear c5
      obtain rfl := Option.some.inj H
      go_enter Try.func16, Try.ntmps16
      go_wp2
      go_ret
      exact ⟨by first | rfl | (simp; done) | (simp [*]; done), by repeat (first | exact Drawn0.refl _ | apply Drawn0.step)⟩
    · rw [if_neg c5] at H
      have c5b0 : decide (a2 < a0) = false := decide_eq_false c5
      clear c5
      obtain rfl := Option.some.inj H
      go_enter Try.func16, Try.ntmps16
      go_wp2
      go_ret
      exact ⟨by first | rfl | (simp; done) | (simp [*]; done), by repeat (first | exact Drawn0.refl _ | apply Drawn0.step)⟩

/-! ### signalmanref15_Most: function 11 -/
def signalmanref15_Most.f (a0_0 : Int) (a0_1 : Int) (a0_2 : Int) (a0_3 : Int) (a0_4 : Int) (a0_5 : Int) (a0_6 : Int) (a0_7 : Int) (a0_8 : Int) (a0_9 : Int) (a0_10 : Int) (a0_11 : Int) (a0_12 : Int) (a0_13 : Int) (a0_14 : Bool) (a0_15 : Bool) : Option (Int) := (signalmanref1_Cut.f a0_9 1 1000).bind fun t139 => (some (wrap64 ((wrap64 (2 * (wrap64 (t139 + 16)))) + 2)))
set_option maxHeartbeats 8000000 in
set_option maxRecDepth 100000 in
theorem signalmanref15_Most.calls (a0_0 : Int) (a0_1 : Int) (a0_2 : Int) (a0_3 : Int) (a0_4 : Int) (a0_5 : Int) (a0_6 : Int) (a0_7 : Int) (a0_8 : Int) (a0_9 : Int) (a0_10 : Int) (a0_11 : Int) (a0_12 : Int) (a0_13 : Int) (a0_14 : Bool) (a0_15 : Bool) (r : Int) (w : World) (h : signalmanref15_Most.f a0_0 a0_1 a0_2 a0_3 a0_4 a0_5 a0_6 a0_7 a0_8 a0_9 a0_10 a0_11 a0_12 a0_13 a0_14 a0_15 = some r) :
    Calls Try.prog 11 #[.agg #[.int .i64 a0_0, .int .i64 a0_1, .int .i64 a0_2, .int .i64 a0_3, .int .i64 a0_4, .int .i64 a0_5, .int .i64 a0_6, .int .i64 a0_7, .int .i64 a0_8, .int .i64 a0_9, .int .i64 a0_10, .int .i64 a0_11, .int .i64 a0_12, .int .i64 a0_13, .bool a0_14, .bool a0_15]] w fun e w' => e = .returned (.int .i64 r) ∧ Below w.heap.size w w' := by
  have hu23 := Try.underlying23
  have HB := Aside0.mk (Below.refl w.heap.size w)
  have H : ((signalmanref1_Cut.f a0_9 1 1000).bind fun t139 => (some (wrap64 ((wrap64 (2 * (wrap64 (t139 + 16)))) + 2)))) = some r := h
  clear h
  replace H := Option.bind_eq_some_iff.mp H
  obtain ⟨t139, A20, H⟩ := H
  replace H : (some (wrap64 ((wrap64 (2 * (wrap64 (t139 + 16)))) + 2))) = some r := H
  have A2 := Aside0.mk A20
  clear A20
  obtain rfl := Option.some.inj H
  go_enter Try.func11, Try.ntmps11
  go_wp2_with (first | ((with_reducible refine gate_dst (N := 1) rfl ?_); refine box_event ?hg (N := 1) ?hd (cs := #[.int .i64 a0_0, .int .i64 a0_1, .int .i64 a0_2, .int .i64 a0_3, .int .i64 a0_4, .int .i64 a0_5, .int .i64 a0_6, .int .i64 a0_7, .int .i64 a0_8, .int .i64 a0_9, .int .i64 a0_10, .int .i64 a0_11, .int .i64 a0_12, .int .i64 a0_13, .bool a0_14, .bool a0_15]) (t := 23) ?hr ?_; (case hd => rfl); (case hg => rfl); (case hr => first | (go_simp; done) | (go_simp; rfl)); intro gb138 hg w3 hbox hb; have n0_ := Aside0.mk (below_step (by repeat (first | (with_reducible first | exact HB.out | apply below_alloc | apply pw_below_drewN | apply below_drew1) | exact HB.out)) hb); have n1_ := Aside0.mk (hbox); have n2_ := Aside0.mk ((by rw [hg]; exact (below_size (by repeat (first | (with_reducible first | exact HB.out | apply below_alloc | apply pw_below_drewN | apply below_drew1) | exact HB.out))) : w.heap.size ≤ gb138)); have n3_ := Aside0.mk ((by rw [hg]; exact (below_size (by repeat (first | (with_reducible first | exact HB.out | apply below_alloc | apply pw_below_drewN | apply below_drew1) | exact HB.out))) : w.heap.size ≤ gb138)); clear HB; have HB := n0_; have BK138 := n1_; have GW138 := n2_; have GE138 := n3_; clear n0_ n1_ n2_ n3_; clear hb hbox hg; have hcz4_0 : w3.cell? ⟨gb138, 0, none⟩ = some (.int .i64 a0_0) := (blk_cell BK138.out 0).trans rfl; have hcz4_1 : w3.cell? ⟨gb138, 1, none⟩ = some (.int .i64 a0_1) := (blk_cell BK138.out 1).trans rfl; have hcz4_2 : w3.cell? ⟨gb138, 2, none⟩ = some (.int .i64 a0_2) := (blk_cell BK138.out 2).trans rfl; have hcz4_3 : w3.cell? ⟨gb138, 3, none⟩ = some (.int .i64 a0_3) := (blk_cell BK138.out 3).trans rfl; have hcz4_4 : w3.cell? ⟨gb138, 4, none⟩ = some (.int .i64 a0_4) := (blk_cell BK138.out 4).trans rfl; have hcz4_5 : w3.cell? ⟨gb138, 5, none⟩ = some (.int .i64 a0_5) := (blk_cell BK138.out 5).trans rfl; have hcz4_6 : w3.cell? ⟨gb138, 6, none⟩ = some (.int .i64 a0_6) := (blk_cell BK138.out 6).trans rfl; have hcz4_7 : w3.cell? ⟨gb138, 7, none⟩ = some (.int .i64 a0_7) := (blk_cell BK138.out 7).trans rfl; have hcz4_8 : w3.cell? ⟨gb138, 8, none⟩ = some (.int .i64 a0_8) := (blk_cell BK138.out 8).trans rfl; have hcz4_9 : w3.cell? ⟨gb138, 9, none⟩ = some (.int .i64 a0_9) := (blk_cell BK138.out 9).trans rfl; have hcz4_10 : w3.cell? ⟨gb138, 10, none⟩ = some (.int .i64 a0_10) := (blk_cell BK138.out 10).trans rfl; have hcz4_11 : w3.cell? ⟨gb138, 11, none⟩ = some (.int .i64 a0_11) := (blk_cell BK138.out 11).trans rfl; have hcz4_12 : w3.cell? ⟨gb138, 12, none⟩ = some (.int .i64 a0_12) := (blk_cell BK138.out 12).trans rfl; have hcz4_13 : w3.cell? ⟨gb138, 13, none⟩ = some (.int .i64 a0_13) := (blk_cell BK138.out 13).trans rfl; have hcz4_14 : w3.cell? ⟨gb138, 14, none⟩ = some (.bool a0_14) := (blk_cell BK138.out 14).trans rfl; have hcz4_15 : w3.cell? ⟨gb138, 15, none⟩ = some (.bool a0_15) := (blk_cell BK138.out 15).trans rfl; have hfz4_0 := blk_frozen BK138.out 0; have hfz4_1 := blk_frozen BK138.out 1; have hfz4_2 := blk_frozen BK138.out 2; have hfz4_3 := blk_frozen BK138.out 3; have hfz4_4 := blk_frozen BK138.out 4; have hfz4_5 := blk_frozen BK138.out 5; have hfz4_6 := blk_frozen BK138.out 6; have hfz4_7 := blk_frozen BK138.out 7; have hfz4_8 := blk_frozen BK138.out 8; have hfz4_9 := blk_frozen BK138.out 9; have hfz4_10 := blk_frozen BK138.out 10; have hfz4_11 := blk_frozen BK138.out 11; have hfz4_12 := blk_frozen BK138.out 12; have hfz4_13 := blk_frozen BK138.out 13; have hfz4_14 := blk_frozen BK138.out 14; have hfz4_15 := blk_frozen BK138.out 15) | ((with_reducible refine gate_callee (f := 16) rfl ?_); refine goesL_ (some 5) rfl rfl Try.func16 (by kernel_rfl) rfl #[.int .i64 a0_9, .int .i64 1, .int .i64 1000] rfl (by (try simp only [List.map_toArray, List.map_cons, List.map_nil]); first | done | rfl | (simp only [List.length_drop, List.length_take]; rfl)) ?_; (with_reducible refine (signalmanref1_Cut.calls a0_9 1 1000 t139 _ A2.out).mono ?_); rintro e w' ⟨rfl, ⟨nd, rfl⟩⟩; refine ⟨_, rfl, ?_⟩))
  go_ret
  exact ⟨by first | rfl | (simp [errW_none, errW_some] <;> rfl) | (simp [*, errW_none, errW_some] <;> rfl), by repeat (first | (with_reducible first | exact HB.out | apply below_alloc | apply pw_below_drewN | apply below_drew1 | refine below_set ?_ GE138.out) | exact HB.out)⟩

/-! ### signalmanref15_within: function 15 -/
def signalmanref15_within.f (a0 : Int) (a1 : Int) (a2 : Int) : Option (Bool) := if a0 ≥ a1 then (some (decide (a0 ≤ a2))) else (some false)
set_option maxHeartbeats 8000000 in
set_option maxRecDepth 100000 in
theorem signalmanref15_within.calls (a0 : Int) (a1 : Int) (a2 : Int) (r : Bool) (w : World) (h : signalmanref15_within.f a0 a1 a2 = some r) :
    Calls Try.prog 15 #[.int .i64 a0, .int .i64 a1, .int .i64 a2] w fun e w' => e = .returned (.bool r) ∧ Drawn0 w w' := by
  have H : (if a0 ≥ a1 then (some (decide (a0 ≤ a2))) else (some false)) = some r := h
  clear h
  by_cases c4 : a0 ≥ a1
  · rw [if_pos c4] at H
    have c4b0 : decide (a1 ≤ a0) = true := decide_eq_true c4
    clear c4
    obtain rfl := Option.some.inj H
    go_enter Try.func15, Try.ntmps15
    go_wp2
    go_ret
    exact ⟨by first | rfl | (simp; done) | (simp [*]; done), by repeat (first | exact Drawn0.refl _ | apply Drawn0.step)⟩
  · rw [if_neg c4] at H
    have c4b0 : decide (a1 ≤ a0) = false := decide_eq_false c4
    clear c4
    obtain rfl := Option.some.inj H
    go_enter Try.func15, Try.ntmps15
    go_wp2
    go_ret
    exact ⟨by first | rfl | (simp; done) | (simp [*]; done), by repeat (first | exact Drawn0.refl _ | apply Drawn0.step)⟩

end Go.Proofs.Ytckfkmgfilfgfaa.PShapeChecks
