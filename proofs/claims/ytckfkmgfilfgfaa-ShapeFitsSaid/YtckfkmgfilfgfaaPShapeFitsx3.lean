-- PRINTED BY print.sh 35421559b90ae4d0a3588c463048766b98c2df88dd9212a6774a882060cdf62d: not written by this session
import Derived.Test.YtckfkmgfilfgfaaPShapeFitsx0
import Derived.Test.YtckfkmgfilfgfaaPShapeFitsx1
import Derived.Test.YtckfkmgfilfgfaaPShapeFitsx2
namespace Go.Proofs.Ytckfkmgfilfgfaa.PShapeFits
open Go.RowKit Go.Proofs.YtckfkmgfilfgfaaW.PrintWords Go.Proofs.YtckfkmgfilfgfaaW.PrintLast Go.Proofs.YtckfkmgfilfgfaaW.PrintMore
attribute [local go_sem] max2_int min2_int max_two min_two max_three min_three max_four min_four   -- for this text's walks alone
set_option linter.unusedVariables false
set_option linter.unusedSimpArgs false

/-! ### signalmanlaw19_good: function 12 -/
def signalmanlaw19_good.f  : Option (Int × Int × Int × Int × Int × Int × Int × Int × Int × Int × Int × Int × Int × Int × Bool × Bool) := some (0, 128, 4, 10, 3, 0, 5, 20, 4, 20, 500, 10, 3, 3, false, false)
set_option maxHeartbeats 8000000 in
set_option maxRecDepth 100000 in
theorem signalmanlaw19_good.calls  (r1 : Int) (r2 : Int) (r3 : Int) (r4 : Int) (r5 : Int) (r6 : Int) (r7 : Int) (r8 : Int) (r9 : Int) (r10 : Int) (r11 : Int) (r12 : Int) (r13 : Int) (r14 : Int) (r15 : Bool) (r16 : Bool) (w : World) (h : signalmanlaw19_good.f  = some (r1, r2, r3, r4, r5, r6, r7, r8, r9, r10, r11, r12, r13, r14, r15, r16)) :
    Calls Try.prog 12 #[] w fun e w' => e = .returned (.agg #[.int .i64 r1, .int .i64 r2, .int .i64 r3, .int .i64 r4, .int .i64 r5, .int .i64 r6, .int .i64 r7, .int .i64 r8, .int .i64 r9, .int .i64 r10, .int .i64 r11, .int .i64 r12, .int .i64 r13, .int .i64 r14, .bool r15, .bool r16]) ∧ Below w.heap.size w w' := by
  have hu23 := Try.underlying23
  have HB := Aside0.mk (Below.refl w.heap.size w)
  have H : (some (0, 128, 4, 10, 3, 0, 5, 20, 4, 20, 500, 10, 3, 3, false, false)) = some (r1, r2, r3, r4, r5, r6, r7, r8, r9, r10, r11, r12, r13, r14, r15, r16) := h
  clear h
  simp only [Option.some.injEq, Prod.mk.injEq] at H
  obtain ⟨rfl, rfl, rfl, rfl, rfl, rfl, rfl, rfl, rfl, rfl, rfl, rfl, rfl, rfl, rfl, rfl⟩ := H
  go_enter Try.func12, Try.ntmps12
  go_wp2_with (first | ((with_reducible refine gate_dst (N := 0) rfl ?_); refine box_event ?hg (N := 0) ?hd (cs := #[.int .i64 0, .int .i64 0, .int .i64 0, .int .i64 0, .int .i64 0, .int .i64 0, .int .i64 0, .int .i64 0, .int .i64 0, .int .i64 0, .int .i64 0, .int .i64 0, .int .i64 0, .int .i64 0, .bool false, .bool false]) (t := 23) ?hr ?_; (case hd => rfl); (case hg => rfl); (case hr => first | (go_simp; done) | (go_simp; rfl)); intro gb116 hg w1 hbox hb; have n0_ := Aside0.mk (below_step (by repeat (first | (with_reducible first | exact HB.out | apply below_alloc | apply pw_below_drewN | apply below_drew1) | exact HB.out)) hb); have n1_ := Aside0.mk (hbox); have n2_ := Aside0.mk ((by rw [hg]; exact (below_size (by repeat (first | (with_reducible first | exact HB.out | apply below_alloc | apply pw_below_drewN | apply below_drew1) | exact HB.out))) : w.heap.size ≤ gb116)); have n3_ := Aside0.mk ((by rw [hg]; exact (below_size (by repeat (first | (with_reducible first | exact HB.out | apply below_alloc | apply pw_below_drewN | apply below_drew1) | exact HB.out))) : w.heap.size ≤ gb116)); clear HB; have HB := n0_; have BK116 := n1_; have GW116 := n2_; have GE116 := n3_; clear n0_ n1_ n2_ n3_; clear hb hbox hg; have hcz2_0 : w1.cell? ⟨gb116, 0, none⟩ = some (.int .i64 0) := (blk_cell BK116.out 0).trans rfl; have hcz2_1 : w1.cell? ⟨gb116, 1, none⟩ = some (.int .i64 0) := (blk_cell BK116.out 1).trans rfl; have hcz2_2 : w1.cell? ⟨gb116, 2, none⟩ = some (.int .i64 0) := (blk_cell BK116.out 2).trans rfl; have hcz2_3 : w1.cell? ⟨gb116, 3, none⟩ = some (.int .i64 0) := (blk_cell BK116.out 3).trans rfl; have hcz2_4 : w1.cell? ⟨gb116, 4, none⟩ = some (.int .i64 0) := (blk_cell BK116.out 4).trans rfl; have hcz2_5 : w1.cell? ⟨gb116, 5, none⟩ = some (.int .i64 0) := (blk_cell BK116.out 5).trans rfl; have hcz2_6 : w1.cell? ⟨gb116, 6, none⟩ = some (.int .i64 0) := (blk_cell BK116.out 6).trans rfl; have hcz2_7 : w1.cell? ⟨gb116, 7, none⟩ = some (.int .i64 0) := (blk_cell BK116.out 7).trans rfl; have hcz2_8 : w1.cell? ⟨gb116, 8, none⟩ = some (.int .i64 0) := (blk_cell BK116.out 8).trans rfl; have hcz2_9 : w1.cell? ⟨gb116, 9, none⟩ = some (.int .i64 0) := (blk_cell BK116.out 9).trans rfl; have hcz2_10 : w1.cell? ⟨gb116, 10, none⟩ = some (.int .i64 0) := (blk_cell BK116.out 10).trans rfl; have hcz2_11 : w1.cell? ⟨gb116, 11, none⟩ = some (.int .i64 0) := (blk_cell BK116.out 11).trans rfl; have hcz2_12 : w1.cell? ⟨gb116, 12, none⟩ = some (.int .i64 0) := (blk_cell BK116.out 12).trans rfl; have hcz2_13 : w1.cell? ⟨gb116, 13, none⟩ = some (.int .i64 0) := (blk_cell BK116.out 13).trans rfl; have hcz2_14 : w1.cell? ⟨gb116, 14, none⟩ = some (.bool false) := (blk_cell BK116.out 14).trans rfl; have hcz2_15 : w1.cell? ⟨gb116, 15, none⟩ = some (.bool false) := (blk_cell BK116.out 15).trans rfl; have hfz2_0 := blk_frozen BK116.out 0; have hfz2_1 := blk_frozen BK116.out 1; have hfz2_2 := blk_frozen BK116.out 2; have hfz2_3 := blk_frozen BK116.out 3; have hfz2_4 := blk_frozen BK116.out 4; have hfz2_5 := blk_frozen BK116.out 5; have hfz2_6 := blk_frozen BK116.out 6; have hfz2_7 := blk_frozen BK116.out 7; have hfz2_8 := blk_frozen BK116.out 8; have hfz2_9 := blk_frozen BK116.out 9; have hfz2_10 := blk_frozen BK116.out 10; have hfz2_11 := blk_frozen BK116.out 11; have hfz2_12 := blk_frozen BK116.out 12; have hfz2_13 := blk_frozen BK116.out 13; have hfz2_14 := blk_frozen BK116.out 14; have hfz2_15 := blk_frozen BK116.out 15))
  refine bodyPost_ret (results_cell_row rfl _ _ gb116 23 #[.int .i64 0, .int .i64 128, .int .i64 4, .int .i64 10, .int .i64 3, .int .i64 0, .int .i64 5, .int .i64 20, .int .i64 4, .int .i64 20, .int .i64 500, .int .i64 10, .int .i64 3, .int .i64 3, .bool false, .bool false] (0, 0) _ rfl (by (with_reducible repeat (first | refine blk_drewN ?_ _ | refine blk_drew ?_ | refine blk_alloc ?_ _)); refine blk_put (cs := #[.int .i64 0, .int .i64 128, .int .i64 4, .int .i64 10, .int .i64 3, .int .i64 0, .int .i64 5, .int .i64 20, .int .i64 4, .int .i64 20, .int .i64 500, .int .i64 10, .int .i64 3, .int .i64 3, .bool false, .bool false]) ?_ 15 _ rfl; (with_reducible repeat (first | refine blk_drewN ?_ _ | refine blk_drew ?_ | refine blk_alloc ?_ _)); refine blk_put (cs := #[.int .i64 0, .int .i64 128, .int .i64 4, .int .i64 10, .int .i64 3, .int .i64 0, .int .i64 5, .int .i64 20, .int .i64 4, .int .i64 20, .int .i64 500, .int .i64 10, .int .i64 3, .int .i64 3, .bool false, .bool false]) ?_ 14 _ rfl; (with_reducible repeat (first | refine blk_drewN ?_ _ | refine blk_drew ?_ | refine blk_alloc ?_ _)); refine blk_put (cs := #[.int .i64 0, .int .i64 128, .int .i64 4, .int .i64 10, .int .i64 3, .int .i64 0, .int .i64 5, .int .i64 20, .int .i64 4, .int .i64 20, .int .i64 500, .int .i64 10, .int .i64 3, .int .i64 0, .bool false, .bool false]) ?_ 13 _ rfl; (with_reducible repeat (first | refine blk_drewN ?_ _ | refine blk_drew ?_ | refine blk_alloc ?_ _)); refine blk_put (cs := #[.int .i64 0, .int .i64 128, .int .i64 4, .int .i64 10, .int .i64 3, .int .i64 0, .int .i64 5, .int .i64 20, .int .i64 4, .int .i64 20, .int .i64 500, .int .i64 10, .int .i64 0, .int .i64 0, .bool false, .bool false]) ?_ 12 _ rfl; (with_reducible repeat (first | refine blk_drewN ?_ _ | refine blk_drew ?_ | refine blk_alloc ?_ _)); refine blk_put (cs := #[.int .i64 0, .int .i64 128, .int .i64 4, .int .i64 10, .int .i64 3, .int .i64 0, .int .i64 5, .int .i64 20, .int .i64 4, .int .i64 20, .int .i64 500, .int .i64 0, .int .i64 0, .int .i64 0, .bool false, .bool false]) ?_ 11 _ rfl; (with_reducible repeat (first | refine blk_drewN ?_ _ | refine blk_drew ?_ | refine blk_alloc ?_ _)); refine blk_put (cs := #[.int .i64 0, .int .i64 128, .int .i64 4, .int .i64 10, .int .i64 3, .int .i64 0, .int .i64 5, .int .i64 20, .int .i64 4, .int .i64 20, .int .i64 0, .int .i64 0, .int .i64 0, .int .i64 0, .bool false, .bool false]) ?_ 10 _ rfl; (with_reducible repeat (first | refine blk_drewN ?_ _ | refine blk_drew ?_ | refine blk_alloc ?_ _)); refine blk_put (cs := #[.int .i64 0, .int .i64 128, .int .i64 4, .int .i64 10, .int .i64 3, .int .i64 0, .int .i64 5, .int .i64 20, .int .i64 4, .int .i64 0, .int .i64 0, .int .i64 0, .int .i64 0, .int .i64 0, .bool false, .bool false]) ?_ 9 _ rfl; (with_reducible repeat (first | refine blk_drewN ?_ _ | refine blk_drew ?_ | refine blk_alloc ?_ _)); refine blk_put (cs := #[.int .i64 0, .int .i64 128, .int .i64 4, .int .i64 10, .int .i64 3, .int .i64 0, .int .i64 5, .int .i64 20, .int .i64 0, .int .i64 0, .int .i64 0, .int .i64 0, .int .i64 0, .int .i64 0, .bool false, .bool false]) ?_ 8 _ rfl; (with_reducible repeat (first | refine blk_drewN ?_ _ | refine blk_drew ?_ | refine blk_alloc ?_ _)); refine blk_put (cs := #[.int .i64 0, .int .i64 128, .int .i64 4, .int .i64 10, .int .i64 3, .int .i64 0, .int .i64 5, .int .i64 0, .int .i64 0, .int .i64 0, .int .i64 0, .int .i64 0, .int .i64 0, .int .i64 0, .bool false, .bool false]) ?_ 7 _ rfl; (with_reducible repeat (first | refine blk_drewN ?_ _ | refine blk_drew ?_ | refine blk_alloc ?_ _)); refine blk_put (cs := #[.int .i64 0, .int .i64 128, .int .i64 4, .int .i64 10, .int .i64 3, .int .i64 0, .int .i64 0, .int .i64 0, .int .i64 0, .int .i64 0, .int .i64 0, .int .i64 0, .int .i64 0, .int .i64 0, .bool false, .bool false]) ?_ 6 _ rfl; (with_reducible repeat (first | refine blk_drewN ?_ _ | refine blk_drew ?_ | refine blk_alloc ?_ _)); refine blk_put (cs := #[.int .i64 0, .int .i64 128, .int .i64 4, .int .i64 10, .int .i64 3, .int .i64 0, .int .i64 0, .int .i64 0, .int .i64 0, .int .i64 0, .int .i64 0, .int .i64 0, .int .i64 0, .int .i64 0, .bool false, .bool false]) ?_ 5 _ rfl; (with_reducible repeat (first | refine blk_drewN ?_ _ | refine blk_drew ?_ | refine blk_alloc ?_ _)); refine blk_put (cs := #[.int .i64 0, .int .i64 128, .int .i64 4, .int .i64 10, .int .i64 0, .int .i64 0, .int .i64 0, .int .i64 0, .int .i64 0, .int .i64 0, .int .i64 0, .int .i64 0, .int .i64 0, .int .i64 0, .bool false, .bool false]) ?_ 4 _ rfl; (with_reducible repeat (first | refine blk_drewN ?_ _ | refine blk_drew ?_ | refine blk_alloc ?_ _)); refine blk_put (cs := #[.int .i64 0, .int .i64 128, .int .i64 4, .int .i64 0, .int .i64 0, .int .i64 0, .int .i64 0, .int .i64 0, .int .i64 0, .int .i64 0, .int .i64 0, .int .i64 0, .int .i64 0, .int .i64 0, .bool false, .bool false]) ?_ 3 _ rfl; (with_reducible repeat (first | refine blk_drewN ?_ _ | refine blk_drew ?_ | refine blk_alloc ?_ _)); refine blk_put (cs := #[.int .i64 0, .int .i64 128, .int .i64 0, .int .i64 0, .int .i64 0, .int .i64 0, .int .i64 0, .int .i64 0, .int .i64 0, .int .i64 0, .int .i64 0, .int .i64 0, .int .i64 0, .int .i64 0, .bool false, .bool false]) ?_ 2 _ rfl; (with_reducible repeat (first | refine blk_drewN ?_ _ | refine blk_drew ?_ | refine blk_alloc ?_ _)); refine blk_put (cs := #[.int .i64 0, .int .i64 0, .int .i64 0, .int .i64 0, .int .i64 0, .int .i64 0, .int .i64 0, .int .i64 0, .int .i64 0, .int .i64 0, .int .i64 0, .int .i64 0, .int .i64 0, .int .i64 0, .bool false, .bool false]) ?_ 1 _ rfl; (with_reducible repeat (first | refine blk_drewN ?_ _ | refine blk_drew ?_ | refine blk_alloc ?_ _)); refine blk_put (cs := #[.int .i64 0, .int .i64 0, .int .i64 0, .int .i64 0, .int .i64 0, .int .i64 0, .int .i64 0, .int .i64 0, .int .i64 0, .int .i64 0, .int .i64 0, .int .i64 0, .int .i64 0, .int .i64 0, .bool false, .bool false]) ?_ 0 _ rfl; (with_reducible repeat (first | refine blk_drewN ?_ _ | refine blk_drew ?_ | refine blk_alloc ?_ _)); exact BK116.out) Try.underlying23 rfl (by kernel_rfl)) rfl ?_
  exact ⟨by first | rfl | (simp [errW_none, errW_some] <;> rfl) | (simp [*, errW_none, errW_some] <;> rfl), by repeat (first | (with_reducible first | exact HB.out | apply below_alloc | apply pw_below_drewN | apply below_drew1 | refine below_set ?_ GE116.out) | exact HB.out)⟩

/-! ### signalmanlaw19_alive: function 6 -/
def signalmanlaw19_alive.f (k : Nat)  : Option (Bool) := (shape_Most.f 0 0 0 0 0 0 0 0 0 1 0 0 0 0 false false).bind fun t117 => (if t117 = 36 then ((signalmanlaw19_good.f).bind fun bt118 => ((shape_Check.f k bt118.1 bt118.2.1 bt118.2.2.1 bt118.2.2.2.1 bt118.2.2.2.2.1 bt118.2.2.2.2.2.1 bt118.2.2.2.2.2.2.1 bt118.2.2.2.2.2.2.2.1 bt118.2.2.2.2.2.2.2.2.1 bt118.2.2.2.2.2.2.2.2.2.1 bt118.2.2.2.2.2.2.2.2.2.2.1 bt118.2.2.2.2.2.2.2.2.2.2.2.1 bt118.2.2.2.2.2.2.2.2.2.2.2.2.1 bt118.2.2.2.2.2.2.2.2.2.2.2.2.2.1 bt118.2.2.2.2.2.2.2.2.2.2.2.2.2.2.1 bt118.2.2.2.2.2.2.2.2.2.2.2.2.2.2.2).bind fun t134 => ((signalmanlaw19_num.f t134).bind fun t135 => (if t135 = 0 then ((shape_Check.f k 0 0 0 0 0 0 0 0 0 0 0 0 0 0 false false).bind fun t136 => ((signalmanlaw19_num.f t136).bind fun t137 => (some (t137 == 1)))) else (some false))))) else (some false))
theorem signalmanlaw19_alive.mono : ∀ k, LeO (signalmanlaw19_alive.f k ) (signalmanlaw19_alive.f (k + 1) ) := by
  intro  k
  unfold signalmanlaw19_alive.f
  repeat' first
      | (with_reducible exact shape_Check.mono _ _ _ _ _ _ _ _ _ _ _ _ _ _ _ _ _)
      | (with_reducible exact LeO.refl _)
      | (with_reducible exact LeO.none _)
      | (with_reducible refine LeO.ite ?_ ?_)
      | (with_reducible refine LeO.bind ?_ (fun _ => ?_))
      | exact shape_Check.mono _ _ _ _ _ _ _ _ _ _ _ _ _ _ _ _ _
      | exact LeO.none _
      | refine LeO.ite ?_ ?_
      | refine LeO.bind ?_ (fun _ => ?_)
set_option maxHeartbeats 8000000 in
set_option maxRecDepth 100000 in
theorem signalmanlaw19_alive.calls (k : Nat)  (r : Bool) (w : World) (h : signalmanlaw19_alive.f k  = some r) :
    Calls Try.prog 6 #[] w fun e w' => e = .returned (.bool r) ∧ Below w.heap.size w w' := by
  have hu23 := Try.underlying23
  have HB := Aside0.mk (Below.refl w.heap.size w)
  have H : ((shape_Most.f 0 0 0 0 0 0 0 0 0 1 0 0 0 0 false false).bind fun t117 => (if t117 = 36 then ((signalmanlaw19_good.f).bind fun bt118 => ((shape_Check.f k bt118.1 bt118.2.1 bt118.2.2.1 bt118.2.2.2.1 bt118.2.2.2.2.1 bt118.2.2.2.2.2.1 bt118.2.2.2.2.2.2.1 bt118.2.2.2.2.2.2.2.1 bt118.2.2.2.2.2.2.2.2.1 bt118.2.2.2.2.2.2.2.2.2.1 bt118.2.2.2.2.2.2.2.2.2.2.1 bt118.2.2.2.2.2.2.2.2.2.2.2.1 bt118.2.2.2.2.2.2.2.2.2.2.2.2.1 bt118.2.2.2.2.2.2.2.2.2.2.2.2.2.1 bt118.2.2.2.2.2.2.2.2.2.2.2.2.2.2.1 bt118.2.2.2.2.2.2.2.2.2.2.2.2.2.2.2).bind fun t134 => ((signalmanlaw19_num.f t134).bind fun t135 => (if t135 = 0 then ((shape_Check.f k 0 0 0 0 0 0 0 0 0 0 0 0 0 0 false false).bind fun t136 => ((signalmanlaw19_num.f t136).bind fun t137 => (some (t137 == 1)))) else (some false))))) else (some false))) = some r := h
  clear h
  replace H := Option.bind_eq_some_iff.mp H
  obtain ⟨t117, A10, H⟩ := H
  replace H : (if t117 = 36 then ((signalmanlaw19_good.f).bind fun bt118 => ((shape_Check.f k bt118.1 bt118.2.1 bt118.2.2.1 bt118.2.2.2.1 bt118.2.2.2.2.1 bt118.2.2.2.2.2.1 bt118.2.2.2.2.2.2.1 bt118.2.2.2.2.2.2.2.1 bt118.2.2.2.2.2.2.2.2.1 bt118.2.2.2.2.2.2.2.2.2.1 bt118.2.2.2.2.2.2.2.2.2.2.1 bt118.2.2.2.2.2.2.2.2.2.2.2.1 bt118.2.2.2.2.2.2.2.2.2.2.2.2.1 bt118.2.2.2.2.2.2.2.2.2.2.2.2.2.1 bt118.2.2.2.2.2.2.2.2.2.2.2.2.2.2.1 bt118.2.2.2.2.2.2.2.2.2.2.2.2.2.2.2).bind fun t134 => ((signalmanlaw19_num.f t134).bind fun t135 => (if t135 = 0 then ((shape_Check.f k 0 0 0 0 0 0 0 0 0 0 0 0 0 0 false false).bind fun t136 => ((signalmanlaw19_num.f t136).bind fun t137 => (some (t137 == 1)))) else (some false))))) else (some false)) = some r := H
  have A1 := Aside0.mk A10
  clear A10
  by_cases c2 : t117 = 36
  · rw [if_pos c2] at H
    have c2b0 : (t117 == 36) = true := beq_iff_eq.mpr c2
    have c2b1 : (t117 != 36) = false := bne_eq_false_iff_eq.mpr c2
    clear c2
    replace H := Option.bind_eq_some_iff.mp H
    obtain ⟨⟨t118, t119, t120, t121, t122, t123, t124, t125, t126, t127, t128, t129, t130, t131, t132, t133⟩, A30, H⟩ := H
    replace H : ((shape_Check.f k t118 t119 t120 t121 t122 t123 t124 t125 t126 t127 t128 t129 t130 t131 t132 t133).bind fun t134 => ((signalmanlaw19_num.f t134).bind fun t135 => (if t135 = 0 then ((shape_Check.f k 0 0 0 0 0 0 0 0 0 0 0 0 0 0 false false).bind fun t136 => ((signalmanlaw19_num.f t136).bind fun t137 => (some (t137 == 1)))) else (some false)))) = some r := H
    have A3 := Aside0.mk A30
    clear A30
    replace H := Option.bind_eq_some_iff.mp H
    obtain ⟨t134, A40, H⟩ := H
    replace H : ((signalmanlaw19_num.f t134).bind fun t135 => (if t135 = 0 then ((shape_Check.f k 0 0 0 0 0 0 0 0 0 0 0 0 0 0 false false).bind fun t136 => ((signalmanlaw19_num.f t136).bind fun t137 => (some (t137 == 1)))) else (some false))) = some r := H
    have A4 := Aside0.mk A40
    clear A40
    replace H := Option.bind_eq_some_iff.mp H
    obtain ⟨t135, A50, H⟩ := H
    replace H : (if t135 = 0 then ((shape_Check.f k 0 0 0 0 0 0 0 0 0 0 0 0 0 0 false false).bind fun t136 => ((signalmanlaw19_num.f t136).bind fun t137 => (some (t137 == 1)))) else (some false)) = some r := H
    have A5 := Aside0.mk A50
    clear A50
    by_cases c6 : t135 = 0
    · rw [if_pos c6] at H
      have c6b0 : (t135 == 0) = true := beq_iff_eq.mpr c6
      have c6b1 : (t135 != 0) = false := bne_eq_false_iff_eq.mpr c6
      clear c6
      replace H := Option.bind_eq_some_iff.mp H
      obtain ⟨t136, A70, H⟩ := H
      replace H : ((signalmanlaw19_num.f t136).bind fun t137 => (some (t137 == 1))) = some r := H
      have A7 := Aside0.mk A70
      clear A70
      replace H := Option.bind_eq_some_iff.mp H
      obtain ⟨t137, A80, H⟩ := H
      replace H : (some (t137 == 1)) = some r := H
      have A8 := Aside0.mk A80
      clear A80
      obtain rfl := Option.some.inj H
      go_enter Try.func6, Try.ntmps6
      go_wp2_with (first | ((with_reducible refine gate_callee (f := 10) rfl ?_); refine goesL_ (some 2) rfl rfl Try.func10 (by kernel_rfl) rfl #[.agg #[.int .i64 0, .int .i64 0, .int .i64 0, .int .i64 0, .int .i64 0, .int .i64 0, .int .i64 0, .int .i64 0, .int .i64 0, .int .i64 1, .int .i64 0, .int .i64 0, .int .i64 0, .int .i64 0, .bool false, .bool false]] rfl (by (try simp only [List.map_toArray, List.map_cons, List.map_nil]); first | done | rfl | (simp only [List.length_drop, List.length_take]; rfl)) ?_; (with_reducible refine (shape_Most.calls 0 0 0 0 0 0 0 0 0 1 0 0 0 0 false false t117 _ A1.out).mono ?_); rintro e w9 ⟨rfl, hb⟩; refine ⟨_, rfl, ?_⟩; have n0_ := Aside0.mk (below_step (by repeat (first | (with_reducible first | exact HB.out | apply below_alloc | apply pw_below_drewN | apply below_drew1) | exact HB.out)) hb); clear HB; have HB := n0_; clear n0_; (try clear hb); (try clear hb2); (try clear hk); (try clear hi)) | (go_at_call 12; (with_reducible refine (signalmanlaw19_good.calls  t118 t119 t120 t121 t122 t123 t124 t125 t126 t127 t128 t129 t130 t131 t132 t133 _ A3.out).mono ?_); rintro e w10 ⟨rfl, hb⟩; have n0_ := Aside0.mk (below_step (by repeat (first | (with_reducible first | exact HB.out | apply below_alloc | apply pw_below_drewN | apply below_drew1) | exact HB.out)) hb); clear HB; have HB := n0_; clear n0_; (try clear hb); (try clear hb2); (try clear hk); (try clear hi)) | (go_at_call 8; (with_reducible refine (shape_Check.calls k t118 t119 t120 t121 t122 t123 t124 t125 t126 t127 t128 t129 t130 t131 t132 t133 t134 _ A4.out).mono ?_); rintro e w11 ⟨rfl, hb⟩; have n0_ := Aside0.mk (below_step (by repeat (first | (with_reducible first | exact HB.out | apply below_alloc | apply pw_below_drewN | apply below_drew1) | exact HB.out)) hb); clear HB; have HB := n0_; clear n0_; (try clear hb); (try clear hb2); (try clear hk); (try clear hi)) | (go_at_call 7; (with_reducible refine (signalmanlaw19_num.calls t134 t135 _ A5.out).mono ?_); rintro e w' ⟨rfl, ⟨nd, rfl⟩⟩) | (go_at_call 8; (with_reducible refine (shape_Check.calls k 0 0 0 0 0 0 0 0 0 0 0 0 0 0 false false t136 _ A7.out).mono ?_); rintro e w12 ⟨rfl, hb⟩; have n0_ := Aside0.mk (below_step (by repeat (first | (with_reducible first | exact HB.out | apply below_alloc | apply pw_below_drewN | apply below_drew1) | exact HB.out)) hb); clear HB; have HB := n0_; clear n0_; (try clear hb); (try clear hb2); (try clear hk); (try clear hi)) | (go_at_call 7; (with_reducible refine (signalmanlaw19_num.calls t136 t137 _ A8.out).mono ?_); rintro e w' ⟨rfl, ⟨nd, rfl⟩⟩))
      go_ret
      exact ⟨by first | rfl | (simp [errW_none, errW_some] <;> rfl) | (simp [*, errW_none, errW_some] <;> rfl), by repeat (first | (with_reducible first | exact HB.out | apply below_alloc | apply pw_below_drewN | apply below_drew1) | exact HB.out)⟩
    · rw [if_neg c6] at H
      have c6b0 : (t135 == 0) = false := beq_eq_false_iff_ne.mpr c6
      have c6b1 : (t135 != 0) = true := bne_iff_ne.mpr c6
      obtain rfl := Option.some.inj H
      go_enter Try.func6, Try.ntmps6
      go_wp2_with (first | ((with_reducible refine gate_callee (f := 10) rfl ?_); refine goesL_ (some 2) rfl rfl Try.func10 (by kernel_rfl) rfl #[.agg #[.int .i64 0, .int .i64 0, .int .i64 0, .int .i64 0, .int .i64 0, .int .i64 0, .int .i64 0, .int .i64 0, .int .i64 0, .int .i64 1, .int .i64 0, .int .i64 0, .int .i64 0, .int .i64 0, .bool false, .bool false]] rfl (by (try simp only [List.map_toArray, List.map_cons, List.map_nil]); first | done | rfl | (simp only [List.length_drop, List.length_take]; rfl)) ?_; (with_reducible refine (shape_Most.calls 0 0 0 0 0 0 0 0 0 1 0 0 0 0 false false t117 _ A1.out).mono ?_); rintro e w13 ⟨rfl, hb⟩; refine ⟨_, rfl, ?_⟩; have n0_ := Aside0.mk (below_step (by repeat (first | (with_reducible first | exact HB.out | apply below_alloc | apply pw_below_drewN | apply below_drew1) | exact HB.out)) hb); clear HB; have HB := n0_; clear n0_; (try clear hb); (try clear hb2); (try clear hk); (try clear hi)) | (go_at_call 12; (with_reducible refine (signalmanlaw19_good.calls  t118 t119 t120 t121 t122 t123 t124 t125 t126 t127 t128 t129 t130 t131 t132 t133 _ A3.out).mono ?_); rintro e w14 ⟨rfl, hb⟩; have n0_ := Aside0.mk (below_step (by repeat (first | (with_reducible first | exact HB.out | apply below_alloc | apply pw_below_drewN | apply below_drew1) | exact HB.out)) hb); clear HB; have HB := n0_; clear n0_; (try clear hb); (try clear hb2); (try clear hk); (try clear hi)) | (go_at_call 8; (with_reducible refine (shape_Check.calls k t118 t119 t120 t121 t122 t123 t124 t125 t126 t127 t128 t129 t130 t131 t132 t133 t134 _ A4.out).mono ?_); rintro e w15 ⟨rfl, hb⟩; have n0_ := Aside0.mk (below_step (by repeat (first | (with_reducible first | exact HB.out | apply below_alloc | apply pw_below_drewN | apply below_drew1) | exact HB.out)) hb); clear HB; have HB := n0_; clear n0_; (try clear hb); (try clear hb2); (try clear hk); (try clear hi)) | (go_at_call 7; (with_reducible refine (signalmanlaw19_num.calls t134 t135 _ A5.out).mono ?_); rintro e w' ⟨rfl, ⟨nd, rfl⟩⟩))
      go_ret
      exact ⟨by first | rfl | (simp [errW_none, errW_some] <;> rfl) | (simp [*, errW_none, errW_some] <;> rfl), by repeat (first | (with_reducible first | exact HB.out | apply below_alloc | apply pw_below_drewN | apply below_drew1) | exact HB.out)⟩
  · rw [if_neg c2] at H
    have c2b0 : (t117 == 36) = false := beq_eq_false_iff_ne.mpr c2
    have c2b1 : (t117 != 36) = true := bne_iff_ne.mpr c2
    obtain rfl := Option.some.inj H
    go_enter Try.func6, Try.ntmps6
    go_wp2_with (first | ((with_reducible refine gate_callee (f := 10) rfl ?_); refine goesL_ (some 2) rfl rfl Try.func10 (by kernel_rfl) rfl #[.agg #[.int .i64 0, .int .i64 0, .int .i64 0, .int .i64 0, .int .i64 0, .int .i64 0, .int .i64 0, .int .i64 0, .int .i64 0, .int .i64 1, .int .i64 0, .int .i64 0, .int .i64 0, .int .i64 0, .bool false, .bool false]] rfl (by (try simp only [List.map_toArray, List.map_cons, List.map_nil]); first | done | rfl | (simp only [List.length_drop, List.length_take]; rfl)) ?_; (with_reducible refine (shape_Most.calls 0 0 0 0 0 0 0 0 0 1 0 0 0 0 false false t117 _ A1.out).mono ?_); rintro e w16 ⟨rfl, hb⟩; refine ⟨_, rfl, ?_⟩; have n0_ := Aside0.mk (below_step (by repeat (first | (with_reducible first | exact HB.out | apply below_alloc | apply pw_below_drewN | apply below_drew1) | exact HB.out)) hb); clear HB; have HB := n0_; clear n0_; (try clear hb); (try clear hb2); (try clear hk); (try clear hi)))
    go_ret
    exact ⟨by first | rfl | (simp [errW_none, errW_some] <;> rfl) | (simp [*, errW_none, errW_some] <;> rfl), by repeat (first | (with_reducible first | exact HB.out | apply below_alloc | apply pw_below_drewN | apply below_drew1) | exact HB.out)⟩

/-! ### signalmanlaw19_ShapeFits: function 5 -/
def signalmanlaw19_ShapeFits.j0 : Nat → Int → Bool → Bool → Option (Bool)
  | 0, _, _, _ => none
  | k + 1, x0, x5, x16 => if x16 = true then (some x5) else ((shape_Most.f 0 0 0 0 0 0 0 0 0 x0 0 0 0 0 false false).bind fun t139 => (if t139 ≥ (wrap64 ((wrap64 (2 * (wrap64 ((wrap64 (11 + x0)) + 4)))) + 2)) then ((shape_Most.f 0 0 0 0 0 0 0 0 0 (wrap64 (x0 + 1)) 0 0 0 0 false false).bind fun t140 => ((shape_Most.f 0 0 0 0 0 0 0 0 0 x0 0 0 0 0 false false).bind fun t141 => (some (decide (t140 ≥ t141))))) else (some false)))
def signalmanlaw19_ShapeFits.f (k : Nat) (a0 : Int) (a1 : Int) : Option (Bool) := (signalmanlaw19_alive.f k).bind fun t138 => (if t138 = true then (if a0 < 1 then (signalmanlaw19_ShapeFits.j0 k a0 t138 true) else (signalmanlaw19_ShapeFits.j0 k a0 t138 (decide (a0 > 1000)))) else (signalmanlaw19_ShapeFits.j0 k a0 t138 true))
theorem signalmanlaw19_ShapeFits.mono_l : ∀ k, (∀ y0 y1 y2, LeO (signalmanlaw19_ShapeFits.j0 k y0 y1 y2) (signalmanlaw19_ShapeFits.j0 (k + 1) y0 y1 y2))
  | 0 => fun _ _ _ r h => by simp [signalmanlaw19_ShapeFits.j0] at h
  | k + 1 => by
    have ih0 := signalmanlaw19_ShapeFits.mono_l k
    · intro y0 y1 y2
      unfold signalmanlaw19_ShapeFits.j0
      repeat' first
      | (with_reducible exact ih0 _ _ _)
      | (with_reducible exact signalmanlaw19_alive.mono _)
      | (with_reducible exact LeO.refl _)
      | (with_reducible exact LeO.none _)
      | (with_reducible refine LeO.ite ?_ ?_)
      | (with_reducible refine LeO.bind ?_ (fun _ => ?_))
      | exact ih0 _ _ _
      | exact signalmanlaw19_alive.mono _
      | exact LeO.none _
      | refine LeO.ite ?_ ?_
      | refine LeO.bind ?_ (fun _ => ?_)
theorem signalmanlaw19_ShapeFits.mono : ∀ a0 a1 k, LeO (signalmanlaw19_ShapeFits.f k a0 a1) (signalmanlaw19_ShapeFits.f (k + 1) a0 a1) := by
  intro a0 a1 k
  have ih0 := signalmanlaw19_ShapeFits.mono_l k
  unfold signalmanlaw19_ShapeFits.f
  repeat' first
      | (with_reducible exact ih0 _ _ _)
      | (with_reducible exact signalmanlaw19_alive.mono _)
      | (with_reducible exact LeO.refl _)
      | (with_reducible exact LeO.none _)
      | (with_reducible refine LeO.ite ?_ ?_)
      | (with_reducible refine LeO.bind ?_ (fun _ => ?_))
      | exact ih0 _ _ _
      | exact signalmanlaw19_alive.mono _
      | exact LeO.none _
      | refine LeO.ite ?_ ?_
      | refine LeO.bind ?_ (fun _ => ?_)
set_option maxHeartbeats 8000000 in
set_option maxRecDepth 100000 in
theorem signalmanlaw19_ShapeFits.calls (k : Nat) (a0 : Int) (a1 : Int) (r : Bool) (w : World) (h : signalmanlaw19_ShapeFits.f k a0 a1 = some r) :
    Calls Try.prog 5 #[.int .i64 a0, .int .u8 a1] w fun e w' => e = .returned (.bool r) ∧ Below w.heap.size w w' := by
  have hu23 := Try.underlying23
  have HB := Aside0.mk (Below.refl w.heap.size w)
  have H : ((signalmanlaw19_alive.f k).bind fun t138 => (if t138 = true then (if a0 < 1 then (signalmanlaw19_ShapeFits.j0 k a0 t138 true) else (signalmanlaw19_ShapeFits.j0 k a0 t138 (decide (a0 > 1000)))) else (signalmanlaw19_ShapeFits.j0 k a0 t138 true))) = some r := h
  clear h
  replace H := Option.bind_eq_some_iff.mp H
  obtain ⟨t138, A30, H⟩ := H
  replace H : (if t138 = true then (if a0 < 1 then (signalmanlaw19_ShapeFits.j0 k a0 t138 true) else (signalmanlaw19_ShapeFits.j0 k a0 t138 (decide (a0 > 1000)))) else (signalmanlaw19_ShapeFits.j0 k a0 t138 true)) = some r := H
  have A3 := Aside0.mk A30
  clear A30
  have HC4 := Aside0.mk H
  clear H
  go_enter Try.func5, Try.ntmps5
  go_upto_region 2 with (first | ((with_reducible refine gate_callee (f := 6) rfl ?_); refine goesL_ (some 6) rfl rfl Try.func6 (by kernel_rfl) rfl #[] rfl (by (try simp only [List.map_toArray, List.map_cons, List.map_nil]); first | done | rfl | (simp only [List.length_drop, List.length_take]; rfl)) ?_; (with_reducible refine (signalmanlaw19_alive.calls k  t138 _ A3.out).mono ?_); rintro e w5 ⟨rfl, hb⟩; refine ⟨_, rfl, ?_⟩; have n0_ := Aside0.mk (below_step (by repeat (first | (with_reducible first | exact HB.out | apply below_alloc | apply pw_below_drewN | apply below_drew1) | exact HB.out)) hb); clear HB; have HB := n0_; clear n0_; (try clear hb); (try clear hb2); (try clear hk); (try clear hi)))
  (try simp only [Act.put, List.setIfInBounds_toArray, List.set_cons_zero, List.set_cons_succ])
  go_cut [16] (fun v16 wc => ∃ (kq : Nat) (x16_3 : Bool), v16 = .bool x16_3 ∧ Aside0 (signalmanlaw19_ShapeFits.j0 kq a0 t138 x16_3 = some r) ∧ Aside0 (kq ≤ k) ∧ Aside0 (Below w.heap.size w wc))
  case first =>
    have H := HC4.out
    clear HC4
    by_cases c6 : t138 = true
    · subst c6
      have H1 : (if a0 < 1 then (signalmanlaw19_ShapeFits.j0 k a0 true true) else (signalmanlaw19_ShapeFits.j0 k a0 true (decide (a0 > 1000)))) = some r := by rw [if_pos rfl] at H; exact H
      clear H
      have H := H1
      clear H1
      by_cases c7 : a0 < 1
      · rw [if_pos c7] at H
        have c7b0 : decide (a0 < 1) = true := decide_eq_true c7
        clear c7
        (first | rw [c7b0] | (simp only [i64_w, i32_w]; rw [c7b0]) | skip)
        have H' := Aside0.mk H
        clear H
        go_wp2
        go_meet
        case rel => exact ⟨_, (true), (by first | rfl | (simp; done) | (simp [*]; done)), H', ⟨by first | omega | exact Nat.le_refl _⟩, ⟨by repeat (first | (with_reducible first | exact HB.out | apply below_alloc | apply pw_below_drewN | apply below_drew1) | exact HB.out)⟩⟩
      · rw [if_neg c7] at H
        have c7b0 : decide (a0 < 1) = false := decide_eq_false c7
        clear c7
        (first | rw [c7b0] | (simp only [i64_w, i32_w]; rw [c7b0]) | skip)
        have H' := Aside0.mk H
        clear H
        go_wp2
        go_meet
        case rel => exact ⟨_, (decide (a0 > 1000)), (by first | rfl | (simp; done) | (simp [*]; done)), H', ⟨by first | omega | exact Nat.le_refl _⟩, ⟨by repeat (first | (with_reducible first | exact HB.out | apply below_alloc | apply pw_below_drewN | apply below_drew1) | exact HB.out)⟩⟩
    · replace c6 := Bool.eq_false_iff.mpr c6
      subst c6
      have H1 : (signalmanlaw19_ShapeFits.j0 k a0 false true) = some r := by rw [if_neg (show ¬ (false = true) by decide)] at H; exact H
      clear H
      have H := H1
      clear H1
      have H' := Aside0.mk H
      clear H
      go_wp2
      go_meet
      case rel => exact ⟨_, (true), (by first | rfl | (simp; done) | (simp [*]; done)), H', ⟨by first | omega | exact Nat.le_refl _⟩, ⟨by repeat (first | (with_reducible first | exact HB.out | apply below_alloc | apply pw_below_drewN | apply below_drew1) | exact HB.out)⟩⟩
  case rest =>
    clear HC4
    try clear p2
    try clear c5
    try clear c6
    try clear c7
    try clear c7b0
    obtain ⟨kq, x16_3, rfl, HA, HJ3, HB⟩ := hcut
    cases kq with
    | zero => exact absurd HA.out (by simp [signalmanlaw19_ShapeFits.j0])
    | succ kj3 =>
      have H := HA.out
      clear HA
      simp only [signalmanlaw19_ShapeFits.j0] at H
      by_cases c8 : x16_3 = true
      · subst c8
        have H1 : (some t138) = some r := by rw [if_pos rfl] at H; exact H
        clear H
        have H := H1
        clear H1
        obtain rfl := Option.some.inj H
        go_wp2
        go_ret
        exact ⟨by first | rfl | (simp [errW_none, errW_some] <;> rfl) | (simp [*, errW_none, errW_some] <;> rfl), by repeat (first | (with_reducible first | exact HB.out | apply below_alloc | apply pw_below_drewN | apply below_drew1) | exact HB.out)⟩
      · replace c8 := Bool.eq_false_iff.mpr c8
        subst c8
        have H1 : ((shape_Most.f 0 0 0 0 0 0 0 0 0 a0 0 0 0 0 false false).bind fun t139 => (if t139 ≥ (wrap64 ((wrap64 (2 * (wrap64 ((wrap64 (11 + a0)) + 4)))) + 2)) then ((shape_Most.f 0 0 0 0 0 0 0 0 0 (wrap64 (a0 + 1)) 0 0 0 0 false false).bind fun t140 => ((shape_Most.f 0 0 0 0 0 0 0 0 0 a0 0 0 0 0 false false).bind fun t141 => (some (decide (t140 ≥ t141))))) else (some false))) = some r := by rw [if_neg (show ¬ (false = true) by decide)] at H; exact H
        clear H
        have H := H1
        clear H1
        replace H := Option.bind_eq_some_iff.mp H
        obtain ⟨t139, A90, H⟩ := H
        replace H : (if t139 ≥ (wrap64 ((wrap64 (2 * (wrap64 ((wrap64 (11 + a0)) + 4)))) + 2)) then ((shape_Most.f 0 0 0 0 0 0 0 0 0 (wrap64 (a0 + 1)) 0 0 0 0 false false).bind fun t140 => ((shape_Most.f 0 0 0 0 0 0 0 0 0 a0 0 0 0 0 false false).bind fun t141 => (some (decide (t140 ≥ t141))))) else (some false)) = some r := H
        have A9 := Aside0.mk A90
        clear A90
        by_cases c10 : t139 ≥ (wrap64 ((wrap64 (2 * (wrap64 ((wrap64 (11 + a0)) + 4)))) + 2))
        · rw [if_pos c10] at H
          have c10b0 : decide ((wrap64 ((wrap64 (2 * (wrap64 ((wrap64 (11 + a0)) + 4)))) + 2)) ≤ t139) = true := decide_eq_true c10
          clear c10
          replace H := Option.bind_eq_some_iff.mp H
          obtain ⟨t140, A110, H⟩ := H
          replace H : ((shape_Most.f 0 0 0 0 0 0 0 0 0 a0 0 0 0 0 false false).bind fun t141 => (some (decide (t140 ≥ t141)))) = some r := H
          have A11 := Aside0.mk A110
          clear A110
          replace H := Option.bind_eq_some_iff.mp H
          obtain ⟨t141, A120, H⟩ := H
          replace H : (some (decide (t140 ≥ t141))) = some r := H
          have A12 := Aside0.mk A120
          clear A120
          obtain rfl := Option.some.inj H
          go_wp2_with (first | ((with_reducible refine gate_callee (f := 10) rfl ?_); refine goesL_ (some 20) rfl rfl Try.func10 (by kernel_rfl) rfl #[.agg #[.int .i64 0, .int .i64 0, .int .i64 0, .int .i64 0, .int .i64 0, .int .i64 0, .int .i64 0, .int .i64 0, .int .i64 0, .int .i64 a0, .int .i64 0, .int .i64 0, .int .i64 0, .int .i64 0, .bool false, .bool false]] rfl (by (try simp only [List.map_toArray, List.map_cons, List.map_nil]); first | done | rfl | (simp only [List.length_drop, List.length_take]; rfl)) ?_; (with_reducible refine (shape_Most.calls 0 0 0 0 0 0 0 0 0 a0 0 0 0 0 false false t139 _ A9.out).mono ?_); rintro e w13 ⟨rfl, hb⟩; refine ⟨_, rfl, ?_⟩; have n0_ := Aside0.mk (below_step (by repeat (first | (with_reducible first | exact HB.out | apply below_alloc | apply pw_below_drewN | apply below_drew1) | exact HB.out)) hb); clear HB; have HB := n0_; clear n0_; (try clear hb); (try clear hb2); (try clear hk); (try clear hi)) | (go_at_call 10; (with_reducible refine (shape_Most.calls 0 0 0 0 0 0 0 0 0 (wrap64 (a0 + 1)) 0 0 0 0 false false t140 _ A11.out).mono ?_); rintro e w14 ⟨rfl, hb⟩; have n0_ := Aside0.mk (below_step (by repeat (first | (with_reducible first | exact HB.out | apply below_alloc | apply pw_below_drewN | apply below_drew1) | exact HB.out)) hb); clear HB; have HB := n0_; clear n0_; (try clear hb); (try clear hb2); (try clear hk); (try clear hi)) | (go_at_call 10; (with_reducible refine (shape_Most.calls 0 0 0 0 0 0 0 0 0 a0 0 0 0 0 false false t141 _ A12.out).mono ?_); rintro e w15 ⟨rfl, hb⟩; have n0_ := Aside0.mk (below_step (by repeat (first | (with_reducible first | exact HB.out | apply below_alloc | apply pw_below_drewN | apply below_drew1) | exact HB.out)) hb); clear HB; have HB := n0_; clear n0_; (try clear hb); (try clear hb2); (try clear hk); (try clear hi)))
          go_ret
          exact ⟨by first | rfl | (simp [errW_none, errW_some] <;> rfl) | (simp [*, errW_none, errW_some] <;> rfl), by repeat (first | (with_reducible first | exact HB.out | apply below_alloc | apply pw_below_drewN | apply below_drew1) | exact HB.out)⟩
        · rw [if_neg c10] at H
          have c10b0 : decide ((wrap64 ((wrap64 (2 * (wrap64 ((wrap64 (11 + a0)) + 4)))) + 2)) ≤ t139) = false := decide_eq_false c10
          clear c10
          obtain rfl := Option.some.inj H
          go_wp2_with (first | ((with_reducible refine gate_callee (f := 10) rfl ?_); refine goesL_ (some 20) rfl rfl Try.func10 (by kernel_rfl) rfl #[.agg #[.int .i64 0, .int .i64 0, .int .i64 0, .int .i64 0, .int .i64 0, .int .i64 0, .int .i64 0, .int .i64 0, .int .i64 0, .int .i64 a0, .int .i64 0, .int .i64 0, .int .i64 0, .int .i64 0, .bool false, .bool false]] rfl (by (try simp only [List.map_toArray, List.map_cons, List.map_nil]); first | done | rfl | (simp only [List.length_drop, List.length_take]; rfl)) ?_; (with_reducible refine (shape_Most.calls 0 0 0 0 0 0 0 0 0 a0 0 0 0 0 false false t139 _ A9.out).mono ?_); rintro e w16 ⟨rfl, hb⟩; refine ⟨_, rfl, ?_⟩; have n0_ := Aside0.mk (below_step (by repeat (first | (with_reducible first | exact HB.out | apply below_alloc | apply pw_below_drewN | apply below_drew1) | exact HB.out)) hb); clear HB; have HB := n0_; clear n0_; (try clear hb); (try clear hb2); (try clear hk); (try clear hi)))
          go_ret
          exact ⟨by first | rfl | (simp [errW_none, errW_some] <;> rfl) | (simp [*, errW_none, errW_some] <;> rfl), by repeat (first | (with_reducible first | exact HB.out | apply below_alloc | apply pw_below_drewN | apply below_drew1) | exact HB.out)⟩

/-- THE ONE PURE STATEMENT of signalmanlaw19_ShapeFits: yours. -/
def signalmanlaw19_ShapeFits.Pure : Prop := ∀ (a0 : Int) (a1 : Int), (Lit.int .i64 a0).wf = true → (Lit.int .u8 a1).wf = true → ∃ k, signalmanlaw19_ShapeFits.f k a0 a1 = some true
theorem signalmanlaw19_ShapeFits.walk (P : signalmanlaw19_ShapeFits.Pure) (a0 : Int) (a1 : Int) (w : World) (w0 : (Lit.int .i64 a0).wf = true) (w1 : (Lit.int .u8 a1).wf = true) :
    Calls Try.prog 5 #[.int .i64 a0, .int .u8 a1] w fun e w' => e = .returned (.bool true) ∧ Below w.heap.size w w' := by
  obtain ⟨k, h⟩ := P a0 a1 w0 w1
  refine (signalmanlaw19_ShapeFits.calls k a0 a1 true w h).mono ?_
  rintro e w' ⟨rfl, hd⟩
  exact ⟨rfl, hd⟩

end Go.Proofs.Ytckfkmgfilfgfaa.PShapeFits
