-- PRINTED BY print.sh 35421559b90ae4d0a3588c463048766b98c2df88dd9212a6774a882060cdf62d: not written by this session
import Derived.Test.YtckfkmgfilfgfaaPShapeLimitsx0
import Derived.Test.YtckfkmgfilfgfaaPShapeLimitsx1
import Derived.Test.YtckfkmgfilfgfaaPShapeLimitsx2
namespace Go.Proofs.Ytckfkmgfilfgfaa.PShapeLimits
open Go.RowKit Go.Proofs.YtckfkmgfilfgfaaW.PrintWords Go.Proofs.YtckfkmgfilfgfaaW.PrintLast Go.Proofs.YtckfkmgfilfgfaaW.PrintMore
attribute [local go_sem] max2_int min2_int max_two min_two max_three min_three max_four min_four   -- for this text's walks alone
set_option linter.unusedVariables false
set_option linter.unusedSimpArgs false

/-! ### signalmanlaw19_good: function 12 -/
def signalmanlaw19_good.f  : Option (Int × Int × Int × Int × Int × Int × Int × Int × Int × Int × Int × Int × Int × Int × Bool × Bool) := some (0, 128, 4, 10, 3, 0, 5, 20, 4, 20, 500, 10, 3, 3, false, false)
set_option maxHeartbeats 8000000 in
set_option maxRecDepth 100000 in
theorem signalmanlaw19_good.calls  (r1 : Int) (r2 : Int) (r3 : Int) (r4 : Int) (r5 : Int) (r6 : Int) (r7 : Int) (r8 : Int) (r9 : Int) (r10 : Int) (r11 : Int) (r12 : Int) (r13 : Int) (r14 : Int) (r15 : Bool) (r16 : Bool) (w : World) (h : signalmanlaw19_good.f  = some (r1, r2, r3, r4, r5, r6, r7, r8, r9, r10, r11, r12, r13, r14, r15, r16)) :
    Calls Try.prog 12 #[] w fun e w' => e = .returned (.agg #[.int .i64 r1, .int .i64 r2, .int .i64 r3, .int .i64 r4, .int .i64 r5, .int .i64 r6, .int .i64 r7, .int .i64 r8, .int .i64 r9, .int .i64 r10, .int .i64 r11, .int .i64 r12, .int .i64 r13, .int .i64 r14, .bool r15, .bool r16]) ∧ Below w.heap.size w w' := by
  have hu23 := Try.underlying23
  have HB := Aside0.mk (Below.refl w.heap.size w)
  have H : (some (0, 128, 4, 10, 3, 0, 5, 20, 4, 20, 500, 10, 3, 3, false, false)) = some (r1, r2, r3, r4, r5, r6, r7, r8, r9, r10, r11, r12, r13, r14, r15, r16) := h
  clear h
  simp only [Option.some.injEq, Prod.mk.injEq] at H
  obtain ⟨rfl, rfl, rfl, rfl, rfl, rfl, rfl, rfl, rfl, rfl, rfl, rfl, rfl, rfl, rfl, rfl⟩ := H
  go_enter Try.func12, Try.ntmps12
  go_wp2_with (first | ((with_reducible refine gate_dst (N := 0) rfl ?_); refine box_event ?hg (N := 0) ?hd (cs := #[.int .i64 0, .int .i64 0, .int .i64 0, .int .i64 0, .int .i64 0, .int .i64 0, .int .i64 0, .int .i64 0, .int .i64 0, .int .i64 0, .int .i64 0, .int .i64 0, .int .i64 0, .int .i64 0, .bool false, .bool false]) (t := 23) ?hr ?_; (case hd => rfl); (case hg => rfl); (case hr => first | (go_simp; done) | (go_simp; rfl)); intro gb116 hg w1 hbox hb; have n0_ := Aside0.mk (below_step (by repeat (first | (with_reducible first | exact HB.out | apply below_alloc | apply pw_below_drewN | apply below_drew1) | exact HB.out)) hb); have n1_ := Aside0.mk (hbox); have n2_ := Aside0.mk ((by rw [hg]; exact (below_size (by repeat (first | (with_reducible first | exact HB.out | apply below_alloc | apply pw_below_drewN | apply below_drew1) | exact HB.out))) : w.heap.size ≤ gb116)); have n3_ := Aside0.mk ((by rw [hg]; exact (below_size (by repeat (first | (with_reducible first | exact HB.out | apply below_alloc | apply pw_below_drewN | apply below_drew1) | exact HB.out))) : w.heap.size ≤ gb116)); clear HB; have HB := n0_; have BK116 := n1_; have GW116 := n2_; have GE116 := n3_; clear n0_ n1_ n2_ n3_; clear hb hbox hg; have hcz2_0 : w1.cell? ⟨gb116, 0, none⟩ = some (.int .i64 0) := (blk_cell BK116.out 0).trans rfl; have hcz2_1 : w1.cell? ⟨gb116, 1, none⟩ = some (.int .i64 0) := (blk_cell BK116.out 1).trans rfl; have hcz2_2 : w1.cell? ⟨gb116, 2, none⟩ = some (.int .i64 0) := (blk_cell BK116.out 2).trans rfl; have hcz2_3 : w1.cell? ⟨gb116, 3, none⟩ = some (.int .i64 0) := (blk_cell BK116.out 3).trans rfl; have hcz2_4 : w1.cell? ⟨gb116, 4, none⟩ = some (.int .i64 0) := (blk_cell BK116.out 4).trans rfl; have hcz2_5 : w1.cell? ⟨gb116, 5, none⟩ = some (.int .i64 0) := (blk_cell BK116.out 5).trans rfl; have hcz2_6 : w1.cell? ⟨gb116, 6, none⟩ = some (.int .i64 0) := (blk_cell BK116.out 6).trans rfl; have hcz2_7 : w1.cell? ⟨gb116, 7, none⟩ = some (.int .i64 0) := (blk_cell BK116.out 7).trans rfl; have hcz2_8 : w1.cell? ⟨gb116, 8, none⟩ = some (.int .i64 0) := (blk_cell BK116.out 8).trans rfl; have hcz2_9 : w1.cell? ⟨gb116, 9, none⟩ = some (.int .i64 0) := (blk_cell BK116.out 9).trans rfl; have hcz2_10 : w1.cell? ⟨gb116, 10, none⟩ = some (.int .i64 0) := (blk_cell BK116.out 10).trans rfl; have hcz2_11 : w1.cell? ⟨gb116, 11, none⟩ = some (.int .i64 0) := (blk_cell BK116.out 11).trans rfl; have hcz2_12 : w1.cell? ⟨gb116, 12, none⟩ = some (.int .i64 0) := (blk_cell BK116.out 12).trans rfl; have hcz2_13 : w1.cell? ⟨gb116, 13, none⟩ = some (.int .i64 0) := (blk_cell BK116.out 13).trans rfl; have hcz2_14 : w1.cell? ⟨gb116, 14, none⟩ = some (.bool false) := (blk_cell BK116.out 14).trans rfl; have hcz2_15 : w1.cell? ⟨gb116, 15, none⟩ = some (.bool false) := (blk_cell BK116.out 15).trans rfl; have hfz2_0 := blk_frozen BK116.out 0; have hfz2_1 := blk_frozen BK116.out 1; have hfz2_2 := blk_frozen BK116.out 2; have hfz2_3 := blk_frozen BK116.out 3; have hfz2_4 := blk_frozen BK116.out 4; have hfz2_5 := blk_frozen BK116.out 5; have hfz2_6 := blk_frozen BK116.out 6; have hfz2_7 := blk_frozen BK116.out 7; have hfz2_8 := blk_frozen BK116.out 8; have hfz2_9 := blk_frozen BK116.out 9; have hfz2_10 := blk_frozen BK116.out 10; have hfz2_11 := blk_frozen BK116.out 11; have hfz2_12 := blk_frozen BK116.out 12; have hfz2_13 := blk_frozen BK116.out 13; have hfz2_14 := blk_frozen BK116.out 14; have hfz2_15 := blk_frozen BK116.out 15))
  refine bodyPost_ret (results_cell_row rfl _ _ gb116 23 #[.int .i64 0, .int .i64 128, .int .i64 4, .int .i64 10, .int .i64 3, .int .i64 0, .int .i64 5, .int .i64 20, .int .i64 4, .int .i64 20, .int .i64 500, .int .i64 10, .int .i64 3, .int .i64 3, .bool false, .bool false] (0, 0) _ rfl (by (with_reducible repeat (first | refine blk_drewN ?_ _ | refine blk_drew ?_ | refine blk_alloc ?_ _)); refine blk_put (cs := #[.int .i64 0, .int .i64 128, .int .i64 4, .int .i64 10, .int .i64 3, .int .i64 0, .int .i64 5, .int .i64 20, .int .i64 4, .int .i64 20, .int .i64 500, .int .i64 10, .int .i64 3, .int .i64 3, .bool false, .bool false]) ?_ 15 _ rfl; (with_reducible repeat (first | refine blk_drewN ?_ _ | refine blk_drew ?_ | refine blk_alloc ?_ _)); refine blk_put (cs := #[.int .i64 0, .int .i64 128, .int .i64 4, .int .i64 10, .int .i64 3, .int .i64 0, .int .i64 5, .int .i64 20, .int .i64 4, .int .i64 20, .int .i64 500, .int .i64 10, .int .i64 3, .int .i64 3, .bool false, .bool false]) ?_ 14 _ rfl; (with_reducible repeat (first | refine blk_drewN ?_ _ | refine blk_drew ?_ | refine blk_alloc ?_ _)); refine blk_put (cs := #[.int .i64 0, .int .i64 128, .int .i64 4, .int .i64 10, .int .i64 3, .int .i64 0, .int .i64 5, .int .i64 20, .int .i64 4, .int .i64 20, .int .i64 500, .int .i64 10, .int .i64 3, .int .i64 0, .bool false, .bool false]) ?_ 13 _ rfl; (with_reducible repeat (first | refine blk_drewN ?_ _ | refine blk_drew ?_ | refine blk_alloc ?_ _)); refine blk_put (cs := #[.int .i64 0, .int .i64 128, .int .i64 4, .int .i64 10, .int .i64 3, .int .i64 0, .int .i64 5, .int .i64 20, .int .i64 4, .int .i64 20, .int .i64 500, .int .i64 10, .int .i64 0, .int .i64 0, .bool false, .bool false]) ?_ 12 _ rfl; (with_reducible repeat (first | refine blk_drewN ?_ _ | refine blk_drew ?_ | refine blk_alloc ?_ _)); refine blk_put (cs := #[.int .i64 0, .int .i64 128, .int .i64 4, .int .i64 10, .int .i64 3, .int .i64 0, .int .i64 5, .int .i64 20, .int .i64 4, .int .i64 20, .int .i64 500, .int .i64 0, .int .i64 0, .int .i64 0, .bool false, .bool false]) ?_ 11 _ rfl; (with_reducible repeat (first | refine blk_drewN ?_ _ | refine blk_drew ?_ | refine blk_alloc ?_ _)); refine blk_put (cs := #[.int .i64 0, .int .i64 128, .int .i64 4, .int .i64 10, .int .i64 3, .int .i64 0, .int .i64 5, .int .i64 20, .int .i64 4, .int .i64 20, .int .i64 0, .int .i64 0, .int .i64 0, .int .i64 0, .bool false, .bool false]) ?_ 10 _ rfl; (with_reducible repeat (first | refine blk_drewN ?_ _ | refine blk_drew ?_ | refine blk_alloc ?_ _)); refine blk_put (cs := #[.int .i64 0, .int .i64 128, .int .i64 4, .int .i64 10, .int .i64 3, .int .i64 0, .int .i64 5, .int .i64 20, .int .i64 4, .int .i64 0, .int .i64 0, .int .i64 0, .int .i64 0, .int .i64 0, .bool false, .bool false]) ?_ 9 _ rfl; (with_reducible repeat (first | refine blk_drewN ?_ _ | refine blk_drew ?_ | refine blk_alloc ?_ _)); refine blk_put (cs := #[.int .i64 0, .int .i64 128, .int .i64 4, .int .i64 10, .int .i64 3, .int .i64 0, .int .i64 5, .int .i64 20, .int .i64 0, .int .i64 0, .int .i64 0, .int .i64 0, .int .i64 0, .int .i64 0, .bool false, .bool false]) ?_ 8 _ rfl; (with_reducible repeat (first | refine blk_drewN ?_ _ | refine blk_drew ?_ | refine blk_alloc ?_ _)); refine blk_put (cs := #[.int .i64 0, .int .i64 128, .int .i64 4, .int .i64 10, .int .i64 3, .int .i64 0, .int .i64 5, .int .i64 0, .int .i64 0, .int .i64 0, .int .i64 0, .int .i64 0, .int .i64 0, .int .i64 0, .bool false, .bool false]) ?_ 7 _ rfl; (with_reducible repeat (first | refine blk_drewN ?_ _ | refine blk_drew ?_ | refine blk_alloc ?_ _)); refine blk_put (cs := #[.int .i64 0, .int .i64 128, .int .i64 4, .int .i64 10, .int .i64 3, .int .i64 0, .int .i64 0, .int .i64 0, .int .i64 0, .int .i64 0, .int .i64 0, .int .i64 0, .int .i64 0, .int .i64 0, .bool false, .bool false]) ?_ 6 _ rfl; (with_reducible repeat (first | refine blk_drewN ?_ _ | refine blk_drew ?_ | refine blk_alloc ?_ _)); refine blk_put (cs := #[.int .i64 0, .int .i64 128, .int .i64 4, .int .i64 10, .int .i64 3, .int .i64 0, .int .i64 0, .int .i64 0, .int .i64 0, .int .i64 0, .int .i64 0, .int .i64 0, .int .i64 0, .int .i64 0, .bool false, .bool false]) ?_ 5 _ rfl; (with_reducible repeat (first | refine blk_drewN ?_ _ | refine blk_drew ?_ | refine blk_alloc ?_ _)); refine blk_put (cs := #[.int .i64 0, .int .i64 128, .int .i64 4, .int .i64 10, .int .i64 0, .int .i64 0, .int .i64 0, .int .i64 0, .int .i64 0, .int .i64 0, .int .i64 0, .int .i64 0, .int .i64 0, .int .i64 0, .bool false, .bool false]) ?_ 4 _ rfl; (with_reducible repeat (first | refine blk_drewN ?_ _ | refine blk_drew ?_ | refine blk_alloc ?_ _)); refine blk_put (cs := #[.int .i64 0, .int .i64 128, .int .i64 4, .int .i64 0, .int .i64 0, .int .i64 0, .int .i64 0, .int .i64 0, .int .i64 0, .int .i64 0, .int .i64 0, .int .i64 0, .int .i64 0, .int .i64 0, .bool false, .bool false]) ?_ 3 _ rfl; (with_reducible repeat (first | refine blk_drewN ?_ _ | refine blk_drew ?_ | refine blk_alloc ?_ _)); refine blk_put (cs := #[.int .i64 0, .int .i64 128, .int .i64 0, .int .i64 0, .int .i64 0, .int .i64 0, .int .i64 0, .int .i64 0, .int .i64 0, .int .i64 0, .int .i64 0, .int .i64 0, .int .i64 0, .int .i64 0, .bool false, .bool false]) ?_ 2 _ rfl; (with_reducible repeat (first | refine blk_drewN ?_ _ | refine blk_drew ?_ | refine blk_alloc ?_ _)); refine blk_put (cs := #[.int .i64 0, .int .i64 0, .int .i64 0, .int .i64 0, .int .i64 0, .int .i64 0, .int .i64 0, .int .i64 0, .int .i64 0, .int .i64 0, .int .i64 0, .int .i64 0, .int .i64 0, .int .i64 0, .bool false, .bool false]) ?_ 1 _ rfl; (with_reducible repeat (first | refine blk_drewN ?_ _ | refine blk_drew ?_ | refine blk_alloc ?_ _)); refine blk_put (cs := #[.int .i64 0, .int .i64 0, .int .i64 0, .int .i64 0, .int .i64 0, .int .i64 0, .int .i64 0, .int .i64 0, .int .i64 0, .int .i64 0, .int .i64 0, .int .i64 0, .int .i64 0, .int .i64 0, .bool false, .bool false]) ?_ 0 _ rfl; (with_reducible repeat (first | refine blk_drewN ?_ _ | refine blk_drew ?_ | refine blk_alloc ?_ _)); exact BK116.out) Try.underlying23 rfl (by kernel_rfl)) rfl ?_
  exact ⟨by first | rfl | (simp [errW_none, errW_some] <;> rfl) | (simp [*, errW_none, errW_some] <;> rfl), by repeat (first | (with_reducible first | exact HB.out | apply below_alloc | apply pw_below_drewN | apply below_drew1 | refine below_set ?_ GE116.out) | exact HB.out)⟩

/-! ### signalmanlaw19_alive: function 6 -/
def signalmanlaw19_alive.f (k : Nat)  : Option (Bool) := (shape_Most.f 0 0 0 0 0 0 0 0 0 1 0 0 0 0 false false).bind fun t117 => (if t117 = 36 then ((signalmanlaw19_good.f).bind fun bt118 => ((shape_Check.f k bt118.1 bt118.2.1 bt118.2.2.1 bt118.2.2.2.1 bt118.2.2.2.2.1 bt118.2.2.2.2.2.1 bt118.2.2.2.2.2.2.1 bt118.2.2.2.2.2.2.2.1 bt118.2.2.2.2.2.2.2.2.1 bt118.2.2.2.2.2.2.2.2.2.1 bt118.2.2.2.2.2.2.2.2.2.2.1 bt118.2.2.2.2.2.2.2.2.2.2.2.1 bt118.2.2.2.2.2.2.2.2.2.2.2.2.1 bt118.2.2.2.2.2.2.2.2.2.2.2.2.2.1 bt118.2.2.2.2.2.2.2.2.2.2.2.2.2.2.1 bt118.2.2.2.2.2.2.2.2.2.2.2.2.2.2.2).bind fun t134 => ((signalmanlaw19_num.f t134).bind fun t135 => (if t135 = 0 then ((shape_Check.f k 0 0 0 0 0 0 0 0 0 0 0 0 0 0 false false).bind fun t136 => ((signalmanlaw19_num.f t136).bind fun t137 => (some (t137 == 1)))) else (some false))))) else (some false))
theorem signalmanlaw19_alive.mono : ∀ k, LeO (signalmanlaw19_alive.f k ) (signalmanlaw19_alive.f (k + 1) ) := by
  intro  k
  unfold signalmanlaw19_alive.f
  repeat' first
      | (with_reducible exact shape_Check.mono _ _ _ _ _ _ _ _ _ _ _ _ _ _ _ _ _)
      | (with_reducible exact LeO.refl _)
      | (with_reducible exact LeO.none _)
      | (with_reducible refine LeO.ite ?_ ?_)
      | (with_reducible refine LeO.bind ?_ (fun _ => ?_))
      | exact shape_Check.mono _ _ _ _ _ _ _ _ _ _ _ _ _ _ _ _ _
      | exact LeO.none _
      | refine LeO.ite ?_ ?_
      | refine LeO.bind ?_ (fun _ => ?_)
set_option maxHeartbeats 8000000 in
set_option maxRecDepth 100000 in
theorem signalmanlaw19_alive.calls (k : Nat)  (r : Bool) (w : World) (h : signalmanlaw19_alive.f k  = some r) :
    Calls Try.prog 6 #[] w fun e w' => e = .returned (.bool r) ∧ Below w.heap.size w w' := by
  have hu23 := Try.underlying23
  have HB := Aside0.mk (Below.refl w.heap.size w)
  have H : ((shape_Most.f 0 0 0 0 0 0 0 0 0 1 0 0 0 0 false false).bind fun t117 => (if t117 = 36 then ((signalmanlaw19_good.f).bind fun bt118 => ((shape_Check.f k bt118.1 bt118.2.1 bt118.2.2.1 bt118.2.2.2.1 bt118.2.2.2.2.1 bt118.2.2.2.2.2.1 bt118.2.2.2.2.2.2.1 bt118.2.2.2.2.2.2.2.1 bt118.2.2.2.2.2.2.2.2.1 bt118.2.2.2.2.2.2.2.2.2.1 bt118.2.2.2.2.2.2.2.2.2.2.1 bt118.2.2.2.2.2.2.2.2.2.2.2.1 bt118.2.2.2.2.2.2.2.2.2.2.2.2.1 bt118.2.2.2.2.2.2.2.2.2.2.2.2.2.1 bt118.2.2.2.2.2.2.2.2.2.2.2.2.2.2.1 bt118.2.2.2.2.2.2.2.2.2.2.2.2.2.2.2).bind fun t134 => ((signalmanlaw19_num.f t134).bind fun t135 => (if t135 = 0 then ((shape_Check.f k 0 0 0 0 0 0 0 0 0 0 0 0 0 0 false false).bind fun t136 => ((signalmanlaw19_num.f t136).bind fun t137 => (some (t137 == 1)))) else (some false))))) else (some false))) = some r := h
  clear h
  replace H := Option.bind_eq_some_iff.mp H
  obtain ⟨t117, A10, H⟩ := H
  replace H : (if t117 = 36 then ((signalmanlaw19_good.f).bind fun bt118 => ((shape_Check.f k bt118.1 bt118.2.1 bt118.2.2.1 bt118.2.2.2.1 bt118.2.2.2.2.1 bt118.2.2.2.2.2.1 bt118.2.2.2.2.2.2.1 bt118.2.2.2.2.2.2.2.1 bt118.2.2.2.2.2.2.2.2.1 bt118.2.2.2.2.2.2.2.2.2.1 bt118.2.2.2.2.2.2.2.2.2.2.1 bt118.2.2.2.2.2.2.2.2.2.2.2.1 bt118.2.2.2.2.2.2.2.2.2.2.2.2.1 bt118.2.2.2.2.2.2.2.2.2.2.2.2.2.1 bt118.2.2.2.2.2.2.2.2.2.2.2.2.2.2.1 bt118.2.2.2.2.2.2.2.2.2.2.2.2.2.2.2).bind fun t134 => ((signalmanlaw19_num.f t134).bind fun t135 => (if t135 = 0 then ((shape_Check.f k 0 0 0 0 0 0 0 0 0 0 0 0 0 0 false false).bind fun t136 => ((signalmanlaw19_num.f t136).bind fun t137 => (some (t137 == 1)))) else (some false))))) else (some false)) = some r := H
  have A1 := Aside0.mk A10
  clear A10
  by_cases c2 : t117 = 36
  · rw [if_pos c2] at H
    have c2b0 : (t117 == 36) = true := beq_iff_eq.mpr c2
    have c2b1 : (t117 != 36) = false := bne_eq_false_iff_eq.mpr c2
    clear c2
    replace H := Option.bind_eq_some_iff.mp H
    obtain ⟨⟨t118, t119, t120, t121, t122, t123, t124, t125, t126, t127, t128, t129, t130, t131, t132, t133⟩, A30, H⟩ := H
    replace H : ((shape_Check.f k t118 t119 t120 t121 t122 t123 t124 t125 t126 t127 t128 t129 t130 t131 t132 t133).bind fun t134 => ((signalmanlaw19_num.f t134).bind fun t135 => (if t135 = 0 then ((shape_Check.f k 0 0 0 0 0 0 0 0 0 0 0 0 0 0 false false).bind fun t136 => ((signalmanlaw19_num.f t136).bind fun t137 => (some (t137 == 1)))) else (some false)))) = some r := H
    have A3 := Aside0.mk A30
    clear A30
    replace H := Option.bind_eq_some_iff.mp H
    obtain ⟨t134, A40, H⟩ := H
    replace H : ((signalmanlaw19_num.f t134).bind fun t135 => (if t135 = 0 then ((shape_Check.f k 0 0 0 0 0 0 0 0 0 0 0 0 0 0 false false).bind fun t136 => ((signalmanlaw19_num.f t136).bind fun t137 => (some (t137 == 1)))) else (some false))) = some r := H
    have A4 := Aside0.mk A40
    clear A40
    replace H := Option.bind_eq_some_iff.mp H
    obtain ⟨t135, A50, H⟩ := H
    replace H : (if t135 = 0 then ((shape_Check.f k 0 0 0 0 0 0 0 0 0 0 0 0 0 0 false false).bind fun t136 => ((signalmanlaw19_num.f t136).bind fun t137 => (some (t137 == 1)))) else (some false)) = some r := H
    have A5 := Aside0.mk A50
    clear A50
    by_cases c6 : t135 = 0
    · rw [if_pos c6] at H
      have c6b0 : (t135 == 0) = true := beq_iff_eq.mpr c6
      have c6b1 : (t135 != 0) = false := bne_eq_false_iff_eq.mpr c6
      clear c6
      replace H := Option.bind_eq_some_iff.mp H
      obtain ⟨t136, A70, H⟩ := H
      replace H : ((signalmanlaw19_num.f t136).bind fun t137 => (some (t137 == 1))) = some r := H
      have A7 := Aside0.mk A70
      clear A70
      replace H := Option.bind_eq_some_iff.mp H
      obtain ⟨t137, A80, H⟩ := H
      replace H : (some (t137 == 1)) = some r := H
      have A8 := Aside0.mk A80
      clear A80
      obtain rfl := Option.some.inj H
      go_enter Try.func6, Try.ntmps6
      go_wp2_with (first | ((with_reducible refine gate_callee (f := 10) rfl ?_); refine goesL_ (some 2) rfl rfl Try.func10 (by kernel_rfl) rfl #[.agg #[.int .i64 0, .int .i64 0, .int .i64 0, .int .i64 0, .int .i64 0, .int .i64 0, .int .i64 0, .int .i64 0, .int .i64 0, .int .i64 1, .int .i64 0, .int .i64 0, .int .i64 0, .int .i64 0, .bool false, .bool false]] rfl (by (try simp only [List.map_toArray, List.map_cons, List.map_nil]); first | done | rfl | (simp only [List.length_drop, List.length_take]; rfl)) ?_; (with_reducible refine (shape_Most.calls 0 0 0 0 0 0 0 0 0 1 0 0 0 0 false false t117 _ A1.out).mono ?_); rintro e w9 ⟨rfl, hb⟩; refine ⟨_, rfl, ?_⟩; have n0_ := Aside0.mk (below_step (by repeat (first | (with_reducible first | exact HB.out | apply below_alloc | apply pw_below_drewN | apply below_drew1) | exact HB.out)) hb); clear HB; have HB := n0_; clear n0_; (try clear hb); (try clear hb2); (try clear hk); (try clear hi)) | (go_at_call 12; (with_reducible refine (signalmanlaw19_good.calls  t118 t119 t120 t121 t122 t123 t124 t125 t126 t127 t128 t129 t130 t131 t132 t133 _ A3.out).mono ?_); rintro e w10 ⟨rfl, hb⟩; have n0_ := Aside0.mk (below_step (by repeat (first | (with_reducible first | exact HB.out | apply below_alloc | apply pw_below_drewN | apply below_drew1) | exact HB.out)) hb); clear HB; have HB := n0_; clear n0_; (try clear hb); (try clear hb2); (try clear hk); (try clear hi)) | (go_at_call 8; (with_reducible refine (shape_Check.calls k t118 t119 t120 t121 t122 t123 t124 t125 t126 t127 t128 t129 t130 t131 t132 t133 t134 _ A4.out).mono ?_); rintro e w11 ⟨rfl, hb⟩; have n0_ := Aside0.mk (below_step (by repeat (first | (with_reducible first | exact HB.out | apply below_alloc | apply pw_below_drewN | apply below_drew1) | exact HB.out)) hb); clear HB; have HB := n0_; clear n0_; (try clear hb); (try clear hb2); (try clear hk); (try clear hi)) | (go_at_call 7; (with_reducible refine (signalmanlaw19_num.calls t134 t135 _ A5.out).mono ?_); rintro e w' ⟨rfl, ⟨nd, rfl⟩⟩) | (go_at_call 8; (with_reducible refine (shape_Check.calls k 0 0 0 0 0 0 0 0 0 0 0 0 0 0 false false t136 _ A7.out).mono ?_); rintro e w12 ⟨rfl, hb⟩; have n0_ := Aside0.mk (below_step (by repeat (first | (with_reducible first | exact HB.out | apply below_alloc | apply pw_below_drewN | apply below_drew1) | exact HB.out)) hb); clear HB; have HB := n0_; clear n0_; (try clear hb); (try clear hb2); (try clear hk); (try clear hi)) | (go_at_call 7; (with_reducible refine (signalmanlaw19_num.calls t136 t137 _ A8.out).mono ?_); rintro e w' ⟨rfl, ⟨nd, rfl⟩⟩))
      go_ret
      exact ⟨by first | rfl | (simp [errW_none, errW_some] <;> rfl) | (simp [*, errW_none, errW_some] <;> rfl), by repeat (first | (with_reducible first | exact HB.out | apply below_alloc | apply pw_below_drewN | apply below_drew1) | exact HB.out)⟩
    · rw [if_neg c6] at H
      have c6b0 : (t135 == 0) = false := beq_eq_false_iff_ne.mpr c6
      have c6b1 : (t135 != 0) = true := bne_iff_ne.mpr c6
      obtain rfl := Option.some.inj H
      go_enter Try.func6, Try.ntmps6
      go_wp2_with (first | ((with_reducible refine gate_callee (f := 10) rfl ?_); refine goesL_ (some 2) rfl rfl Try.func10 (by kernel_rfl) rfl #[.agg #[.int .i64 0, .int .i64 0, .int .i64 0, .int .i64 0, .int .i64 0, .int .i64 0, .int .i64 0, .int .i64 0, .int .i64 0, .int .i64 1, .int .i64 0, .int .i64 0, .int .i64 0, .int .i64 0, .bool false, .bool false]] rfl (by (try simp only [List.map_toArray, List.map_cons, List.map_nil]); first | done | rfl | (simp only [List.length_drop, List.length_take]; rfl)) ?_; (with_reducible refine (shape_Most.calls 0 0 0 0 0 0 0 0 0 1 0 0 0 0 false false t117 _ A1.out).mono ?_); rintro e w13 ⟨rfl, hb⟩; refine ⟨_, rfl, ?_⟩; have n0_ := Aside0.mk (below_step (by repeat (first | (with_reducible first | exact HB.out | apply below_alloc | apply pw_below_drewN | apply below_drew1) | exact HB.out)) hb); clear HB; have HB := n0_; clear n0_; (try clear hb); (try clear hb2); (try clear hk); (try clear hi)) | (go_at_call 12; (with_reducible refine (signalmanlaw19_good.calls  t118 t119 t120 t121 t122 t123 t124 t125 t126 t127 t128 t129 t130 t131 t132 t133 _ A3.out).mono ?_); rintro e w14 ⟨rfl, hb⟩; have n0_ := Aside0.mk (below_step (by repeat (first | (with_reducible first | exact HB.out | apply below_alloc | apply pw_below_drewN | apply below_drew1) | exact HB.out)) hb); clear HB; have HB := n0_; clear n0_; (try clear hb); (try clear hb2); (try clear hk); (try clear hi)) | (go_at_call 8; (with_reducible refine (shape_Check.calls k t118 t119 t120 t121 t122 t123 t124 t125 t126 t127 t128 t129 t130 t131 t132 t133 t134 _ A4.out).mono ?_); rintro e w15 ⟨rfl, hb⟩; have n0_ := Aside0.mk (below_step (by repeat (first | (with_reducible first | exact HB.out | apply below_alloc | apply pw_below_drewN | apply below_drew1) | exact HB.out)) hb); clear HB; have HB := n0_; clear n0_; (try clear hb); (try clear hb2); (try clear hk); (try clear hi)) | (go_at_call 7; (with_reducible refine (signalmanlaw19_num.calls t134 t135 _ A5.out).mono ?_); rintro e w' ⟨rfl, ⟨nd, rfl⟩⟩))
      go_ret
      exact ⟨by first | rfl | (simp [errW_none, errW_some] <;> rfl) | (simp [*, errW_none, errW_some] <;> rfl), by repeat (first | (with_reducible first | exact HB.out | apply below_alloc | apply pw_below_drewN | apply below_drew1) | exact HB.out)⟩
  · rw [if_neg c2] at H
    have c2b0 : (t117 == 36) = false := beq_eq_false_iff_ne.mpr c2
    have c2b1 : (t117 != 36) = true := bne_iff_ne.mpr c2
    obtain rfl := Option.some.inj H
    go_enter Try.func6, Try.ntmps6
    go_wp2_with (first | ((with_reducible refine gate_callee (f := 10) rfl ?_); refine goesL_ (some 2) rfl rfl Try.func10 (by kernel_rfl) rfl #[.agg #[.int .i64 0, .int .i64 0, .int .i64 0, .int .i64 0, .int .i64 0, .int .i64 0, .int .i64 0, .int .i64 0, .int .i64 0, .int .i64 1, .int .i64 0, .int .i64 0, .int .i64 0, .int .i64 0, .bool false, .bool false]] rfl (by (try simp only [List.map_toArray, List.map_cons, List.map_nil]); first | done | rfl | (simp only [List.length_drop, List.length_take]; rfl)) ?_; (with_reducible refine (shape_Most.calls 0 0 0 0 0 0 0 0 0 1 0 0 0 0 false false t117 _ A1.out).mono ?_); rintro e w16 ⟨rfl, hb⟩; refine ⟨_, rfl, ?_⟩; have n0_ := Aside0.mk (below_step (by repeat (first | (with_reducible first | exact HB.out | apply below_alloc | apply pw_below_drewN | apply below_drew1) | exact HB.out)) hb); clear HB; have HB := n0_; clear n0_; (try clear hb); (try clear hb2); (try clear hk); (try clear hi)))
    go_ret
    exact ⟨by first | rfl | (simp [errW_none, errW_some] <;> rfl) | (simp [*, errW_none, errW_some] <;> rfl), by repeat (first | (with_reducible first | exact HB.out | apply below_alloc | apply pw_below_drewN | apply below_drew1) | exact HB.out)⟩

/-- A state of type 23 at block g of W; what its slices lead to came in by w0. -/
def IsS23 (w0 W : World) (g : Nat) (f0 : Int) (f1 : Int) (f2 : Int) (f3 : Int) (f4 : Int) (f5 : Int) (f6 : Int) (f7 : Int) (f8 : Int) (f9 : Int) (f10 : Int) (f11 : Int) (f12 : Int) (f13 : Int) (f14 : Bool) (f15 : Bool) : Prop := W.heap[g]? = some (.cells #[.int .i64 f0, .int .i64 f1, .int .i64 f2, .int .i64 f3, .int .i64 f4, .int .i64 f5, .int .i64 f6, .int .i64 f7, .int .i64 f8, .int .i64 f9, .int .i64 f10, .int .i64 f11, .int .i64 f12, .int .i64 f13, .bool f14, .bool f15] 23 (0, 0)) ∧ w0.heap.size ≤ g
theorem IsS23.grown {w0 W : World} {g : Nat} {f0 : Int} {f1 : Int} {f2 : Int} {f3 : Int} {f4 : Int} {f5 : Int} {f6 : Int} {f7 : Int} {f8 : Int} {f9 : Int} {f10 : Int} {f11 : Int} {f12 : Int} {f13 : Int} {f14 : Bool} {f15 : Bool} {W1 : World} {row : Option Nat} (h : IsS23 w0 W g f0 f1 f2 f3 f4 f5 f6 f7 f8 f9 f10 f11 f12 f13 f14 f15) (hw : W.grownBy W1 row) (hne : some g ≠ row) : IsS23 w0 W1 g f0 f1 f2 f3 f4 f5 f6 f7 f8 f9 f10 f11 f12 f13 f14 f15 := by
  obtain ⟨hb, hg⟩ := h
  exact ⟨blk_grown hb hw hne, hg⟩
theorem IsS23.own_neN {w0 W : World} {g : Nat} {f0 : Int} {f1 : Int} {f2 : Int} {f3 : Int} {f4 : Int} {f5 : Int} {f6 : Int} {f7 : Int} {f8 : Int} {f9 : Int} {f10 : Int} {f11 : Int} {f12 : Int} {f13 : Int} {f14 : Bool} {f15 : Bool} {α : Type} {d : Kd α} {e : Nat} {base : Nat} {ok : Nat → Prop} {v : Value} {xs : List α} (h : IsS23 w0 W g f0 f1 f2 f3 f4 f5 f6 f7 f8 f9 f10 f11 f12 f13 f14 f15) (ho : Kd.N d e W base ok v xs) (ht : e ≠ 23) : some g ≠ v.ownBlock := by
  obtain ⟨hb, hg⟩ := h
  exact Kd.N_ne ho hb ht
theorem IsS23.fresh {w0 W : World} {g : Nat} {f0 : Int} {f1 : Int} {f2 : Int} {f3 : Int} {f4 : Int} {f5 : Int} {f6 : Int} {f7 : Int} {f8 : Int} {f9 : Int} {f10 : Int} {f11 : Int} {f12 : Int} {f13 : Int} {f14 : Bool} {f15 : Bool} (h : IsS23 w0 W g f0 f1 f2 f3 f4 f5 f6 f7 f8 f9 f10 f11 f12 f13 f14 f15) : ∀ k, W.heap.size ≤ k → k ≠ g := by
  obtain ⟨hb, hg⟩ := h
  exact Kd.freshB hb
theorem IsS23.kept {w0 W : World} {g : Nat} {f0 : Int} {f1 : Int} {f2 : Int} {f3 : Int} {f4 : Int} {f5 : Int} {f6 : Int} {f7 : Int} {f8 : Int} {f9 : Int} {f10 : Int} {f11 : Int} {f12 : Int} {f13 : Int} {f14 : Bool} {f15 : Bool} {W1 : World} {S : Nat → Prop} (h : IsS23 w0 W g f0 f1 f2 f3 f4 f5 f6 f7 f8 f9 f10 f11 f12 f13 f14 f15) (hk : Kept W W1 S) (hne : ¬ S g) : IsS23 w0 W1 g f0 f1 f2 f3 f4 f5 f6 f7 f8 f9 f10 f11 f12 f13 f14 f15 := by
  obtain ⟨hb, hg⟩ := h
  exact ⟨blk_kept hb hk hne, hg⟩
theorem IsS23.below {w0 W : World} {g : Nat} {f0 : Int} {f1 : Int} {f2 : Int} {f3 : Int} {f4 : Int} {f5 : Int} {f6 : Int} {f7 : Int} {f8 : Int} {f9 : Int} {f10 : Int} {f11 : Int} {f12 : Int} {f13 : Int} {f14 : Bool} {f15 : Bool} {W1 : World} (h : IsS23 w0 W g f0 f1 f2 f3 f4 f5 f6 f7 f8 f9 f10 f11 f12 f13 f14 f15) (hw : Below W.heap.size W W1) : IsS23 w0 W1 g f0 f1 f2 f3 f4 f5 f6 f7 f8 f9 f10 f11 f12 f13 f14 f15 := h.grown (grown_of_below hw none) (by simp)
theorem IsS23.alloc {w0 W : World} {g : Nat} {f0 : Int} {f1 : Int} {f2 : Int} {f3 : Int} {f4 : Int} {f5 : Int} {f6 : Int} {f7 : Int} {f8 : Int} {f9 : Int} {f10 : Int} {f11 : Int} {f12 : Int} {f13 : Int} {f14 : Bool} {f15 : Bool} (h : IsS23 w0 W g f0 f1 f2 f3 f4 f5 f6 f7 f8 f9 f10 f11 f12 f13 f14 f15) (o : Obj) : IsS23 w0 (W.alloc o) g f0 f1 f2 f3 f4 f5 f6 f7 f8 f9 f10 f11 f12 f13 f14 f15 := h.below (below_alloc (Below.refl _ _) o)
theorem IsS23.drewN {w0 W : World} {g : Nat} {f0 : Int} {f1 : Int} {f2 : Int} {f3 : Int} {f4 : Int} {f5 : Int} {f6 : Int} {f7 : Int} {f8 : Int} {f9 : Int} {f10 : Int} {f11 : Int} {f12 : Int} {f13 : Int} {f14 : Bool} {f15 : Bool} (h : IsS23 w0 W g f0 f1 f2 f3 f4 f5 f6 f7 f8 f9 f10 f11 f12 f13 f14 f15) (m : Nat) : IsS23 w0 (W.drewN m) g f0 f1 f2 f3 f4 f5 f6 f7 f8 f9 f10 f11 f12 f13 f14 f15 := h
theorem IsS23.drew {w0 W : World} {g : Nat} {f0 : Int} {f1 : Int} {f2 : Int} {f3 : Int} {f4 : Int} {f5 : Int} {f6 : Int} {f7 : Int} {f8 : Int} {f9 : Int} {f10 : Int} {f11 : Int} {f12 : Int} {f13 : Int} {f14 : Bool} {f15 : Bool} (h : IsS23 w0 W g f0 f1 f2 f3 f4 f5 f6 f7 f8 f9 f10 f11 f12 f13 f14 f15) : IsS23 w0 W.drew g f0 f1 f2 f3 f4 f5 f6 f7 f8 f9 f10 f11 f12 f13 f14 f15 := h
theorem IsS23.at_ {w0 W : World} {g : Nat} {f0 : Int} {f1 : Int} {f2 : Int} {f3 : Int} {f4 : Int} {f5 : Int} {f6 : Int} {f7 : Int} {f8 : Int} {f9 : Int} {f10 : Int} {f11 : Int} {f12 : Int} {f13 : Int} {f14 : Bool} {f15 : Bool} {w' : World} {m : Nat} (hq : W.drewN m = w') (h : IsS23 w0 W g f0 f1 f2 f3 f4 f5 f6 f7 f8 f9 f10 f11 f12 f13 f14 f15) : IsS23 w0 w' g f0 f1 f2 f3 f4 f5 f6 f7 f8 f9 f10 f11 f12 f13 f14 f15 := by subst hq; exact IsS23.drewN h m
theorem IsS23.apart {w0 W : World} {g : Nat} {f0 : Int} {f1 : Int} {f2 : Int} {f3 : Int} {f4 : Int} {f5 : Int} {f6 : Int} {f7 : Int} {f8 : Int} {f9 : Int} {f10 : Int} {f11 : Int} {f12 : Int} {f13 : Int} {f14 : Bool} {f15 : Bool} {α : Type} {d : Kd α} {e : Nat} {base : Nat} {ok : Nat → Prop} {v : Value} {xs : List α} (h : IsS23 w0 W g f0 f1 f2 f3 f4 f5 f6 f7 f8 f9 f10 f11 f12 f13 f14 f15) (ho : d.R e W base ok v xs) (ht : ∀ q, q ∈ e :: d.E → q ≠ 23) : d.R e W base (fun k => ok k ∧ k ≠ g) v xs := by
  obtain ⟨hb, hg⟩ := h
  exact Kd.R_types ho hb ht
theorem IsS23.own_ne {w0 W : World} {g : Nat} {f0 : Int} {f1 : Int} {f2 : Int} {f3 : Int} {f4 : Int} {f5 : Int} {f6 : Int} {f7 : Int} {f8 : Int} {f9 : Int} {f10 : Int} {f11 : Int} {f12 : Int} {f13 : Int} {f14 : Bool} {f15 : Bool} {α : Type} {d : Kd α} {e : Nat} {base : Nat} {ok : Nat → Prop} {v : Value} {xs : List α} (h : IsS23 w0 W g f0 f1 f2 f3 f4 f5 f6 f7 f8 f9 f10 f11 f12 f13 f14 f15) (ho : d.R e W base ok v xs) (ht : e ≠ 23) : some g ≠ v.ownBlock := by
  obtain ⟨hb, hg⟩ := h
  exact Kd.R_ne ho hb ht
theorem IsS23.apartQ {w0 W : World} {g : Nat} {f0 : Int} {f1 : Int} {f2 : Int} {f3 : Int} {f4 : Int} {f5 : Int} {f6 : Int} {f7 : Int} {f8 : Int} {f9 : Int} {f10 : Int} {f11 : Int} {f12 : Int} {f13 : Int} {f14 : Bool} {f15 : Bool} {α : Type} {d : Kd α} {e : Nat} {base : Nat} {ok : Nat → Prop} {v : Value} {xs : List α} (h : IsS23 w0 W g f0 f1 f2 f3 f4 f5 f6 f7 f8 f9 f10 f11 f12 f13 f14 f15) (ho : d.Q e W base ok v xs) (ht : ∀ q, q ∈ e :: d.E → q ≠ 23) : d.Q e W base (fun k => ok k ∧ k ≠ g) v xs := by
  obtain ⟨hb, hg⟩ := h
  exact Kd.Q_types ho hb ht
theorem IsS23.own_neQ {w0 W : World} {g : Nat} {f0 : Int} {f1 : Int} {f2 : Int} {f3 : Int} {f4 : Int} {f5 : Int} {f6 : Int} {f7 : Int} {f8 : Int} {f9 : Int} {f10 : Int} {f11 : Int} {f12 : Int} {f13 : Int} {f14 : Bool} {f15 : Bool} {α : Type} {d : Kd α} {e : Nat} {base : Nat} {ok : Nat → Prop} {v : Value} {xs : List α} (h : IsS23 w0 W g f0 f1 f2 f3 f4 f5 f6 f7 f8 f9 f10 f11 f12 f13 f14 f15) (ho : d.Q e W base ok v xs) (ht : e ≠ 23) : some g ≠ v.ownBlock := by
  obtain ⟨hb, hg⟩ := h
  exact Kd.Q_ne ho hb ht
theorem IsS23.apartS {w0 W : World} {g : Nat} {f0 : Int} {f1 : Int} {f2 : Int} {f3 : Int} {f4 : Int} {f5 : Int} {f6 : Int} {f7 : Int} {f8 : Int} {f9 : Int} {f10 : Int} {f11 : Int} {f12 : Int} {f13 : Int} {f14 : Bool} {f15 : Bool} {α : Type} {d : Kd α} {e : Nat} {base : Nat} {ok : Nat → Prop} {v : Value} {xs : List α} (h : IsS23 w0 W g f0 f1 f2 f3 f4 f5 f6 f7 f8 f9 f10 f11 f12 f13 f14 f15) (ho : d.S e W base ok v xs) (ht : ∀ q, q ∈ e :: d.E → q ≠ 23) : d.S e W base (fun k => ok k ∧ k ≠ g) v xs := by
  obtain ⟨hb, hg⟩ := h
  exact Kd.S_types ho hb ht
theorem IsS23.own_neS {w0 W : World} {g : Nat} {f0 : Int} {f1 : Int} {f2 : Int} {f3 : Int} {f4 : Int} {f5 : Int} {f6 : Int} {f7 : Int} {f8 : Int} {f9 : Int} {f10 : Int} {f11 : Int} {f12 : Int} {f13 : Int} {f14 : Bool} {f15 : Bool} {α : Type} {d : Kd α} {e : Nat} {base : Nat} {ok : Nat → Prop} {v : Value} {xs : List α} (h : IsS23 w0 W g f0 f1 f2 f3 f4 f5 f6 f7 f8 f9 f10 f11 f12 f13 f14 f15) (ho : d.S e W base ok v xs) (ht : e ≠ 23) : some g ≠ v.ownBlock := by
  obtain ⟨hb, hg⟩ := h
  exact Kd.S_ne ho hb ht
theorem IsS23.lt {w0 W : World} {g : Nat} {f0 : Int} {f1 : Int} {f2 : Int} {f3 : Int} {f4 : Int} {f5 : Int} {f6 : Int} {f7 : Int} {f8 : Int} {f9 : Int} {f10 : Int} {f11 : Int} {f12 : Int} {f13 : Int} {f14 : Bool} {f15 : Bool} (h : IsS23 w0 W g f0 f1 f2 f3 f4 f5 f6 f7 f8 f9 f10 f11 f12 f13 f14 f15) : g < W.heap.size := by
  obtain ⟨hb, hg⟩ := h
  exact blk_lt hb
theorem IsS23.ge {w0 W : World} {g : Nat} {f0 : Int} {f1 : Int} {f2 : Int} {f3 : Int} {f4 : Int} {f5 : Int} {f6 : Int} {f7 : Int} {f8 : Int} {f9 : Int} {f10 : Int} {f11 : Int} {f12 : Int} {f13 : Int} {f14 : Bool} {f15 : Bool} (h : IsS23 w0 W g f0 f1 f2 f3 f4 f5 f6 f7 f8 f9 f10 f11 f12 f13 f14 f15) : w0.heap.size ≤ g := by
  obtain ⟨hb, hg⟩ := h
  exact hg
theorem IsS23.ne_blk {w0 W : World} {g : Nat} {f0 : Int} {f1 : Int} {f2 : Int} {f3 : Int} {f4 : Int} {f5 : Int} {f6 : Int} {f7 : Int} {f8 : Int} {f9 : Int} {f10 : Int} {f11 : Int} {f12 : Int} {f13 : Int} {f14 : Bool} {f15 : Bool} {a : Nat} {cs : Array Value} {t : TypeId} {fr : Nat × Nat} (h : IsS23 w0 W g f0 f1 f2 f3 f4 f5 f6 f7 f8 f9 f10 f11 f12 f13 f14 f15) (hb2 : W.heap[a]? = some (.cells cs t fr)) (ht : t ≠ 23) : g ≠ a := by
  obtain ⟨hb, hg⟩ := h
  rintro rfl
  rw [hb] at hb2
  injection hb2 with hb2
  injection hb2 with _ ht2
  exact ht ht2.symm
theorem IsS23.far {w0 W : World} {g : Nat} {f0 : Int} {f1 : Int} {f2 : Int} {f3 : Int} {f4 : Int} {f5 : Int} {f6 : Int} {f7 : Int} {f8 : Int} {f9 : Int} {f10 : Int} {f11 : Int} {f12 : Int} {f13 : Int} {f14 : Bool} {f15 : Bool} {p : Addr} (h : IsS23 w0 W g f0 f1 f2 f3 f4 f5 f6 f7 f8 f9 f10 f11 f12 f13 f14 f15) (hne : g ≠ p.block) (u : Value) : IsS23 w0 (W.setCell p u) g f0 f1 f2 f3 f4 f5 f6 f7 f8 f9 f10 f11 f12 f13 f14 f15 := by
  obtain ⟨hb, hg⟩ := h
  exact ⟨blk_far hb hne u, hg⟩
theorem cellS23_0 {W : World} {g : Nat} {f0 : Int} {f1 : Int} {f2 : Int} {f3 : Int} {f4 : Int} {f5 : Int} {f6 : Int} {f7 : Int} {f8 : Int} {f9 : Int} {f10 : Int} {f11 : Int} {f12 : Int} {f13 : Int} {f14 : Bool} {f15 : Bool} (h : W.heap[g]? = some (.cells #[.int .i64 f0, .int .i64 f1, .int .i64 f2, .int .i64 f3, .int .i64 f4, .int .i64 f5, .int .i64 f6, .int .i64 f7, .int .i64 f8, .int .i64 f9, .int .i64 f10, .int .i64 f11, .int .i64 f12, .int .i64 f13, .bool f14, .bool f15] 23 (0, 0))) : W.cell? ⟨g, 0, none⟩ = some (.int .i64 f0) := (blk_cell h 0).trans rfl
theorem IsS23.set_0 {w0 W : World} {g : Nat} {f0 : Int} {f1 : Int} {f2 : Int} {f3 : Int} {f4 : Int} {f5 : Int} {f6 : Int} {f7 : Int} {f8 : Int} {f9 : Int} {f10 : Int} {f11 : Int} {f12 : Int} {f13 : Int} {f14 : Bool} {f15 : Bool} (h : IsS23 w0 W g f0 f1 f2 f3 f4 f5 f6 f7 f8 f9 f10 f11 f12 f13 f14 f15) (x : Int) : IsS23 w0 (W.setCell ⟨g, 0, none⟩ (.int .i64 x)) g x f1 f2 f3 f4 f5 f6 f7 f8 f9 f10 f11 f12 f13 f14 f15 := by
  obtain ⟨hb, hg⟩ := h
  exact ⟨by simpa using blk_set hb 0 (.int .i64 x), hg⟩
theorem cellS23_1 {W : World} {g : Nat} {f0 : Int} {f1 : Int} {f2 : Int} {f3 : Int} {f4 : Int} {f5 : Int} {f6 : Int} {f7 : Int} {f8 : Int} {f9 : Int} {f10 : Int} {f11 : Int} {f12 : Int} {f13 : Int} {f14 : Bool} {f15 : Bool} (h : W.heap[g]? = some (.cells #[.int .i64 f0, .int .i64 f1, .int .i64 f2, .int .i64 f3, .int .i64 f4, .int .i64 f5, .int .i64 f6, .int .i64 f7, .int .i64 f8, .int .i64 f9, .int .i64 f10, .int .i64 f11, .int .i64 f12, .int .i64 f13, .bool f14, .bool f15] 23 (0, 0))) : W.cell? ⟨g, 1, none⟩ = some (.int .i64 f1) := (blk_cell h 1).trans rfl
theorem IsS23.set_1 {w0 W : World} {g : Nat} {f0 : Int} {f1 : Int} {f2 : Int} {f3 : Int} {f4 : Int} {f5 : Int} {f6 : Int} {f7 : Int} {f8 : Int} {f9 : Int} {f10 : Int} {f11 : Int} {f12 : Int} {f13 : Int} {f14 : Bool} {f15 : Bool} (h : IsS23 w0 W g f0 f1 f2 f3 f4 f5 f6 f7 f8 f9 f10 f11 f12 f13 f14 f15) (x : Int) : IsS23 w0 (W.setCell ⟨g, 1, none⟩ (.int .i64 x)) g f0 x f2 f3 f4 f5 f6 f7 f8 f9 f10 f11 f12 f13 f14 f15 := by
  obtain ⟨hb, hg⟩ := h
  exact ⟨by simpa using blk_set hb 1 (.int .i64 x), hg⟩
theorem cellS23_2 {W : World} {g : Nat} {f0 : Int} {f1 : Int} {f2 : Int} {f3 : Int} {f4 : Int} {f5 : Int} {f6 : Int} {f7 : Int} {f8 : Int} {f9 : Int} {f10 : Int} {f11 : Int} {f12 : Int} {f13 : Int} {f14 : Bool} {f15 : Bool} (h : W.heap[g]? = some (.cells #[.int .i64 f0, .int .i64 f1, .int .i64 f2, .int .i64 f3, .int .i64 f4, .int .i64 f5, .int .i64 f6, .int .i64 f7, .int .i64 f8, .int .i64 f9, .int .i64 f10, .int .i64 f11, .int .i64 f12, .int .i64 f13, .bool f14, .bool f15] 23 (0, 0))) : W.cell? ⟨g, 2, none⟩ = some (.int .i64 f2) := (blk_cell h 2).trans rfl
theorem IsS23.set_2 {w0 W : World} {g : Nat} {f0 : Int} {f1 : Int} {f2 : Int} {f3 : Int} {f4 : Int} {f5 : Int} {f6 : Int} {f7 : Int} {f8 : Int} {f9 : Int} {f10 : Int} {f11 : Int} {f12 : Int} {f13 : Int} {f14 : Bool} {f15 : Bool} (h : IsS23 w0 W g f0 f1 f2 f3 f4 f5 f6 f7 f8 f9 f10 f11 f12 f13 f14 f15) (x : Int) : IsS23 w0 (W.setCell ⟨g, 2, none⟩ (.int .i64 x)) g f0 f1 x f3 f4 f5 f6 f7 f8 f9 f10 f11 f12 f13 f14 f15 := by
  obtain ⟨hb, hg⟩ := h
  exact ⟨by simpa using blk_set hb 2 (.int .i64 x), hg⟩
theorem cellS23_3 {W : World} {g : Nat} {f0 : Int} {f1 : Int} {f2 : Int} {f3 : Int} {f4 : Int} {f5 : Int} {f6 : Int} {f7 : Int} {f8 : Int} {f9 : Int} {f10 : Int} {f11 : Int} {f12 : Int} {f13 : Int} {f14 : Bool} {f15 : Bool} (h : W.heap[g]? = some (.cells #[.int .i64 f0, .int .i64 f1, .int .i64 f2, .int .i64 f3, .int .i64 f4, .int .i64 f5, .int .i64 f6, .int .i64 f7, .int .i64 f8, .int .i64 f9, .int .i64 f10, .int .i64 f11, .int .i64 f12, .int .i64 f13, .bool f14, .bool f15] 23 (0, 0))) : W.cell? ⟨g, 3, none⟩ = some (.int .i64 f3) := (blk_cell h 3).trans rfl
theorem IsS23.set_3 {w0 W : World} {g : Nat} {f0 : Int} {f1 : Int} {f2 : Int} {f3 : Int} {f4 : Int} {f5 : Int} {f6 : Int} {f7 : Int} {f8 : Int} {f9 : Int} {f10 : Int} {f11 : Int} {f12 : Int} {f13 : Int} {f14 : Bool} {f15 : Bool} (h : IsS23 w0 W g f0 f1 f2 f3 f4 f5 f6 f7 f8 f9 f10 f11 f12 f13 f14 f15) (x : Int) : IsS23 w0 (W.setCell ⟨g, 3, none⟩ (.int .i64 x)) g f0 f1 f2 x f4 f5 f6 f7 f8 f9 f10 f11 f12 f13 f14 f15 := by
  obtain ⟨hb, hg⟩ := h
  exact ⟨by simpa using blk_set hb 3 (.int .i64 x), hg⟩
theorem cellS23_4 {W : World} {g : Nat} {f0 : Int} {f1 : Int} {f2 : Int} {f3 : Int} {f4 : Int} {f5 : Int} {f6 : Int} {f7 : Int} {f8 : Int} {f9 : Int} {f10 : Int} {f11 : Int} {f12 : Int} {f13 : Int} {f14 : Bool} {f15 : Bool} (h : W.heap[g]? = some (.cells #[.int .i64 f0, .int .i64 f1, .int .i64 f2, .int .i64 f3, .int .i64 f4, .int .i64 f5, .int .i64 f6, .int .i64 f7, .int .i64 f8, .int .i64 f9, .int .i64 f10, .int .i64 f11, .int .i64 f12, .int .i64 f13, .bool f14, .bool f15] 23 (0, 0))) : W.cell? ⟨g, 4, none⟩ = some (.int .i64 f4) := (blk_cell h 4).trans rfl
theorem IsS23.set_4 {w0 W : World} {g : Nat} {f0 : Int} {f1 : Int} {f2 : Int} {f3 : Int} {f4 : Int} {f5 : Int} {f6 : Int} {f7 : Int} {f8 : Int} {f9 : Int} {f10 : Int} {f11 : Int} {f12 : Int} {f13 : Int} {f14 : Bool} {f15 : Bool} (h : IsS23 w0 W g f0 f1 f2 f3 f4 f5 f6 f7 f8 f9 f10 f11 f12 f13 f14 f15) (x : Int) : IsS23 w0 (W.setCell ⟨g, 4, none⟩ (.int .i64 x)) g f0 f1 f2 f3 x f5 f6 f7 f8 f9 f10 f11 f12 f13 f14 f15 := by
  obtain ⟨hb, hg⟩ := h
  exact ⟨by simpa using blk_set hb 4 (.int .i64 x), hg⟩
theorem cellS23_5 {W : World} {g : Nat} {f0 : Int} {f1 : Int} {f2 : Int} {f3 : Int} {f4 : Int} {f5 : Int} {f6 : Int} {f7 : Int} {f8 : Int} {f9 : Int} {f10 : Int} {f11 : Int} {f12 : Int} {f13 : Int} {f14 : Bool} {f15 : Bool} (h : W.heap[g]? = some (.cells #[.int .i64 f0, .int .i64 f1, .int .i64 f2, .int .i64 f3, .int .i64 f4, .int .i64 f5, .int .i64 f6, .int .i64 f7, .int .i64 f8, .int .i64 f9, .int .i64 f10, .int .i64 f11, .int .i64 f12, .int .i64 f13, .bool f14, .bool f15] 23 (0, 0))) : W.cell? ⟨g, 5, none⟩ = some (.int .i64 f5) := (blk_cell h 5).trans rfl
theorem IsS23.set_5 {w0 W : World} {g : Nat} {f0 : Int} {f1 : Int} {f2 : Int} {f3 : Int} {f4 : Int} {f5 : Int} {f6 : Int} {f7 : Int} {f8 : Int} {f9 : Int} {f10 : Int} {f11 : Int} {f12 : Int} {f13 : Int} {f14 : Bool} {f15 : Bool} (h : IsS23 w0 W g f0 f1 f2 f3 f4 f5 f6 f7 f8 f9 f10 f11 f12 f13 f14 f15) (x : Int) : IsS23 w0 (W.setCell ⟨g, 5, none⟩ (.int .i64 x)) g f0 f1 f2 f3 f4 x f6 f7 f8 f9 f10 f11 f12 f13 f14 f15 := by
  obtain ⟨hb, hg⟩ := h
  exact ⟨by simpa using blk_set hb 5 (.int .i64 x), hg⟩
theorem cellS23_6 {W : World} {g : Nat} {f0 : Int} {f1 : Int} {f2 : Int} {f3 : Int} {f4 : Int} {f5 : Int} {f6 : Int} {f7 : Int} {f8 : Int} {f9 : Int} {f10 : Int} {f11 : Int} {f12 : Int} {f13 : Int} {f14 : Bool} {f15 : Bool} (h : W.heap[g]? = some (.cells #[.int .i64 f0, .int .i64 f1, .int .i64 f2, .int .i64 f3, .int .i64 f4, .int .i64 f5, .int .i64 f6, .int .i64 f7, .int .i64 f8, .int .i64 f9, .int .i64 f10, .int .i64 f11, .int .i64 f12, .int .i64 f13, .bool f14, .bool f15] 23 (0, 0))) : W.cell? ⟨g, 6, none⟩ = some (.int .i64 f6) := (blk_cell h 6).trans rfl
theorem IsS23.set_6 {w0 W : World} {g : Nat} {f0 : Int} {f1 : Int} {f2 : Int} {f3 : Int} {f4 : Int} {f5 : Int} {f6 : Int} {f7 : Int} {f8 : Int} {f9 : Int} {f10 : Int} {f11 : Int} {f12 : Int} {f13 : Int} {f14 : Bool} {f15 : Bool} (h : IsS23 w0 W g f0 f1 f2 f3 f4 f5 f6 f7 f8 f9 f10 f11 f12 f13 f14 f15) (x : Int) : IsS23 w0 (W.setCell ⟨g, 6, none⟩ (.int .i64 x)) g f0 f1 f2 f3 f4 f5 x f7 f8 f9 f10 f11 f12 f13 f14 f15 := by
  obtain ⟨hb, hg⟩ := h
  exact ⟨by simpa using blk_set hb 6 (.int .i64 x), hg⟩
theorem cellS23_7 {W : World} {g : Nat} {f0 : Int} {f1 : Int} {f2 : Int} {f3 : Int} {f4 : Int} {f5 : Int} {f6 : Int} {f7 : Int} {f8 : Int} {f9 : Int} {f10 : Int} {f11 : Int} {f12 : Int} {f13 : Int} {f14 : Bool} {f15 : Bool} (h : W.heap[g]? = some (.cells #[.int .i64 f0, .int .i64 f1, .int .i64 f2, .int .i64 f3, .int .i64 f4, .int .i64 f5, .int .i64 f6, .int .i64 f7, .int .i64 f8, .int .i64 f9, .int .i64 f10, .int .i64 f11, .int .i64 f12, .int .i64 f13, .bool f14, .bool f15] 23 (0, 0))) : W.cell? ⟨g, 7, none⟩ = some (.int .i64 f7) := (blk_cell h 7).trans rfl
theorem IsS23.set_7 {w0 W : World} {g : Nat} {f0 : Int} {f1 : Int} {f2 : Int} {f3 : Int} {f4 : Int} {f5 : Int} {f6 : Int} {f7 : Int} {f8 : Int} {f9 : Int} {f10 : Int} {f11 : Int} {f12 : Int} {f13 : Int} {f14 : Bool} {f15 : Bool} (h : IsS23 w0 W g f0 f1 f2 f3 f4 f5 f6 f7 f8 f9 f10 f11 f12 f13 f14 f15) (x : Int) : IsS23 w0 (W.setCell ⟨g, 7, none⟩ (.int .i64 x)) g f0 f1 f2 f3 f4 f5 f6 x f8 f9 f10 f11 f12 f13 f14 f15 := by
  obtain ⟨hb, hg⟩ := h
  exact ⟨by simpa using blk_set hb 7 (.int .i64 x), hg⟩
theorem cellS23_8 {W : World} {g : Nat} {f0 : Int} {f1 : Int} {f2 : Int} {f3 : Int} {f4 : Int} {f5 : Int} {f6 : Int} {f7 : Int} {f8 : Int} {f9 : Int} {f10 : Int} {f11 : Int} {f12 : Int} {f13 : Int} {f14 : Bool} {f15 : Bool} (h : W.heap[g]? = some (.cells #[.int .i64 f0, .int .i64 f1, .int .i64 f2, .int .i64 f3, .int .i64 f4, .int .i64 f5, .int .i64 f6, .int .i64 f7, .int .i64 f8, .int .i64 f9, .int .i64 f10, .int .i64 f11, .int .i64 f12, .int .i64 f13, .bool f14, .bool f15] 23 (0, 0))) : W.cell? ⟨g, 8, none⟩ = some (.int .i64 f8) := (blk_cell h 8).trans rfl
theorem IsS23.set_8 {w0 W : World} {g : Nat} {f0 : Int} {f1 : Int} {f2 : Int} {f3 : Int} {f4 : Int} {f5 : Int} {f6 : Int} {f7 : Int} {f8 : Int} {f9 : Int} {f10 : Int} {f11 : Int} {f12 : Int} {f13 : Int} {f14 : Bool} {f15 : Bool} (h : IsS23 w0 W g f0 f1 f2 f3 f4 f5 f6 f7 f8 f9 f10 f11 f12 f13 f14 f15) (x : Int) : IsS23 w0 (W.setCell ⟨g, 8, none⟩ (.int .i64 x)) g f0 f1 f2 f3 f4 f5 f6 f7 x f9 f10 f11 f12 f13 f14 f15 := by
  obtain ⟨hb, hg⟩ := h
  exact ⟨by simpa using blk_set hb 8 (.int .i64 x), hg⟩
theorem cellS23_9 {W : World} {g : Nat} {f0 : Int} {f1 : Int} {f2 : Int} {f3 : Int} {f4 : Int} {f5 : Int} {f6 : Int} {f7 : Int} {f8 : Int} {f9 : Int} {f10 : Int} {f11 : Int} {f12 : Int} {f13 : Int} {f14 : Bool} {f15 : Bool} (h : W.heap[g]? = some (.cells #[.int .i64 f0, .int .i64 f1, .int .i64 f2, .int .i64 f3, .int .i64 f4, .int .i64 f5, .int .i64 f6, .int .i64 f7, .int .i64 f8, .int .i64 f9, .int .i64 f10, .int .i64 f11, .int .i64 f12, .int .i64 f13, .bool f14, .bool f15] 23 (0, 0))) : W.cell? ⟨g, 9, none⟩ = some (.int .i64 f9) := (blk_cell h 9).trans rfl
theorem IsS23.set_9 {w0 W : World} {g : Nat} {f0 : Int} {f1 : Int} {f2 : Int} {f3 : Int} {f4 : Int} {f5 : Int} {f6 : Int} {f7 : Int} {f8 : Int} {f9 : Int} {f10 : Int} {f11 : Int} {f12 : Int} {f13 : Int} {f14 : Bool} {f15 : Bool} (h : IsS23 w0 W g f0 f1 f2 f3 f4 f5 f6 f7 f8 f9 f10 f11 f12 f13 f14 f15) (x : Int) : IsS23 w0 (W.setCell ⟨g, 9, none⟩ (.int .i64 x)) g f0 f1 f2 f3 f4 f5 f6 f7 f8 x f10 f11 f12 f13 f14 f15 := by
  obtain ⟨hb, hg⟩ := h
  exact ⟨by simpa using blk_set hb 9 (.int .i64 x), hg⟩
theorem cellS23_10 {W : World} {g : Nat} {f0 : Int} {f1 : Int} {f2 : Int} {f3 : Int} {f4 : Int} {f5 : Int} {f6 : Int} {f7 : Int} {f8 : Int} {f9 : Int} {f10 : Int} {f11 : Int} {f12 : Int} {f13 : Int} {f14 : Bool} {f15 : Bool} (h : W.heap[g]? = some (.cells #[.int .i64 f0, .int .i64 f1, .int .i64 f2, .int .i64 f3, .int .i64 f4, .int .i64 f5, .int .i64 f6, .int .i64 f7, .int .i64 f8, .int .i64 f9, .int .i64 f10, .int .i64 f11, .int .i64 f12, .int .i64 f13, .bool f14, .bool f15] 23 (0, 0))) : W.cell? ⟨g, 10, none⟩ = some (.int .i64 f10) := (blk_cell h 10).trans rfl
theorem IsS23.set_10 {w0 W : World} {g : Nat} {f0 : Int} {f1 : Int} {f2 : Int} {f3 : Int} {f4 : Int} {f5 : Int} {f6 : Int} {f7 : Int} {f8 : Int} {f9 : Int} {f10 : Int} {f11 : Int} {f12 : Int} {f13 : Int} {f14 : Bool} {f15 : Bool} (h : IsS23 w0 W g f0 f1 f2 f3 f4 f5 f6 f7 f8 f9 f10 f11 f12 f13 f14 f15) (x : Int) : IsS23 w0 (W.setCell ⟨g, 10, none⟩ (.int .i64 x)) g f0 f1 f2 f3 f4 f5 f6 f7 f8 f9 x f11 f12 f13 f14 f15 := by
  obtain ⟨hb, hg⟩ := h
  exact ⟨by simpa using blk_set hb 10 (.int .i64 x), hg⟩
theorem cellS23_11 {W : World} {g : Nat} {f0 : Int} {f1 : Int} {f2 : Int} {f3 : Int} {f4 : Int} {f5 : Int} {f6 : Int} {f7 : Int} {f8 : Int} {f9 : Int} {f10 : Int} {f11 : Int} {f12 : Int} {f13 : Int} {f14 : Bool} {f15 : Bool} (h : W.heap[g]? = some (.cells #[.int .i64 f0, .int .i64 f1, .int .i64 f2, .int .i64 f3, .int .i64 f4, .int .i64 f5, .int .i64 f6, .int .i64 f7, .int .i64 f8, .int .i64 f9, .int .i64 f10, .int .i64 f11, .int .i64 f12, .int .i64 f13, .bool f14, .bool f15] 23 (0, 0))) : W.cell? ⟨g, 11, none⟩ = some (.int .i64 f11) := (blk_cell h 11).trans rfl
theorem IsS23.set_11 {w0 W : World} {g : Nat} {f0 : Int} {f1 : Int} {f2 : Int} {f3 : Int} {f4 : Int} {f5 : Int} {f6 : Int} {f7 : Int} {f8 : Int} {f9 : Int} {f10 : Int} {f11 : Int} {f12 : Int} {f13 : Int} {f14 : Bool} {f15 : Bool} (h : IsS23 w0 W g f0 f1 f2 f3 f4 f5 f6 f7 f8 f9 f10 f11 f12 f13 f14 f15) (x : Int) : IsS23 w0 (W.setCell ⟨g, 11, none⟩ (.int .i64 x)) g f0 f1 f2 f3 f4 f5 f6 f7 f8 f9 f10 x f12 f13 f14 f15 := by
  obtain ⟨hb, hg⟩ := h
  exact ⟨by simpa using blk_set hb 11 (.int .i64 x), hg⟩
theorem cellS23_12 {W : World} {g : Nat} {f0 : Int} {f1 : Int} {f2 : Int} {f3 : Int} {f4 : Int} {f5 : Int} {f6 : Int} {f7 : Int} {f8 : Int} {f9 : Int} {f10 : Int} {f11 : Int} {f12 : Int} {f13 : Int} {f14 : Bool} {f15 : Bool} (h : W.heap[g]? = some (.cells #[.int .i64 f0, .int .i64 f1, .int .i64 f2, .int .i64 f3, .int .i64 f4, .int .i64 f5, .int .i64 f6, .int .i64 f7, .int .i64 f8, .int .i64 f9, .int .i64 f10, .int .i64 f11, .int .i64 f12, .int .i64 f13, .bool f14, .bool f15] 23 (0, 0))) : W.cell? ⟨g, 12, none⟩ = some (.int .i64 f12) := (blk_cell h 12).trans rfl
theorem IsS23.set_12 {w0 W : World} {g : Nat} {f0 : Int} {f1 : Int} {f2 : Int} {f3 : Int} {f4 : Int} {f5 : Int} {f6 : Int} {f7 : Int} {f8 : Int} {f9 : Int} {f10 : Int} {f11 : Int} {f12 : Int} {f13 : Int} {f14 : Bool} {f15 : Bool} (h : IsS23 w0 W g f0 f1 f2 f3 f4 f5 f6 f7 f8 f9 f10 f11 f12 f13 f14 f15) (x : Int) : IsS23 w0 (W.setCell ⟨g, 12, none⟩ (.int .i64 x)) g f0 f1 f2 f3 f4 f5 f6 f7 f8 f9 f10 f11 x f13 f14 f15 := by
  obtain ⟨hb, hg⟩ := h
  exact ⟨by simpa using blk_set hb 12 (.int .i64 x), hg⟩
theorem cellS23_13 {W : World} {g : Nat} {f0 : Int} {f1 : Int} {f2 : Int} {f3 : Int} {f4 : Int} {f5 : Int} {f6 : Int} {f7 : Int} {f8 : Int} {f9 : Int} {f10 : Int} {f11 : Int} {f12 : Int} {f13 : Int} {f14 : Bool} {f15 : Bool} (h : W.heap[g]? = some (.cells #[.int .i64 f0, .int .i64 f1, .int .i64 f2, .int .i64 f3, .int .i64 f4, .int .i64 f5, .int .i64 f6, .int .i64 f7, .int .i64 f8, .int .i64 f9, .int .i64 f10, .int .i64 f11, .int .i64 f12, .int .i64 f13, .bool f14, .bool f15] 23 (0, 0))) : W.cell? ⟨g, 13, none⟩ = some (.int .i64 f13) := (blk_cell h 13).trans rfl
theorem IsS23.set_13 {w0 W : World} {g : Nat} {f0 : Int} {f1 : Int} {f2 : Int} {f3 : Int} {f4 : Int} {f5 : Int} {f6 : Int} {f7 : Int} {f8 : Int} {f9 : Int} {f10 : Int} {f11 : Int} {f12 : Int} {f13 : Int} {f14 : Bool} {f15 : Bool} (h : IsS23 w0 W g f0 f1 f2 f3 f4 f5 f6 f7 f8 f9 f10 f11 f12 f13 f14 f15) (x : Int) : IsS23 w0 (W.setCell ⟨g, 13, none⟩ (.int .i64 x)) g f0 f1 f2 f3 f4 f5 f6 f7 f8 f9 f10 f11 f12 x f14 f15 := by
  obtain ⟨hb, hg⟩ := h
  exact ⟨by simpa using blk_set hb 13 (.int .i64 x), hg⟩
theorem cellS23_14 {W : World} {g : Nat} {f0 : Int} {f1 : Int} {f2 : Int} {f3 : Int} {f4 : Int} {f5 : Int} {f6 : Int} {f7 : Int} {f8 : Int} {f9 : Int} {f10 : Int} {f11 : Int} {f12 : Int} {f13 : Int} {f14 : Bool} {f15 : Bool} (h : W.heap[g]? = some (.cells #[.int .i64 f0, .int .i64 f1, .int .i64 f2, .int .i64 f3, .int .i64 f4, .int .i64 f5, .int .i64 f6, .int .i64 f7, .int .i64 f8, .int .i64 f9, .int .i64 f10, .int .i64 f11, .int .i64 f12, .int .i64 f13, .bool f14, .bool f15] 23 (0, 0))) : W.cell? ⟨g, 14, none⟩ = some (.bool f14) := (blk_cell h 14).trans rfl
theorem IsS23.set_14 {w0 W : World} {g : Nat} {f0 : Int} {f1 : Int} {f2 : Int} {f3 : Int} {f4 : Int} {f5 : Int} {f6 : Int} {f7 : Int} {f8 : Int} {f9 : Int} {f10 : Int} {f11 : Int} {f12 : Int} {f13 : Int} {f14 : Bool} {f15 : Bool} (h : IsS23 w0 W g f0 f1 f2 f3 f4 f5 f6 f7 f8 f9 f10 f11 f12 f13 f14 f15) (x : Bool) : IsS23 w0 (W.setCell ⟨g, 14, none⟩ (.bool x)) g f0 f1 f2 f3 f4 f5 f6 f7 f8 f9 f10 f11 f12 f13 x f15 := by
  obtain ⟨hb, hg⟩ := h
  exact ⟨by simpa using blk_set hb 14 (.bool x), hg⟩
theorem cellS23_15 {W : World} {g : Nat} {f0 : Int} {f1 : Int} {f2 : Int} {f3 : Int} {f4 : Int} {f5 : Int} {f6 : Int} {f7 : Int} {f8 : Int} {f9 : Int} {f10 : Int} {f11 : Int} {f12 : Int} {f13 : Int} {f14 : Bool} {f15 : Bool} (h : W.heap[g]? = some (.cells #[.int .i64 f0, .int .i64 f1, .int .i64 f2, .int .i64 f3, .int .i64 f4, .int .i64 f5, .int .i64 f6, .int .i64 f7, .int .i64 f8, .int .i64 f9, .int .i64 f10, .int .i64 f11, .int .i64 f12, .int .i64 f13, .bool f14, .bool f15] 23 (0, 0))) : W.cell? ⟨g, 15, none⟩ = some (.bool f15) := (blk_cell h 15).trans rfl
theorem IsS23.set_15 {w0 W : World} {g : Nat} {f0 : Int} {f1 : Int} {f2 : Int} {f3 : Int} {f4 : Int} {f5 : Int} {f6 : Int} {f7 : Int} {f8 : Int} {f9 : Int} {f10 : Int} {f11 : Int} {f12 : Int} {f13 : Int} {f14 : Bool} {f15 : Bool} (h : IsS23 w0 W g f0 f1 f2 f3 f4 f5 f6 f7 f8 f9 f10 f11 f12 f13 f14 f15) (x : Bool) : IsS23 w0 (W.setCell ⟨g, 15, none⟩ (.bool x)) g f0 f1 f2 f3 f4 f5 f6 f7 f8 f9 f10 f11 f12 f13 f14 x := by
  obtain ⟨hb, hg⟩ := h
  exact ⟨by simpa using blk_set hb 15 (.bool x), hg⟩
theorem IsS23.new (w0 W : World) (f0 : Int) (f1 : Int) (f2 : Int) (f3 : Int) (f4 : Int) (f5 : Int) (f6 : Int) (f7 : Int) (f8 : Int) (f9 : Int) (f10 : Int) (f11 : Int) (f12 : Int) (f13 : Int) (f14 : Bool) (f15 : Bool) (hB : Below w0.heap.size w0 W) : IsS23 w0 (W.alloc (.cells #[.int .i64 f0, .int .i64 f1, .int .i64 f2, .int .i64 f3, .int .i64 f4, .int .i64 f5, .int .i64 f6, .int .i64 f7, .int .i64 f8, .int .i64 f9, .int .i64 f10, .int .i64 f11, .int .i64 f12, .int .i64 f13, .bool f14, .bool f15] 23)) W.heap.size f0 f1 f2 f3 f4 f5 f6 f7 f8 f9 f10 f11 f12 f13 f14 f15 := ⟨by simpa using heap_alloc_new W _, hB.size⟩

/-! ### signalmanlaw19_set: function 13 -/
def signalmanlaw19_set.f (s0_0 : Int) (s0_1 : Int) (s0_2 : Int) (s0_3 : Int) (s0_4 : Int) (s0_5 : Int) (s0_6 : Int) (s0_7 : Int) (s0_8 : Int) (s0_9 : Int) (s0_10 : Int) (s0_11 : Int) (s0_12 : Int) (s0_13 : Int) (s0_14 : Bool) (s0_15 : Bool) (a1 : Int) (a2 : Int) : Option (Int × Int × Int × Int × Int × Int × Int × Int × Int × Int × Int × Int × Int × Int × Bool × Bool) := if a1 = 0 then (some (a2, s0_1, s0_2, s0_3, s0_4, s0_5, s0_6, s0_7, s0_8, s0_9, s0_10, s0_11, s0_12, s0_13, s0_14, s0_15)) else (if a1 = 1 then (some (s0_0, s0_1, a2, s0_3, s0_4, s0_5, s0_6, s0_7, s0_8, s0_9, s0_10, s0_11, s0_12, s0_13, s0_14, s0_15)) else (if a1 = 2 then (some (s0_0, s0_1, s0_2, a2, s0_4, s0_5, s0_6, s0_7, s0_8, s0_9, s0_10, s0_11, s0_12, s0_13, s0_14, s0_15)) else (if a1 = 3 then (some (s0_0, s0_1, s0_2, s0_3, a2, s0_5, s0_6, s0_7, s0_8, s0_9, s0_10, s0_11, s0_12, s0_13, s0_14, s0_15)) else (if a1 = 4 then (some (s0_0, s0_1, s0_2, s0_3, s0_4, a2, s0_6, s0_7, s0_8, s0_9, s0_10, s0_11, s0_12, s0_13, s0_14, s0_15)) else (if a1 = 5 then (some (s0_0, s0_1, s0_2, s0_3, s0_4, s0_5, a2, s0_7, s0_8, s0_9, s0_10, s0_11, s0_12, s0_13, s0_14, s0_15)) else (if a1 = 6 then (some (s0_0, s0_1, s0_2, s0_3, s0_4, s0_5, s0_6, a2, s0_8, s0_9, s0_10, s0_11, s0_12, s0_13, s0_14, s0_15)) else (if a1 = 7 then (some (s0_0, s0_1, s0_2, s0_3, s0_4, s0_5, s0_6, s0_7, a2, s0_9, s0_10, s0_11, s0_12, s0_13, s0_14, s0_15)) else (if a1 = 8 then (some (s0_0, s0_1, s0_2, s0_3, s0_4, s0_5, s0_6, s0_7, s0_8, a2, 1048576, s0_11, s0_12, s0_13, s0_14, s0_15)) else (if a1 = 9 then (some (s0_0, s0_1, s0_2, s0_3, s0_4, s0_5, s0_6, s0_7, s0_8, s0_9, a2, s0_11, s0_12, s0_13, s0_14, s0_15)) else (if a1 = 10 then (some (s0_0, s0_1, s0_2, s0_3, s0_4, s0_5, s0_6, s0_7, s0_8, s0_9, s0_10, a2, s0_12, s0_13, s0_14, s0_15)) else (if a1 = 11 then (some (s0_0, s0_1, s0_2, s0_3, s0_4, s0_5, s0_6, s0_7, s0_8, s0_9, s0_10, s0_11, a2, s0_13, s0_14, s0_15)) else (some (s0_0, s0_1, s0_2, s0_3, s0_4, s0_5, s0_6, s0_7, s0_8, s0_9, s0_10, s0_11, s0_12, a2, s0_14, s0_15)))))))))))))
set_option maxHeartbeats 8000000 in
set_option maxRecDepth 100000 in
theorem signalmanlaw19_set.calls (g : Nat) (s0_0 : Int) (s0_1 : Int) (s0_2 : Int) (s0_3 : Int) (s0_4 : Int) (s0_5 : Int) (s0_6 : Int) (s0_7 : Int) (s0_8 : Int) (s0_9 : Int) (s0_10 : Int) (s0_11 : Int) (s0_12 : Int) (s0_13 : Int) (s0_14 : Bool) (s0_15 : Bool) (a1 : Int) (a2 : Int) (r1 : Int) (r2 : Int) (r3 : Int) (r4 : Int) (r5 : Int) (r6 : Int) (r7 : Int) (r8 : Int) (r9 : Int) (r10 : Int) (r11 : Int) (r12 : Int) (r13 : Int) (r14 : Int) (r15 : Bool) (r16 : Bool) (w0 w : World) (hI : IsS23 w0 w g s0_0 s0_1 s0_2 s0_3 s0_4 s0_5 s0_6 s0_7 s0_8 s0_9 s0_10 s0_11 s0_12 s0_13 s0_14 s0_15) (hB : Below w0.heap.size w0 w) (h : signalmanlaw19_set.f s0_0 s0_1 s0_2 s0_3 s0_4 s0_5 s0_6 s0_7 s0_8 s0_9 s0_10 s0_11 s0_12 s0_13 s0_14 s0_15 a1 a2 = some (r1, r2, r3, r4, r5, r6, r7, r8, r9, r10, r11, r12, r13, r14, r15, r16)) :
    Calls Try.prog 13 #[.pointer (some ⟨g, 0, none⟩), .int .i64 a1, .int .i64 a2] w fun e w' => e = .returned (.tuple #[]) ∧ IsS23 w0 w' g r1 r2 r3 r4 r5 r6 r7 r8 r9 r10 r11 r12 r13 r14 r15 r16 ∧ Below w0.heap.size w0 w' ∧ KeepBut w w' g none := by
  have HI0 := Aside0.mk hI
  have HK := Aside0.mk (KeepBut.refl w g none)
  have HL := Aside0.mk hB.size
  clear hI
  have HW0 := Aside0.mk hB.size
  have HB := Aside0.mk hB
  clear hB
  have H : (if a1 = 0 then (some (a2, s0_1, s0_2, s0_3, s0_4, s0_5, s0_6, s0_7, s0_8, s0_9, s0_10, s0_11, s0_12, s0_13, s0_14, s0_15)) else (if a1 = 1 then (some (s0_0, s0_1, a2, s0_3, s0_4, s0_5, s0_6, s0_7, s0_8, s0_9, s0_10, s0_11, s0_12, s0_13, s0_14, s0_15)) else (if a1 = 2 then (some (s0_0, s0_1, s0_2, a2, s0_4, s0_5, s0_6, s0_7, s0_8, s0_9, s0_10, s0_11, s0_12, s0_13, s0_14, s0_15)) else (if a1 = 3 then (some (s0_0, s0_1, s0_2, s0_3, a2, s0_5, s0_6, s0_7, s0_8, s0_9, s0_10, s0_11, s0_12, s0_13, s0_14, s0_15)) else (if a1 = 4 then (some (s0_0, s0_1, s0_2, s0_3, s0_4, a2, s0_6, s0_7, s0_8, s0_9, s0_10, s0_11, s0_12, s0_13, s0_14, s0_15)) else (if a1 = 5 then (some (s0_0, s0_1, s0_2, s0_3, s0_4, s0_5, a2, s0_7, s0_8, s0_9, s0_10, s0_11, s0_12, s0_13, s0_14, s0_15)) else (if a1 = 6 then (some (s0_0, s0_1, s0_2, s0_3, s0_4, s0_5, s0_6, a2, s0_8, s0_9, s0_10, s0_11, s0_12, s0_13, s0_14, s0_15)) else (if a1 = 7 then (some (s0_0, s0_1, s0_2, s0_3, s0_4, s0_5, s0_6, s0_7, a2, s0_9, s0_10, s0_11, s0_12, s0_13, s0_14, s0_15)) else (if a1 = 8 then (some (s0_0, s0_1, s0_2, s0_3, s0_4, s0_5, s0_6, s0_7, s0_8, a2, 1048576, s0_11, s0_12, s0_13, s0_14, s0_15)) else (if a1 = 9 then (some (s0_0, s0_1, s0_2, s0_3, s0_4, s0_5, s0_6, s0_7, s0_8, s0_9, a2, s0_11, s0_12, s0_13, s0_14, s0_15)) else (if a1 = 10 then (some (s0_0, s0_1, s0_2, s0_3, s0_4, s0_5, s0_6, s0_7, s0_8, s0_9, s0_10, a2, s0_12, s0_13, s0_14, s0_15)) else (if a1 = 11 then (some (s0_0, s0_1, s0_2, s0_3, s0_4, s0_5, s0_6, s0_7, s0_8, s0_9, s0_10, s0_11, a2, s0_13, s0_14, s0_15)) else (some (s0_0, s0_1, s0_2, s0_3, s0_4, s0_5, s0_6, s0_7, s0_8, s0_9, s0_10, s0_11, s0_12, a2, s0_14, s0_15)))))))))))))) = some (r1, r2, r3, r4, r5, r6, r7, r8, r9, r10, r11, r12, r13, r14, r15, r16) := h
  clear h
  by_cases c4 : a1 = 0
  · rw [if_pos c4] at H
    have c4b0 : (a1 == 0) = true := beq_iff_eq.mpr c4
    have c4b1 : (a1 != 0) = false := bne_eq_false_iff_eq.mpr c4
    clear c4
    simp only [Option.some.injEq, Prod.mk.injEq] at H
    obtain ⟨rfl, rfl, rfl, rfl, rfl, rfl, rfl, rfl, rfl, rfl, rfl, rfl, rfl, rfl, rfl, rfl⟩ := H
    obtain ⟨HGz5, hgz5⟩ := HI0.out
    have hcz5_0 := cellS23_0 HGz5
    have hcz5_1 := cellS23_1 HGz5
    have hcz5_2 := cellS23_2 HGz5
    have hcz5_3 := cellS23_3 HGz5
    have hcz5_4 := cellS23_4 HGz5
    have hcz5_5 := cellS23_5 HGz5
    have hcz5_6 := cellS23_6 HGz5
    have hcz5_7 := cellS23_7 HGz5
    have hcz5_8 := cellS23_8 HGz5
    have hcz5_9 := cellS23_9 HGz5
    have hcz5_10 := cellS23_10 HGz5
    have hcz5_11 := cellS23_11 HGz5
    have hcz5_12 := cellS23_12 HGz5
    have hcz5_13 := cellS23_13 HGz5
    have hcz5_14 := cellS23_14 HGz5
    have hcz5_15 := cellS23_15 HGz5
    have hfz5_0 := blk_frozen HGz5 0
    have hfz5_1 := blk_frozen HGz5 1
    have hfz5_2 := blk_frozen HGz5 2
    have hfz5_3 := blk_frozen HGz5 3
    have hfz5_4 := blk_frozen HGz5 4
    have hfz5_5 := blk_frozen HGz5 5
    have hfz5_6 := blk_frozen HGz5 6
    have hfz5_7 := blk_frozen HGz5 7
    have hfz5_8 := blk_frozen HGz5 8
    have hfz5_9 := blk_frozen HGz5 9
    have hfz5_10 := blk_frozen HGz5 10
    have hfz5_11 := blk_frozen HGz5 11
    have hfz5_12 := blk_frozen HGz5 12
    have hfz5_13 := blk_frozen HGz5 13
    have hfz5_14 := blk_frozen HGz5 14
    have hfz5_15 := blk_frozen HGz5 15
    clear HGz5 hgz5
    go_enter Try.func13, Try.ntmps13
    go_wp2
    first | go_end0 | ((try simp only [Exit.inBlock, Exit.then]); refine bodyPost_ret (results_none rfl _ _ _) rfl ?_)
    exact ⟨by first | rfl | (simp [errW_none, errW_some] <;> rfl) | (simp [*, errW_none, errW_some] <;> rfl), by repeat (first | (with_reducible first | exact HI0.out | apply IsS23.alloc | apply IsS23.drewN | apply IsS23.drew | apply IsS23.set_0 | apply IsS23.set_1 | apply IsS23.set_2 | apply IsS23.set_3 | apply IsS23.set_4 | apply IsS23.set_5 | apply IsS23.set_6 | apply IsS23.set_7 | apply IsS23.set_8 | apply IsS23.set_9 | apply IsS23.set_10 | apply IsS23.set_11 | apply IsS23.set_12 | apply IsS23.set_13 | apply IsS23.set_14 | apply IsS23.set_15) | exact HI0.out), by repeat (first | (with_reducible first | exact HB.out | apply below_alloc | apply pw_below_drewN | apply below_drew1 | refine below_set ?_ (IsS23.ge HI0.out)) | exact HB.out), by repeat (first | (with_reducible first | exact HK.out | apply KeepBut.set_ | apply keep_drewN | apply keep_drew | apply keep_alloc) | exact HK.out)⟩
  · rw [if_neg c4] at H
    have c4b0 : (a1 == 0) = false := beq_eq_false_iff_ne.mpr c4
    have c4b1 : (a1 != 0) = true := bne_iff_ne.mpr c4
    by_cases c6 : a1 = 1
    · rw [if_pos c6] at H
      have c6b0 : (a1 == 1) = true := beq_iff_eq.mpr c6
      have c6b1 : (a1 != 1) = false := bne_eq_false_iff_eq.mpr c6
      clear c6
      simp only [Option.some.injEq, Prod.mk.injEq] at H
      obtain ⟨rfl, rfl, rfl, rfl, rfl, rfl, rfl, rfl, rfl, rfl, rfl, rfl, rfl, rfl, rfl, rfl⟩ := H
      obtain ⟨HGz7, hgz7⟩ := HI0.out
      have hcz7_0 := cellS23_0 HGz7
      have hcz7_1 := cellS23_1 HGz7
      have hcz7_2 := cellS23_2 HGz7
      have hcz7_3 := cellS23_3 HGz7
      have hcz7_4 := cellS23_4 HGz7
      have hcz7_5 := cellS23_5 HGz7
      have hcz7_6 := cellS23_6 HGz7
      have hcz7_7 := cellS23_7 HGz7
      have hcz7_8 := cellS23_8 HGz7
      have hcz7_9 := cellS23_9 HGz7
      have hcz7_10 := cellS23_10 HGz7
      have hcz7_11 := cellS23_11 HGz7
      have hcz7_12 := cellS23_12 HGz7
      have hcz7_13 := cellS23_13 HGz7
      have hcz7_14 := cellS23_14 HGz7
      have hcz7_15 := cellS23_15 HGz7
      have hfz7_0 := blk_frozen HGz7 0
      have hfz7_1 := blk_frozen HGz7 1
      have hfz7_2 := blk_frozen HGz7 2
      have hfz7_3 := blk_frozen HGz7 3
      have hfz7_4 := blk_frozen HGz7 4
      have hfz7_5 := blk_frozen HGz7 5
      have hfz7_6 := blk_frozen HGz7 6
      have hfz7_7 := blk_frozen HGz7 7
      have hfz7_8 := blk_frozen HGz7 8
      have hfz7_9 := blk_frozen HGz7 9
      have hfz7_10 := blk_frozen HGz7 10
      have hfz7_11 := blk_frozen HGz7 11
      have hfz7_12 := blk_frozen HGz7 12
      have hfz7_13 := blk_frozen HGz7 13
      have hfz7_14 := blk_frozen HGz7 14
      have hfz7_15 := blk_frozen HGz7 15
      clear HGz7 hgz7
      go_enter Try.func13, Try.ntmps13
      go_wp2
      first | go_end0 | ((try simp only [Exit.inBlock, Exit.then]); refine bodyPost_ret (results_none rfl _ _ _) rfl ?_)
      exact ⟨by first | rfl | (simp [errW_none, errW_some] <;> rfl) | (simp [*, errW_none, errW_some] <;> rfl), by repeat (first | (with_reducible first | exact HI0.out | apply IsS23.alloc | apply IsS23.drewN | apply IsS23.drew | apply IsS23.set_0 | apply IsS23.set_1 | apply IsS23.set_2 | apply IsS23.set_3 | apply IsS23.set_4 | apply IsS23.set_5 | apply IsS23.set_6 | apply IsS23.set_7 | apply IsS23.set_8 | apply IsS23.set_9 | apply IsS23.set_10 | apply IsS23.set_11 | apply IsS23.set_12 | apply IsS23.set_13 | apply IsS23.set_14 | apply IsS23.set_15) | exact HI0.out), by repeat (first | (with_reducible first | exact HB.out | apply below_alloc | apply pw_below_drewN | apply below_drew1 | refine below_set ?_ (IsS23.ge HI0.out)) | exact HB.out), by repeat (first | (with_reducible first | exact HK.out | apply KeepBut.set_ | apply keep_drewN | apply keep_drew | apply keep_alloc) | exact HK.out)⟩
    · rw [if_neg c6] at H
      have c6b0 : (a1 == 1) = false := beq_eq_false_iff_ne.mpr c6
      have c6b1 : (a1 != 1) = true := bne_iff_ne.mpr c6
      by_cases c8 : a1 = 2
      · rw [if_pos c8] at H
        have c8b0 : (a1 == 2) = true := beq_iff_eq.mpr c8
        have c8b1 : (a1 != 2) = false := bne_eq_false_iff_eq.mpr c8
        clear c8
        simp only [Option.some.injEq, Prod.mk.injEq] at H
        obtain ⟨rfl, rfl, rfl, rfl, rfl, rfl, rfl, rfl, rfl, rfl, rfl, rfl, rfl, rfl, rfl, rfl⟩ := H
        obtain ⟨HGz9, hgz9⟩ := HI0.out
        have hcz9_0 := cellS23_0 HGz9
        have hcz9_1 := cellS23_1 HGz9
        have hcz9_2 := cellS23_2 HGz9
        have hcz9_3 := cellS23_3 HGz9
        have hcz9_4 := cellS23_4 HGz9
        have hcz9_5 := cellS23_5 HGz9
        have hcz9_6 := cellS23_6 HGz9
        have hcz9_7 := cellS23_7 HGz9
        have hcz9_8 := cellS23_8 HGz9
        have hcz9_9 := cellS23_9 HGz9
        have hcz9_10 := cellS23_10 HGz9
        have hcz9_11 := cellS23_11 HGz9
        have hcz9_12 := cellS23_12 HGz9
        have hcz9_13 := cellS23_13 HGz9
        have hcz9_14 := cellS23_14 HGz9
        have hcz9_15 := cellS23_15 HGz9
        have hfz9_0 := blk_frozen HGz9 0
        have hfz9_1 := blk_frozen HGz9 1
        have hfz9_2 := blk_frozen HGz9 2
        have hfz9_3 := blk_frozen HGz9 3
        have hfz9_4 := blk_frozen HGz9 4
        have hfz9_5 := blk_frozen HGz9 5
        have hfz9_6 := blk_frozen HGz9 6
        have hfz9_7 := blk_frozen HGz9 7
        have hfz9_8 := blk_frozen HGz9 8
        have hfz9_9 := blk_frozen HGz9 9
        have hfz9_10 := blk_frozen HGz9 10
        have hfz9_11 := blk_frozen HGz9 11
        have hfz9_12 := blk_frozen HGz9 12
        have hfz9_13 := blk_frozen HGz9 13
        have hfz9_14 := blk_frozen HGz9 14
        have hfz9_15 := blk_frozen HGz9 15
        clear HGz9 hgz9
        go_enter Try.func13, Try.ntmps13
        go_wp2
        first | go_end0 | ((try simp only [Exit.inBlock, Exit.then]); refine bodyPost_ret (results_none rfl _ _ _) rfl ?_)
        exact ⟨by first | rfl | (simp [errW_none, errW_some] <;> rfl) | (simp [*, errW_none, errW_some] <;> rfl), by repeat (first | (with_reducible first | exact HI0.out | apply IsS23.alloc | apply IsS23.drewN | apply IsS23.drew | apply IsS23.set_0 | apply IsS23.set_1 | apply IsS23.set_2 | apply IsS23.set_3 | apply IsS23.set_4 | apply IsS23.set_5 | apply IsS23.set_6 | apply IsS23.set_7 | apply IsS23.set_8 | apply IsS23.set_9 | apply IsS23.set_10 | apply IsS23.set_11 | apply IsS23.set_12 | apply IsS23.set_13 | apply IsS23.set_14 | apply IsS23.set_15) | exact HI0.out), by repeat (first | (with_reducible first | exact HB.out | apply below_alloc | apply pw_below_drewN | apply below_drew1 | refine below_set ?_ (IsS23.ge HI0.out)) | exact HB.out), by repeat (first | (with_reducible first | exact HK.out | apply KeepBut.set_ | apply keep_drewN | apply keep_drew | apply keep_alloc) | exact HK.out)⟩
      · rw [if_neg c8] at H
        have c8b0 : (a1 == 2) = false := beq_eq_false_iff_ne.mpr c8
        have c8b1 : (a1 != 2) = true := bne_iff_ne.mpr c8
        by_cases c10 : a1 = 3
        · rw [if_pos c10] at H
          have c10b0 : (a1 == 3) = true := beq_iff_eq.mpr c10
          have c10b1 : (a1 != 3) = false := bne_eq_false_iff_eq.mpr c10
          clear c10
          simp only [Option.some.injEq, Prod.mk.injEq] at H
          obtain ⟨rfl, rfl, rfl, rfl, rfl, rfl, rfl, rfl, rfl, rfl, rfl, rfl, rfl, rfl, rfl, rfl⟩ := H
          obtain ⟨HGz11, hgz11⟩ := HI0.out
          have hcz11_0 := cellS23_0 HGz11
          have hcz11_1 := cellS23_1 HGz11
          have hcz11_2 := cellS23_2 HGz11
          have hcz11_3 := cellS23_3 HGz11
          have hcz11_4 := cellS23_4 HGz11
          have hcz11_5 := cellS23_5 HGz11
          have hcz11_6 := cellS23_6 HGz11
          have hcz11_7 := cellS23_7 HGz11
          have hcz11_8 := cellS23_8 HGz11
          have hcz11_9 := cellS23_9 HGz11
          have hcz11_10 := cellS23_10 HGz11
          have hcz11_11 := cellS23_11 HGz11
          have hcz11_12 := cellS23_12 HGz11
          have hcz11_13 := cellS23_13 HGz11
          have hcz11_14 := cellS23_14 HGz11
          have hcz11_15 := cellS23_15 HGz11
          have hfz11_0 := blk_frozen HGz11 0
          have hfz11_1 := blk_frozen HGz11 1
          have hfz11_2 := blk_frozen HGz11 2
          have hfz11_3 := blk_frozen HGz11 3
          have hfz11_4 := blk_frozen HGz11 4
          have hfz11_5 := blk_frozen HGz11 5
          have hfz11_6 := blk_frozen HGz11 6
          have hfz11_7 := blk_frozen HGz11 7
          have hfz11_8 := blk_frozen HGz11 8
          have hfz11_9 := blk_frozen HGz11 9
          have hfz11_10 := blk_frozen HGz11 10
          have hfz11_11 := blk_frozen HGz11 11
          have hfz11_12 := blk_frozen HGz11 12
          have hfz11_13 := blk_frozen HGz11 13
          have hfz11_14 := blk_frozen HGz11 14
          have hfz11_15 := blk_frozen HGz11 15
          clear HGz11 hgz11
          go_enter Try.func13, Try.ntmps13
          go_wp2
          first | go_end0 | ((try simp only [Exit.inBlock, Exit.then]); refine bodyPost_ret (results_none rfl _ _ _) rfl ?_)
          exact ⟨by first | rfl | (simp [errW_none, errW_some] <;> rfl) | (simp [*, errW_none, errW_some] <;> rfl), by repeat (first | (with_reducible first | exact HI0.out | apply IsS23.alloc | apply IsS23.drewN | apply IsS23.drew | apply IsS23.set_0 | apply IsS23.set_1 | apply IsS23.set_2 | apply IsS23.set_3 | apply IsS23.set_4 | apply IsS23.set_5 | apply IsS23.set_6 | apply IsS23.set_7 | apply IsS23.set_8 | apply IsS23.set_9 | apply IsS23.set_10 | apply IsS23.set_11 | apply IsS23.set_12 | apply IsS23.set_13 | apply IsS23.set_14 | apply IsS23.set_15) | exact HI0.out), by repeat (first | (with_reducible first | exact HB.out | apply below_alloc | apply pw_below_drewN | apply below_drew1 | refine below_set ?_ (IsS23.ge HI0.out)) | exact HB.out), by repeat (first | (with_reducible first | exact HK.out | apply KeepBut.set_ | apply keep_drewN | apply keep_drew | apply keep_alloc) | exact HK.out)⟩
        · rw [if_neg c10] at H
          have c10b0 : (a1 == 3) = false := beq_eq_false_iff_ne.mpr c10
          have c10b1 : (a1 != 3) = true := bne_iff_ne.mpr c10
          by_cases c12 : a1 = 4
          · rw [if_pos c12] at H
            have c12b0 : (a1 == 4) = true := beq_iff_eq.mpr c12
            have c12b1 : (a1 != 4) = false := bne_eq_false_iff_eq.mpr c12
            clear c12
            simp only [Option.some.injEq, Prod.mk.injEq] at H
            obtain ⟨rfl, rfl, rfl, rfl, rfl, rfl, rfl, rfl, rfl, rfl, rfl, rfl, rfl, rfl, rfl, rfl⟩ := H
            obtain ⟨HGz13, hgz13⟩ := HI0.out
            have hcz13_0 := cellS23_0 HGz13
            have hcz13_1 := cellS23_1 HGz13
            have hcz13_2 := cellS23_2 HGz13
            have hcz13_3 := cellS23_3 HGz13
            have hcz13_4 := cellS23_4 HGz13
            have hcz13_5 := cellS23_5 HGz13
            have hcz13_6 := cellS23_6 HGz13
            have hcz13_7 := cellS23_7 HGz13
            have hcz13_8 := cellS23_8 HGz13
            have hcz13_9 := cellS23_9 HGz13
            have hcz13_10 := cellS23_10 HGz13
            have hcz13_11 := cellS23_11 HGz13
            have hcz13_12 := cellS23_12 HGz13
            have hcz13_13 := cellS23_13 HGz13
            have hcz13_14 := cellS23_14 HGz13
            have hcz13_15 := cellS23_15 HGz13
            have hfz13_0 := blk_frozen HGz13 0
            have hfz13_1 := blk_frozen HGz13 1
            have hfz13_2 := blk_frozen HGz13 2
            have hfz13_3 := blk_frozen HGz13 3
            have hfz13_4 := blk_frozen HGz13 4
            have hfz13_5 := blk_frozen HGz13 5
            have hfz13_6 := blk_frozen HGz13 6
            have hfz13_7 := blk_frozen HGz13 7
            have hfz13_8 := blk_frozen HGz13 8
            have hfz13_9 := blk_frozen HGz13 9
            have hfz13_10 := blk_frozen HGz13 10
            have hfz13_11 := blk_frozen HGz13 11
            have hfz13_12 := blk_frozen HGz13 12
            have hfz13_13 := blk_frozen HGz13 13
            have hfz13_14 := blk_frozen HGz13 14
            have hfz13_15 := blk_frozen HGz13 15
            clear HGz13 hgz13
            go_enter Try.func13, Try.ntmps13
            go_wp2
            first | go_end0 | ((try simp only [Exit.inBlock, Exit.then]); refine bodyPost_ret (results_none rfl _ _ _) rfl ?_)
            exact ⟨by first | rfl | (simp [errW_none, errW_some] <;> rfl) | (simp [*, errW_none, errW_some] <;> rfl), by repeat (first | (with_reducible first | exact HI0.out | apply IsS23.alloc | apply IsS23.drewN | apply IsS23.drew | apply IsS23.set_0 | apply IsS23.set_1 | apply IsS23.set_2 | apply IsS23.set_3 | apply IsS23.set_4 | apply IsS23.set_5 | apply IsS23.set_6 | apply IsS23.set_7 | apply IsS23.set_8 | apply IsS23.set_9 | apply IsS23.set_10 | apply IsS23.set_11 | apply IsS23.set_12 | apply IsS23.set_13 | apply IsS23.set_14 | apply IsS23.set_15) | exact HI0.out), by repeat (first | (with_reducible first | exact HB.out | apply below_alloc | apply pw_below_drewN | apply below_drew1 | refine below_set ?_ (IsS23.ge HI0.out)) | exact HB.out), by repeat (first | (with_reducible first | exact HK.out | apply KeepBut.set_ | apply keep_drewN | apply keep_drew | apply keep_alloc) | exact HK.out)⟩
          · rw [if_neg c12] at H
            have c12b0 : (a1 == 4) = false := beq_eq_false_iff_ne.mpr c12
            have c12b1 : (a1 != 4) = true := bne_iff_ne.mpr c12
            by_cases c14 : a1 = 5
            · rw [if_pos c14] at H
              have c14b0 : (a1 == 5) = true := beq_iff_eq.mpr c14
              have c14b1 : (a1 != 5) = false := bne_eq_false_iff_eq.mpr c14
              clear c14
              simp only [Option.some.injEq, Prod.mk.injEq] at H
              obtain ⟨rfl, rfl, rfl, rfl, rfl, rfl, rfl, rfl, rfl, rfl, rfl, rfl, rfl, rfl, rfl, rfl⟩ := H
              obtain ⟨HGz15, hgz15⟩ := HI0.out
              have hcz15_0 := cellS23_0 HGz15
              have hcz15_1 := cellS23_1 HGz15
              have hcz15_2 := cellS23_2 HGz15
              have hcz15_3 := cellS23_3 HGz15
              have hcz15_4 := cellS23_4 HGz15
              have hcz15_5 := cellS23_5 HGz15
              have hcz15_6 := cellS23_6 HGz15
              have hcz15_7 := cellS23_7 HGz15
              have hcz15_8 := cellS23_8 HGz15
              have hcz15_9 := cellS23_9 HGz15
              have hcz15_10 := cellS23_10 HGz15
              have hcz15_11 := cellS23_11 HGz15
              have hcz15_12 := cellS23_12 HGz15
              have hcz15_13 := cellS23_13 HGz15
              have hcz15_14 := cellS23_14 HGz15
              have hcz15_15 := cellS23_15 HGz15
              have hfz15_0 := blk_frozen HGz15 0
              have hfz15_1 := blk_frozen HGz15 1
              have hfz15_2 := blk_frozen HGz15 2
              have hfz15_3 := blk_frozen HGz15 3
              have hfz15_4 := blk_frozen HGz15 4
              have hfz15_5 := blk_frozen HGz15 5
              have hfz15_6 := blk_frozen HGz15 6
              have hfz15_7 := blk_frozen HGz15 7
              have hfz15_8 := blk_frozen HGz15 8
              have hfz15_9 := blk_frozen HGz15 9
              have hfz15_10 := blk_frozen HGz15 10
              have hfz15_11 := blk_frozen HGz15 11
              have hfz15_12 := blk_frozen HGz15 12
              have hfz15_13 := blk_frozen HGz15 13
              have hfz15_14 := blk_frozen HGz15 14
              have hfz15_15 := blk_frozen HGz15 15
              clear HGz15 hgz15
              go_enter Try.func13, Try.ntmps13
              go_wp2
              first | go_end0 | ((try simp only [Exit.inBlock, Exit.then]); refine bodyPost_ret (results_none rfl _ _ _) rfl ?_)
              exact ⟨by first | rfl | (simp [errW_none, errW_some] <;> rfl) | (simp [*, errW_none, errW_some] <;> rfl), by repeat (first | (with_reducible first | exact HI0.out | apply IsS23.alloc | apply IsS23.drewN | apply IsS23.drew | apply IsS23.set_0 | apply IsS23.set_1 | apply IsS23.set_2 | apply IsS23.set_3 | apply IsS23.set_4 | apply IsS23.set_5 | apply IsS23.set_6 | apply IsS23.set_7 | apply IsS23.set_8 | apply IsS23.set_9 | apply IsS23.set_10 | apply IsS23.set_11 | apply IsS23.set_12 | apply IsS23.set_13 | apply IsS23.set_14 | apply IsS23.set_15) | exact HI0.out), by repeat (first | (with_reducible first | exact HB.out | apply below_alloc | apply pw_below_drewN | apply below_drew1 | refine below_set ?_ (IsS23.ge HI0.out)) | exact HB.out), by repeat (first | (with_reducible first | exact HK.out | apply KeepBut.set_ | apply keep_drewN | apply keep_drew | apply keep_alloc) | exact HK.out)⟩
            · rw [if_neg c14] at H
              have c14b0 : (a1 == 5) = false := beq_eq_false_iff_ne.mpr c14
              have c14b1 : (a1 != 5) = true := bne_iff_ne.mpr c14
              by_cases c16 : a1 = 6
              · rw [if_pos c16] at H
                have c16b0 : (a1 == 6) = true := beq_iff_eq.mpr c16
                have c16b1 : (a1 != 6) = false := bne_eq_false_iff_eq.mpr c16
                clear c16
                simp only [Option.some.injEq, Prod.mk.injEq] at H
                obtain ⟨rfl, rfl, rfl, rfl, rfl, rfl, rfl, rfl, rfl, rfl, rfl, rfl, rfl, rfl, rfl, rfl⟩ := H
                obtain ⟨HGz17, hgz17⟩ := HI0.out
                have hcz17_0 := cellS23_0 HGz17
                have hcz17_1 := cellS23_1 HGz17
                have hcz17_2 := cellS23_2 HGz17
                have hcz17_3 := cellS23_3 HGz17
                have hcz17_4 := cellS23_4 HGz17
                have hcz17_5 := cellS23_5 HGz17
                have hcz17_6 := cellS23_6 HGz17
                have hcz17_7 := cellS23_7 HGz17
                have hcz17_8 := cellS23_8 HGz17
                have hcz17_9 := cellS23_9 HGz17
                have hcz17_10 := cellS23_10 HGz17
                have hcz17_11 := cellS23_11 HGz17
                have hcz17_12 := cellS23_12 HGz17
                have hcz17_13 := cellS23_13 HGz17
                have hcz17_14 := cellS23_14 HGz17
                have hcz17_15 := cellS23_15 HGz17
                have hfz17_0 := blk_frozen HGz17 0
                have hfz17_1 := blk_frozen HGz17 1
                have hfz17_2 := blk_frozen HGz17 2
                have hfz17_3 := blk_frozen HGz17 3
                have hfz17_4 := blk_frozen HGz17 4
                have hfz17_5 := blk_frozen HGz17 5
                have hfz17_6 := blk_frozen HGz17 6
                have hfz17_7 := blk_frozen HGz17 7
                have hfz17_8 := blk_frozen HGz17 8
                have hfz17_9 := blk_frozen HGz17 9
                have hfz17_10 := blk_frozen HGz17 10
                have hfz17_11 := blk_frozen HGz17 11
                have hfz17_12 := blk_frozen HGz17 12
                have hfz17_13 := blk_frozen HGz17 13
                have hfz17_14 := blk_frozen HGz17 14
                have hfz17_15 := blk_frozen HGz17 15
                clear HGz17 hgz17
                go_enter Try.func13, Try.ntmps13
                go_wp2
                first | go_end0 | ((try simp only [Exit.inBlock, Exit.then]); refine bodyPost_ret (results_none rfl _ _ _) rfl ?_)
                exact ⟨by first | rfl | (simp [errW_none, errW_some] <;> rfl) | (simp [*, errW_none, errW_some] <;> rfl), by repeat (first | (with_reducible first | exact HI0.out | apply IsS23.alloc | apply IsS23.drewN | apply IsS23.drew | apply IsS23.set_0 | apply IsS23.set_1 | apply IsS23.set_2 | apply IsS23.set_3 | apply IsS23.set_4 | apply IsS23.set_5 | apply IsS23.set_6 | apply IsS23.set_7 | apply IsS23.set_8 | apply IsS23.set_9 | apply IsS23.set_10 | apply IsS23.set_11 | apply IsS23.set_12 | apply IsS23.set_13 | apply IsS23.set_14 | apply IsS23.set_15) | exact HI0.out), by repeat (first | (with_reducible first | exact HB.out | apply below_alloc | apply pw_below_drewN | apply below_drew1 | refine below_set ?_ (IsS23.ge HI0.out)) | exact HB.out), by repeat (first | (with_reducible first | exact HK.out | apply KeepBut.set_ | apply keep_drewN | apply keep_drew | apply keep_alloc) | exact HK.out)⟩
              · rw [if_neg c16] at H
                have c16b0 : (a1 == 6) = false := beq_eq_false_iff_ne.mpr c16
                have c16b1 : (a1 != 6) = true := bne_iff_ne.mpr c16
                by_cases c18 : a1 = 7
                · rw [if_pos c18] at H
                  have c18b0 : (a1 == 7) = true := beq_iff_eq.mpr c18
                  have c18b1 : (a1 != 7) = false := bne_eq_false_iff_eq.mpr c18
                  clear c18
                  simp only [Option.some.injEq, Prod.mk.injEq] at H
                  obtain ⟨rfl, rfl, rfl, rfl, rfl, rfl, rfl, rfl, rfl, rfl, rfl, rfl, rfl, rfl, rfl, rfl⟩ := H
                  obtain ⟨HGz19, hgz19⟩ := HI0.out
                  have hcz19_0 := cellS23_0 HGz19
                  have hcz19_1 := cellS23_1 HGz19
                  have hcz19_2 := cellS23_2 HGz19
                  have hcz19_3 := cellS23_3 HGz19
                  have hcz19_4 := cellS23_4 HGz19
                  have hcz19_5 := cellS23_5 HGz19
                  have hcz19_6 := cellS23_6 HGz19
                  have hcz19_7 := cellS23_7 HGz19
                  have hcz19_8 := cellS23_8 HGz19
                  have hcz19_9 := cellS23_9 HGz19
                  have hcz19_10 := cellS23_10 HGz19
                  have hcz19_11 := cellS23_11 HGz19
                  have hcz19_12 := cellS23_12 HGz19
                  have hcz19_13 := cellS23_13 HGz19
                  have hcz19_14 := cellS23_14 HGz19
                  have hcz19_15 := cellS23_15 HGz19
                  have hfz19_0 := blk_frozen HGz19 0
                  have hfz19_1 := blk_frozen HGz19 1
                  have hfz19_2 := blk_frozen HGz19 2
                  have hfz19_3 := blk_frozen HGz19 3
                  have hfz19_4 := blk_frozen HGz19 4
                  have hfz19_5 := blk_frozen HGz19 5
                  have hfz19_6 := blk_frozen HGz19 6
                  have hfz19_7 := blk_frozen HGz19 7
                  have hfz19_8 := blk_frozen HGz19 8
                  have hfz19_9 := blk_frozen HGz19 9
                  have hfz19_10 := blk_frozen HGz19 10
                  have hfz19_11 := blk_frozen HGz19 11
                  have hfz19_12 := blk_frozen HGz19 12
                  have hfz19_13 := blk_frozen HGz19 13
                  have hfz19_14 := blk_frozen HGz19 14
                  have hfz19_15 := blk_frozen HGz19 15
                  clear HGz19 hgz19
                  go_enter Try.func13, Try.ntmps13
                  go_wp2
                  first | go_end0 | ((try simp only [Exit.inBlock, Exit.then]); refine bodyPost_ret (results_none rfl _ _ _) rfl ?_)
                  exact ⟨by first | rfl | (simp [errW_none, errW_some] <;> rfl) | (simp [*, errW_none, errW_some] <;> rfl), by repeat (first | (with_reducible first | exact HI0.out | apply IsS23.alloc | apply IsS23.drewN | apply IsS23.drew | apply IsS23.set_0 | apply IsS23.set_1 | apply IsS23.set_2 | apply IsS23.set_3 | apply IsS23.set_4 | apply IsS23.set_5 | apply IsS23.set_6 | apply IsS23.set_7 | apply IsS23.set_8 | apply IsS23.set_9 | apply IsS23.set_10 | apply IsS23.set_11 | apply IsS23.set_12 | apply IsS23.set_13 | apply IsS23.set_14 | apply IsS23.set_15) | exact HI0.out), by repeat (first | (with_reducible first | exact HB.out | apply below_alloc | apply pw_below_drewN | apply below_drew1 | refine below_set ?_ (IsS23.ge HI0.out)) | exact HB.out), by repeat (first | (with_reducible first | exact HK.out | apply KeepBut.set_ | apply keep_drewN | apply keep_drew | apply keep_alloc) | exact HK.out)⟩
                · rw [if_neg c18] at H
                  have c18b0 : (a1 == 7) = false := beq_eq_false_iff_ne.mpr c18
                  have c18b1 : (a1 != 7) = true := bne_iff_ne.mpr c18
                  by_cases c20 : a1 = 8
                  · rw [if_pos c20] at H
                    have c20b0 : (a1 == 8) = true := beq_iff_eq.mpr c20
                    have c20b1 : (a1 != 8) = false := bne_eq_false_iff_eq.mpr c20
                    clear c20
                    simp only [Option.some.injEq, Prod.mk.injEq] at H
                    obtain ⟨rfl, rfl, rfl, rfl, rfl, rfl, rfl, rfl, rfl, rfl, rfl, rfl, rfl, rfl, rfl, rfl⟩ := H
                    obtain ⟨HGz21, hgz21⟩ := HI0.out
                    have hcz21_0 := cellS23_0 HGz21
                    have hcz21_1 := cellS23_1 HGz21
                    have hcz21_2 := cellS23_2 HGz21
                    have hcz21_3 := cellS23_3 HGz21
                    have hcz21_4 := cellS23_4 HGz21
                    have hcz21_5 := cellS23_5 HGz21
                    have hcz21_6 := cellS23_6 HGz21
                    have hcz21_7 := cellS23_7 HGz21
                    have hcz21_8 := cellS23_8 HGz21
                    have hcz21_9 := cellS23_9 HGz21
                    have hcz21_10 := cellS23_10 HGz21
                    have hcz21_11 := cellS23_11 HGz21
                    have hcz21_12 := cellS23_12 HGz21
                    have hcz21_13 := cellS23_13 HGz21
                    have hcz21_14 := cellS23_14 HGz21
                    have hcz21_15 := cellS23_15 HGz21
                    have hfz21_0 := blk_frozen HGz21 0
                    have hfz21_1 := blk_frozen HGz21 1
                    have hfz21_2 := blk_frozen HGz21 2
                    have hfz21_3 := blk_frozen HGz21 3
                    have hfz21_4 := blk_frozen HGz21 4
                    have hfz21_5 := blk_frozen HGz21 5
                    have hfz21_6 := blk_frozen HGz21 6
                    have hfz21_7 := blk_frozen HGz21 7
                    have hfz21_8 := blk_frozen HGz21 8
                    have hfz21_9 := blk_frozen HGz21 9
                    have hfz21_10 := blk_frozen HGz21 10
                    have hfz21_11 := blk_frozen HGz21 11
                    have hfz21_12 := blk_frozen HGz21 12
                    have hfz21_13 := blk_frozen HGz21 13
                    have hfz21_14 := blk_frozen HGz21 14
                    have hfz21_15 := blk_frozen HGz21 15
                    clear HGz21 hgz21
                    go_enter Try.func13, Try.ntmps13
                    go_wp2
                    first | go_end0 | ((try simp only [Exit.inBlock, Exit.then]); refine bodyPost_ret (results_none rfl _ _ _) rfl ?_)
                    exact ⟨by first | rfl | (simp [errW_none, errW_some] <;> rfl) | (simp [*, errW_none, errW_some] <;> rfl), by repeat (first | (with_reducible first | exact HI0.out | apply IsS23.alloc | apply IsS23.drewN | apply IsS23.drew | apply IsS23.set_0 | apply IsS23.set_1 | apply IsS23.set_2 | apply IsS23.set_3 | apply IsS23.set_4 | apply IsS23.set_5 | apply IsS23.set_6 | apply IsS23.set_7 | apply IsS23.set_8 | apply IsS23.set_9 | apply IsS23.set_10 | apply IsS23.set_11 | apply IsS23.set_12 | apply IsS23.set_13 | apply IsS23.set_14 | apply IsS23.set_15) | exact HI0.out), by repeat (first | (with_reducible first | exact HB.out | apply below_alloc | apply pw_below_drewN | apply below_drew1 | refine below_set ?_ (IsS23.ge HI0.out)) | exact HB.out), by repeat (first | (with_reducible first | exact HK.out | apply KeepBut.set_ | apply keep_drewN | apply keep_drew | apply keep_alloc) | exact HK.out)⟩
                  · rw [if_neg c20] at H
                    have c20b0 : (a1 == 8) = false := beq_eq_false_iff_ne.mpr c20
                    have c20b1 : (a1 != 8) = true := bne_iff_ne.mpr c20
                    by_cases c22 : a1 = 9
                    · rw [if_pos c22] at H
                      have c22b0 : (a1 == 9) = true := beq_iff_eq.mpr c22
                      have c22b1 : (a1 != 9) = false := bne_eq_false_iff_eq.mpr c22
                      clear c22
                      simp only [Option.some.injEq, Prod.mk.injEq] at H
                      obtain ⟨rfl, rfl, rfl, rfl, rfl, rfl, rfl, rfl, rfl, rfl, rfl, rfl, rfl, rfl, rfl, rfl⟩ := H
                      obtain ⟨HGz23, hgz23⟩ := HI0.out
                      have hcz23_0 := cellS23_0 HGz23
                      have hcz23_1 := cellS23_1 HGz23
                      have hcz23_2 := cellS23_2 HGz23
                      have hcz23_3 := cellS23_3 HGz23
                      have hcz23_4 := cellS23_4 HGz23
                      have hcz23_5 := cellS23_5 HGz23
                      have hcz23_6 := cellS23_6 HGz23
                      have hcz23_7 := cellS23_7 HGz23
                      have hcz23_8 := cellS23_8 HGz23
                      have hcz23_9 := cellS23_9 HGz23
                      have hcz23_10 := cellS23_10 HGz23
                      have hcz23_11 := cellS23_11 HGz23
                      have hcz23_12 := cellS23_12 HGz23
                      have hcz23_13 := cellS23_13 HGz23
                      have hcz23_14 := cellS23_14 HGz23
                      have hcz23_15 := cellS23_15 HGz23
                      have hfz23_0 := blk_frozen HGz23 0
                      have hfz23_1 := blk_frozen HGz23 1
                      have hfz23_2 := blk_frozen HGz23 2
                      have hfz23_3 := blk_frozen HGz23 3
                      have hfz23_4 := blk_frozen HGz23 4
                      have hfz23_5 := blk_frozen HGz23 5
                      have hfz23_6 := blk_frozen HGz23 6
                      have hfz23_7 := blk_frozen HGz23 7
                      have hfz23_8 := blk_frozen HGz23 8
                      have hfz23_9 := blk_frozen HGz23 9
                      have hfz23_10 := blk_frozen HGz23 10
                      have hfz23_11 := blk_frozen HGz23 11
                      have hfz23_12 := blk_frozen HGz23 12
                      have hfz23_13 := blk_frozen HGz23 13
                      have hfz23_14 := blk_frozen HGz23 14
                      have hfz23_15 := blk_frozen HGz23 15
                      clear HGz23 hgz23
                      go_enter Try.func13, Try.ntmps13
                      go_wp2
                      first | go_end0 | ((try simp only [Exit.inBlock, Exit.then]); refine bodyPost_ret (results_none rfl _ _ _) rfl ?_)
                      exact ⟨by first | rfl | (simp [errW_none, errW_some] <;> rfl) | (simp [*, errW_none, errW_some] <;> rfl), by repeat (first | (with_reducible first | exact HI0.out | apply IsS23.alloc | apply IsS23.drewN | apply IsS23.drew | apply IsS23.set_0 | apply IsS23.set_1 | apply IsS23.set_2 | apply IsS23.set_3 | apply IsS23.set_4 | apply IsS23.set_5 | apply IsS23.set_6 | apply IsS23.set_7 | apply IsS23.set_8 | apply IsS23.set_9 | apply IsS23.set_10 | apply IsS23.set_11 | apply IsS23.set_12 | apply IsS23.set_13 | apply IsS23.set_14 | apply IsS23.set_15) | exact HI0.out), by repeat (first | (with_reducible first | exact HB.out | apply below_alloc | apply pw_below_drewN | apply below_drew1 | refine below_set ?_ (IsS23.ge HI0.out)) | exact HB.out), by repeat (first | (with_reducible first | exact HK.out | apply KeepBut.set_ | apply keep_drewN | apply keep_drew | apply keep_alloc) | exact HK.out)⟩
                    · rw [if_neg c22] at H
                      have c22b0 : (a1 == 9) = false := beq_eq_false_iff_ne.mpr c22
                      have c22b1 : (a1 != 9) = true := bne_iff_ne.mpr c22
                      by_cases c24 : a1 = 10
                      · rw [if_pos c24] at H
                        have c24b0 : (a1 == 10) = true := beq_iff_eq.mpr c24
                        have c24b1 : (a1 != 10) = false := bne_eq_false_iff_eq.mpr c24
                        clear c24
                        simp only [Option.some.injEq, Prod.mk.injEq] at H
                        obtain ⟨rfl, rfl, rfl, rfl, rfl, rfl, rfl, rfl, rfl, rfl, rfl, rfl, rfl, rfl, rfl, rfl⟩ := H
                        obtain ⟨HGz25, hgz25⟩ := HI0.out
                        have hcz25_0 := cellS23_0 HGz25
                        have hcz25_1 := cellS23_1 HGz25
                        have hcz25_2 := cellS23_2 HGz25
                        have hcz25_3 := cellS23_3 HGz25
                        have hcz25_4 := cellS23_4 HGz25
                        have hcz25_5 := cellS23_5 HGz25
                        have hcz25_6 := cellS23_6 HGz25
                        have hcz25_7 := cellS23_7 HGz25
                        have hcz25_8 := cellS23_8 HGz25
                        have hcz25_9 := cellS23_9 HGz25
                        have hcz25_10 := cellS23_10 HGz25
                        have hcz25_11 := cellS23_11 HGz25
                        have hcz25_12 := cellS23_12 HGz25
                        have hcz25_13 := cellS23_13 HGz25
                        have hcz25_14 := cellS23_14 HGz25
                        have hcz25_15 := cellS23_15 HGz25
                        have hfz25_0 := blk_frozen HGz25 0
                        have hfz25_1 := blk_frozen HGz25 1
                        have hfz25_2 := blk_frozen HGz25 2
                        have hfz25_3 := blk_frozen HGz25 3
                        have hfz25_4 := blk_frozen HGz25 4
                        have hfz25_5 := blk_frozen HGz25 5
                        have hfz25_6 := blk_frozen HGz25 6
                        have hfz25_7 := blk_frozen HGz25 7
                        have hfz25_8 := blk_frozen HGz25 8
                        have hfz25_9 := blk_frozen HGz25 9
                        have hfz25_10 := blk_frozen HGz25 10
                        have hfz25_11 := blk_frozen HGz25 11
                        have hfz25_12 := blk_frozen HGz25 12
                        have hfz25_13 := blk_frozen HGz25 13
                        have hfz25_14 := blk_frozen HGz25 14
                        have hfz25_15 := blk_frozen HGz25 15
                        clear HGz25 hgz25
                        go_enter Try.func13, Try.ntmps13
                        go_wp2
                        first | go_end0 | ((try simp only [Exit.inBlock, Exit.then]); refine bodyPost_ret (results_none rfl _ _ _) rfl ?_)
                        exact ⟨by first | rfl | (simp [errW_none, errW_some] <;> rfl) | (simp [*, errW_none, errW_some] <;> rfl), by repeat (first | (with_reducible first | exact HI0.out | apply IsS23.alloc | apply IsS23.drewN | apply IsS23.drew | apply IsS23.set_0 | apply IsS23.set_1 | apply IsS23.set_2 | apply IsS23.set_3 | apply IsS23.set_4 | apply IsS23.set_5 | apply IsS23.set_6 | apply IsS23.set_7 | apply IsS23.set_8 | apply IsS23.set_9 | apply IsS23.set_10 | apply IsS23.set_11 | apply IsS23.set_12 | apply IsS23.set_13 | apply IsS23.set_14 | apply IsS23.set_15) | exact HI0.out), by repeat (first | (with_reducible first | exact HB.out | apply below_alloc | apply pw_below_drewN | apply below_drew1 | refine below_set ?_ (IsS23.ge HI0.out)) | exact HB.out), by repeat (first | (with_reducible first | exact HK.out | apply KeepBut.set_ | apply keep_drewN | apply keep_drew | apply keep_alloc) | exact HK.out)⟩
                      · rw [if_neg c24] at H
                        have c24b0 : (a1 == 10) = false := beq_eq_false_iff_ne.mpr c24
                        have c24b1 : (a1 != 10) = true := bne_iff_ne.mpr c24
                        by_cases c26 : a1 = 11
                        · rw [if_pos c26] at H
                          have c26b0 : (a1 == 11) = true := beq_iff_eq.mpr c26
                          have c26b1 : (a1 != 11) = false := bne_eq_false_iff_eq.mpr c26
                          clear c26
                          simp only [Option.some.injEq, Prod.mk.injEq] at H
                          obtain ⟨rfl, rfl, rfl, rfl, rfl, rfl, rfl, rfl, rfl, rfl, rfl, rfl, rfl, rfl, rfl, rfl⟩ := H
                          obtain ⟨HGz27, hgz27⟩ := HI0.out
                          have hcz27_0 := cellS23_0 HGz27
                          have hcz27_1 := cellS23_1 HGz27
                          have hcz27_2 := cellS23_2 HGz27
                          have hcz27_3 := cellS23_3 HGz27
                          have hcz27_4 := cellS23_4 HGz27
                          have hcz27_5 := cellS23_5 HGz27
                          have hcz27_6 := cellS23_6 HGz27
                          have hcz27_7 := cellS23_7 HGz27
                          have hcz27_8 := cellS23_8 HGz27
                          have hcz27_9 := cellS23_9 HGz27
                          have hcz27_10 := cellS23_10 HGz27
                          have hcz27_11 := cellS23_11 HGz27
                          have hcz27_12 := cellS23_12 HGz27
                          have hcz27_13 := cellS23_13 HGz27
                          have hcz27_14 := cellS23_14 HGz27
                          have hcz27_15 := cellS23_15 HGz27
                          have hfz27_0 := blk_frozen HGz27 0
                          have hfz27_1 := blk_frozen HGz27 1
                          have hfz27_2 := blk_frozen HGz27 2
                          have hfz27_3 := blk_frozen HGz27 3
                          have hfz27_4 := blk_frozen HGz27 4
                          have hfz27_5 := blk_frozen HGz27 5
                          have hfz27_6 := blk_frozen HGz27 6
                          have hfz27_7 := blk_frozen HGz27 7
                          have hfz27_8 := blk_frozen HGz27 8
                          have hfz27_9 := blk_frozen HGz27 9
                          have hfz27_10 := blk_frozen HGz27 10
                          have hfz27_11 := blk_frozen HGz27 11
                          have hfz27_12 := blk_frozen HGz27 12
                          have hfz27_13 := blk_frozen HGz27 13
                          have hfz27_14 := blk_frozen HGz27 14
                          have hfz27_15 := blk_frozen HGz27 15
                          clear HGz27 hgz27
                          go_enter Try.func13, Try.ntmps13
                          go_wp2
                          first | go_end0 | ((try simp only [Exit.inBlock, Exit.then]); refine bodyPost_ret (results_none rfl _ _ _) rfl ?_)
                          exact ⟨by first | rfl | (simp [errW_none, errW_some] <;> rfl) | (simp [*, errW_none, errW_some] <;> rfl), by repeat (first | (with_reducible first | exact HI0.out | apply IsS23.alloc | apply IsS23.drewN | apply IsS23.drew | apply IsS23.set_0 | apply IsS23.set_1 | apply IsS23.set_2 | apply IsS23.set_3 | apply IsS23.set_4 | apply IsS23.set_5 | apply IsS23.set_6 | apply IsS23.set_7 | apply IsS23.set_8 | apply IsS23.set_9 | apply IsS23.set_10 | apply IsS23.set_11 | apply IsS23.set_12 | apply IsS23.set_13 | apply IsS23.set_14 | apply IsS23.set_15) | exact HI0.out), by repeat (first | (with_reducible first | exact HB.out | apply below_alloc | apply pw_below_drewN | apply below_drew1 | refine below_set ?_ (IsS23.ge HI0.out)) | exact HB.out), by repeat (first | (with_reducible first | exact HK.out | apply KeepBut.set_ | apply keep_drewN | apply keep_drew | apply keep_alloc) | exact HK.out)⟩
                        · rw [if_neg c26] at H
                          have c26b0 : (a1 == 11) = false := beq_eq_false_iff_ne.mpr c26
                          have c26b1 : (a1 != 11) = true := bne_iff_ne.mpr c26
                          simp only [Option.some.injEq, Prod.mk.injEq] at H
                          obtain ⟨rfl, rfl, rfl, rfl, rfl, rfl, rfl, rfl, rfl, rfl, rfl, rfl, rfl, rfl, rfl, rfl⟩ := H
                          obtain ⟨HGz28, hgz28⟩ := HI0.out
                          have hcz28_0 := cellS23_0 HGz28
                          have hcz28_1 := cellS23_1 HGz28
                          have hcz28_2 := cellS23_2 HGz28
                          have hcz28_3 := cellS23_3 HGz28
                          have hcz28_4 := cellS23_4 HGz28
                          have hcz28_5 := cellS23_5 HGz28
                          have hcz28_6 := cellS23_6 HGz28
                          have hcz28_7 := cellS23_7 HGz28
                          have hcz28_8 := cellS23_8 HGz28
                          have hcz28_9 := cellS23_9 HGz28
                          have hcz28_10 := cellS23_10 HGz28
                          have hcz28_11 := cellS23_11 HGz28
                          have hcz28_12 := cellS23_12 HGz28
                          have hcz28_13 := cellS23_13 HGz28
                          have hcz28_14 := cellS23_14 HGz28
                          have hcz28_15 := cellS23_15 HGz28
                          have hfz28_0 := blk_frozen HGz28 0
                          have hfz28_1 := blk_frozen HGz28 1
                          have hfz28_2 := blk_frozen HGz28 2
                          have hfz28_3 := blk_frozen HGz28 3
                          have hfz28_4 := blk_frozen HGz28 4
                          have hfz28_5 := blk_frozen HGz28 5
                          have hfz28_6 := blk_frozen HGz28 6
                          have hfz28_7 := blk_frozen HGz28 7
                          have hfz28_8 := blk_frozen HGz28 8
                          have hfz28_9 := blk_frozen HGz28 9
                          have hfz28_10 := blk_frozen HGz28 10
                          have hfz28_11 := blk_frozen HGz28 11
                          have hfz28_12 := blk_frozen HGz28 12
                          have hfz28_13 := blk_frozen HGz28 13
                          have hfz28_14 := blk_frozen HGz28 14
                          have hfz28_15 := blk_frozen HGz28 15
                          clear HGz28 hgz28
                          go_enter Try.func13, Try.ntmps13
                          go_wp2
                          first | go_end0 | ((try simp only [Exit.inBlock, Exit.then]); refine bodyPost_ret (results_none rfl _ _ _) rfl ?_)
                          exact ⟨by first | rfl | (simp [errW_none, errW_some] <;> rfl) | (simp [*, errW_none, errW_some] <;> rfl), by repeat (first | (with_reducible first | exact HI0.out | apply IsS23.alloc | apply IsS23.drewN | apply IsS23.drew | apply IsS23.set_0 | apply IsS23.set_1 | apply IsS23.set_2 | apply IsS23.set_3 | apply IsS23.set_4 | apply IsS23.set_5 | apply IsS23.set_6 | apply IsS23.set_7 | apply IsS23.set_8 | apply IsS23.set_9 | apply IsS23.set_10 | apply IsS23.set_11 | apply IsS23.set_12 | apply IsS23.set_13 | apply IsS23.set_14 | apply IsS23.set_15) | exact HI0.out), by repeat (first | (with_reducible first | exact HB.out | apply below_alloc | apply pw_below_drewN | apply below_drew1 | refine below_set ?_ (IsS23.ge HI0.out)) | exact HB.out), by repeat (first | (with_reducible first | exact HK.out | apply KeepBut.set_ | apply keep_drewN | apply keep_drew | apply keep_alloc) | exact HK.out)⟩

-- NOT PRINTED: function 4 (signalmanlaw19_ShapeLimits)

end Go.Proofs.Ytckfkmgfilfgfaa.PShapeLimits
