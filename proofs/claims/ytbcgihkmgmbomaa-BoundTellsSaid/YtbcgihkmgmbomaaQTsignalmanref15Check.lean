/- signalmanref15_Check: its part of the walk of BoundTells, as its printer wrote it. -/
import Derived.Test.YtbcgihkmgmbomaaQBoundTellsx2
import Derived.Test.YtbcgihkmgmbomaaQTsignalmanref15Most
import Derived.Test.YtbcgihkmgmbomaaQTsignalmanref15within
namespace Go.Proofs.Ytbcgihkmgmbomaa.PBoundTells
open Go.RowKit Go.Proofs.YtbcgihkmgmbomaaW.PrintWords Go.Proofs.YtbcgihkmgmbomaaW.PrintLast Go.Proofs.YtbcgihkmgmbomaaW.PrintMore
attribute [local go_sem] max2_int min2_int max_two min_two max_three min_three max_four min_four   -- for this text's walks alone
set_option linter.unusedVariables false
set_option linter.unusedSimpArgs false

/-! ### signalmanref15_Check: function 10 -/
mutual
def signalmanref15_Check.j0 : Nat → Bool → Int → Int → Int → Int → Int → Int → Int → Int → Int → Int → Int → Int → Int → Int → Bool → Bool → Option (Int)
  | 0, _, _, _, _, _, _, _, _, _, _, _, _, _, _, _, _, _ => none
  | k + 1, x3, x143000, x143001, x143002, x143003, x143004, x143005, x143006, x143007, x143008, x143009, x143010, x143011, x143012, x143013, x143014, x143015 => if x3 = true then ((signalmanref15_within.f x143002 1 (wrap64 (Int.tdiv x143001 8))).bind fun t143 => (if t143 = true then ((signalmanref15_within.f x143003 1 1048576).bind fun t144 => (if t144 = true then ((signalmanref15_within.f x143006 1 1048576).bind fun t145 => (if t145 = true then ((signalmanref15_within.f x143004 1 100).bind fun t146 => (if t146 = true then ((signalmanref15_within.f x143005 0 1048576).bind fun t147 => (signalmanref15_Check.j1 k t147 x143000 x143001 x143002 x143003 x143004 x143005 x143006 x143007 x143008 x143009 x143010 x143011 x143012 x143013 x143014 x143015)) else (signalmanref15_Check.j1 k false x143000 x143001 x143002 x143003 x143004 x143005 x143006 x143007 x143008 x143009 x143010 x143011 x143012 x143013 x143014 x143015))) else (signalmanref15_Check.j1 k false x143000 x143001 x143002 x143003 x143004 x143005 x143006 x143007 x143008 x143009 x143010 x143011 x143012 x143013 x143014 x143015))) else (signalmanref15_Check.j1 k false x143000 x143001 x143002 x143003 x143004 x143005 x143006 x143007 x143008 x143009 x143010 x143011 x143012 x143013 x143014 x143015))) else (signalmanref15_Check.j1 k false x143000 x143001 x143002 x143003 x143004 x143005 x143006 x143007 x143008 x143009 x143010 x143011 x143012 x143013 x143014 x143015))) else (signalmanref15_Check.j1 k false x143000 x143001 x143002 x143003 x143004 x143005 x143006 x143007 x143008 x143009 x143010 x143011 x143012 x143013 x143014 x143015)
def signalmanref15_Check.j1 : Nat → Bool → Int → Int → Int → Int → Int → Int → Int → Int → Int → Int → Int → Int → Int → Int → Bool → Bool → Option (Int)
  | 0, _, _, _, _, _, _, _, _, _, _, _, _, _, _, _, _, _ => none
  | k + 1, x3, x143000, x143001, x143002, x143003, x143004, x143005, x143006, x143007, x143008, x143009, x143010, x143011, x143012, x143013, x143014, x143015 => if x3 = true then ((signalmanref15_within.f x143007 1 65536).bind fun t148 => (if t148 = true then ((signalmanref15_within.f x143008 0 1000).bind fun t149 => (if t149 = true then ((signalmanref15_within.f x143009 1 1000).bind fun t150 => (if t150 = true then ((signalmanref15_within.f x143011 1 4096).bind fun t151 => (if t151 = true then ((signalmanref15_within.f x143012 1 16).bind fun t152 => (if t152 = true then ((signalmanref15_within.f x143013 1 16).bind fun t153 => (signalmanref15_Check.j2 k t153 x143000 x143001 x143002 x143003 x143004 x143005 x143006 x143007 x143008 x143009 x143010 x143011 x143012 x143013 x143014 x143015)) else (signalmanref15_Check.j2 k false x143000 x143001 x143002 x143003 x143004 x143005 x143006 x143007 x143008 x143009 x143010 x143011 x143012 x143013 x143014 x143015))) else (signalmanref15_Check.j2 k false x143000 x143001 x143002 x143003 x143004 x143005 x143006 x143007 x143008 x143009 x143010 x143011 x143012 x143013 x143014 x143015))) else (signalmanref15_Check.j2 k false x143000 x143001 x143002 x143003 x143004 x143005 x143006 x143007 x143008 x143009 x143010 x143011 x143012 x143013 x143014 x143015))) else (signalmanref15_Check.j2 k false x143000 x143001 x143002 x143003 x143004 x143005 x143006 x143007 x143008 x143009 x143010 x143011 x143012 x143013 x143014 x143015))) else (signalmanref15_Check.j2 k false x143000 x143001 x143002 x143003 x143004 x143005 x143006 x143007 x143008 x143009 x143010 x143011 x143012 x143013 x143014 x143015))) else (signalmanref15_Check.j2 k false x143000 x143001 x143002 x143003 x143004 x143005 x143006 x143007 x143008 x143009 x143010 x143011 x143012 x143013 x143014 x143015)
def signalmanref15_Check.j2 : Nat → Bool → Int → Int → Int → Int → Int → Int → Int → Int → Int → Int → Int → Int → Int → Int → Bool → Bool → Option (Int)
  | 0, _, _, _, _, _, _, _, _, _, _, _, _, _, _, _, _, _ => none
  | k + 1, x3, x143000, x143001, x143002, x143003, x143004, x143005, x143006, x143007, x143008, x143009, x143010, x143011, x143012, x143013, x143014, x143015 => if x3 = true then ((signalmanref15_Most.f x143000 x143001 x143002 x143003 x143004 x143005 x143006 x143007 x143008 x143009 x143010 x143011 x143012 x143013 x143014 x143015).bind fun t154 => ((signalmanref15_within.f x143010 t154 1048576).bind fun t155 => (if t155 = true then (if ((wrap64 (x143007 * x143011)) ≥ 32) then (some 0) else (some 1)) else (some 1)))) else (some 1)
end
def signalmanref15_Check.f (k : Nat) (a0_0 : Int) (a0_1 : Int) (a0_2 : Int) (a0_3 : Int) (a0_4 : Int) (a0_5 : Int) (a0_6 : Int) (a0_7 : Int) (a0_8 : Int) (a0_9 : Int) (a0_10 : Int) (a0_11 : Int) (a0_12 : Int) (a0_13 : Int) (a0_14 : Bool) (a0_15 : Bool) : Option (Int) := if a0_0 = 0 then (if a0_1 = 128 then (signalmanref15_Check.j0 k true a0_0 a0_1 a0_2 a0_3 a0_4 a0_5 a0_6 a0_7 a0_8 a0_9 a0_10 a0_11 a0_12 a0_13 a0_14 a0_15) else (signalmanref15_Check.j0 k (a0_1 == 32768) a0_0 a0_1 a0_2 a0_3 a0_4 a0_5 a0_6 a0_7 a0_8 a0_9 a0_10 a0_11 a0_12 a0_13 a0_14 a0_15)) else (if a0_0 = 1 then (if a0_1 = 128 then (signalmanref15_Check.j0 k true a0_0 a0_1 a0_2 a0_3 a0_4 a0_5 a0_6 a0_7 a0_8 a0_9 a0_10 a0_11 a0_12 a0_13 a0_14 a0_15) else (signalmanref15_Check.j0 k (a0_1 == 32768) a0_0 a0_1 a0_2 a0_3 a0_4 a0_5 a0_6 a0_7 a0_8 a0_9 a0_10 a0_11 a0_12 a0_13 a0_14 a0_15)) else (signalmanref15_Check.j0 k false a0_0 a0_1 a0_2 a0_3 a0_4 a0_5 a0_6 a0_7 a0_8 a0_9 a0_10 a0_11 a0_12 a0_13 a0_14 a0_15))
theorem signalmanref15_Check.mono_l : ∀ k, (∀ y0 y1 y2 y3 y4 y5 y6 y7 y8 y9 y10 y11 y12 y13 y14 y15 y16, LeO (signalmanref15_Check.j0 k y0 y1 y2 y3 y4 y5 y6 y7 y8 y9 y10 y11 y12 y13 y14 y15 y16) (signalmanref15_Check.j0 (k + 1) y0 y1 y2 y3 y4 y5 y6 y7 y8 y9 y10 y11 y12 y13 y14 y15 y16)) ∧ (∀ y0 y1 y2 y3 y4 y5 y6 y7 y8 y9 y10 y11 y12 y13 y14 y15 y16, LeO (signalmanref15_Check.j1 k y0 y1 y2 y3 y4 y5 y6 y7 y8 y9 y10 y11 y12 y13 y14 y15 y16) (signalmanref15_Check.j1 (k + 1) y0 y1 y2 y3 y4 y5 y6 y7 y8 y9 y10 y11 y12 y13 y14 y15 y16)) ∧ (∀ y0 y1 y2 y3 y4 y5 y6 y7 y8 y9 y10 y11 y12 y13 y14 y15 y16, LeO (signalmanref15_Check.j2 k y0 y1 y2 y3 y4 y5 y6 y7 y8 y9 y10 y11 y12 y13 y14 y15 y16) (signalmanref15_Check.j2 (k + 1) y0 y1 y2 y3 y4 y5 y6 y7 y8 y9 y10 y11 y12 y13 y14 y15 y16))
  | 0 => ⟨fun _ _ _ _ _ _ _ _ _ _ _ _ _ _ _ _ _ r h => by simp [signalmanref15_Check.j0] at h, fun _ _ _ _ _ _ _ _ _ _ _ _ _ _ _ _ _ r h => by simp [signalmanref15_Check.j1] at h, fun _ _ _ _ _ _ _ _ _ _ _ _ _ _ _ _ _ r h => by simp [signalmanref15_Check.j2] at h⟩
  | k + 1 => by
    obtain ⟨ih0, ih1, ih2⟩ := signalmanref15_Check.mono_l k
    refine ⟨?_, ?_, ?_⟩
    · intro y0 y1 y2 y3 y4 y5 y6 y7 y8 y9 y10 y11 y12 y13 y14 y15 y16
      unfold signalmanref15_Check.j0
      repeat' first
      | (with_reducible exact ih0 _ _ _ _ _ _ _ _ _ _ _ _ _ _ _ _ _)
      | (with_reducible exact ih1 _ _ _ _ _ _ _ _ _ _ _ _ _ _ _ _ _)
      | (with_reducible exact ih2 _ _ _ _ _ _ _ _ _ _ _ _ _ _ _ _ _)
      | (with_reducible exact LeO.refl _)
      | (with_reducible exact LeO.none _)
      | (with_reducible refine LeO.ite ?_ ?_)
      | (with_reducible refine LeO.bind ?_ (fun _ => ?_))
      | exact ih0 _ _ _ _ _ _ _ _ _ _ _ _ _ _ _ _ _
      | exact ih1 _ _ _ _ _ _ _ _ _ _ _ _ _ _ _ _ _
      | exact ih2 _ _ _ _ _ _ _ _ _ _ _ _ _ _ _ _ _
      | exact LeO.none _
      | refine LeO.ite ?_ ?_
      | refine LeO.bind ?_ (fun _ => ?_)
    · intro y0 y1 y2 y3 y4 y5 y6 y7 y8 y9 y10 y11 y12 y13 y14 y15 y16
      unfold signalmanref15_Check.j1
      repeat' first
      | (with_reducible exact ih0 _ _ _ _ _ _ _ _ _ _ _ _ _ _ _ _ _)
      | (with_reducible exact ih1 _ _ _ _ _ _ _ _ _ _ _ _ _ _ _ _ _)
      | (with_reducible exact ih2 _ _ _ _ _ _ _ _ _ _ _ _ _ _ _ _ _)
      | (with_reducible exact LeO.refl _)
      | (with_reducible exact LeO.none _)
      | (with_reducible refine LeO.ite ?_ ?_)
      | (with_reducible refine LeO.bind ?_ (fun _ => ?_))
      | exact ih0 _ _ _ _ _ _ _ _ _ _ _ _ _ _ _ _ _
      | exact ih1 _ _ _ _ _ _ _ _ _ _ _ _ _ _ _ _ _
      | exact ih2 _ _ _ _ _ _ _ _ _ _ _ _ _ _ _ _ _
      | exact LeO.none _
      | refine LeO.ite ?_ ?_
      | refine LeO.bind ?_ (fun _ => ?_)
    · intro y0 y1 y2 y3 y4 y5 y6 y7 y8 y9 y10 y11 y12 y13 y14 y15 y16
      unfold signalmanref15_Check.j2
      repeat' first
      | (with_reducible exact ih0 _ _ _ _ _ _ _ _ _ _ _ _ _ _ _ _ _)
      | (with_reducible exact ih1 _ _ _ _ _ _ _ _ _ _ _ _ _ _ _ _ _)
      | (with_reducible exact ih2 _ _ _ _ _ _ _ _ _ _ _ _ _ _ _ _ _)
      | (with_reducible exact LeO.refl _)
      | (with_reducible exact LeO.none _)
      | (with_reducible refine LeO.ite ?_ ?_)
      | (with_reducible refine LeO.bind ?_ (fun _ => ?_))
      | exact ih0 _ _ _ _ _ _ _ _ _ _ _ _ _ _ _ _ _
      | exact ih1 _ _ _ _ _ _ _ _ _ _ _ _ _ _ _ _ _
      | exact ih2 _ _ _ _ _ _ _ _ _ _ _ _ _ _ _ _ _
      | exact LeO.none _
      | refine LeO.ite ?_ ?_
      | refine LeO.bind ?_ (fun _ => ?_)
theorem signalmanref15_Check.mono : ∀ a0 a1 a2 a3 a4 a5 a6 a7 a8 a9 a10 a11 a12 a13 a14 a15 k, LeO (signalmanref15_Check.f k a0 a1 a2 a3 a4 a5 a6 a7 a8 a9 a10 a11 a12 a13 a14 a15) (signalmanref15_Check.f (k + 1) a0 a1 a2 a3 a4 a5 a6 a7 a8 a9 a10 a11 a12 a13 a14 a15) := by
  intro a0 a1 a2 a3 a4 a5 a6 a7 a8 a9 a10 a11 a12 a13 a14 a15 k
  obtain ⟨ih0, ih1, ih2⟩ := signalmanref15_Check.mono_l k
  unfold signalmanref15_Check.f
  repeat' first
      | (with_reducible exact ih0 _ _ _ _ _ _ _ _ _ _ _ _ _ _ _ _ _)
      | (with_reducible exact ih1 _ _ _ _ _ _ _ _ _ _ _ _ _ _ _ _ _)
      | (with_reducible exact ih2 _ _ _ _ _ _ _ _ _ _ _ _ _ _ _ _ _)
      | (with_reducible exact LeO.refl _)
      | (with_reducible exact LeO.none _)
      | (with_reducible refine LeO.ite ?_ ?_)
      | (with_reducible refine LeO.bind ?_ (fun _ => ?_))
      | exact ih0 _ _ _ _ _ _ _ _ _ _ _ _ _ _ _ _ _
      | exact ih1 _ _ _ _ _ _ _ _ _ _ _ _ _ _ _ _ _
      | exact ih2 _ _ _ _ _ _ _ _ _ _ _ _ _ _ _ _ _
      | exact LeO.none _
      | refine LeO.ite ?_ ?_
      | refine LeO.bind ?_ (fun _ => ?_)
def signalmanref15_Check.T4 : Bool × List (List Nat × List Nat) := (true, [([], []), ([0], [0]), ([1], [1]), ([2, 1], [1, 2]), ([1], [1]), ([4, 1, 1], [1, 4]), ([3, 5, 5, 1], [1, 3, 5]), ([1, 6], [1, 6]), ([7, 6], [7]), ([8], [8]), ([9, 8], [8, 9]), ([8], [8]), ([11, 8], [8, 11]), ([10, 12, 8], [8, 10, 12]), ([13, 8], [8, 13]), ([8, 14], [8, 14]), ([15, 8, 0, 1, 2, 3, 4, 5, 6, 7, 8, 9, 10, 11, 12, 13, 14, 15], [0, 15])])
def signalmanref15_Check.B4 : List Nat := [0, 1, 3, 7, 3, 19, 63, 127, 255, 511, 1023, 511, 2559, 8191, 16383, 32767, 65535]
theorem signalmanref15_Check.tab4 : rtab .any (opsOf Try.f10 4) = signalmanref15_Check.T4 := by kernel_rfl
theorem signalmanref15_Check.bits4 : waitsOk signalmanref15_Check.T4.2 signalmanref15_Check.B4 = true := by kernel_rfl
set_option maxHeartbeats 8000000 in
set_option maxRecDepth 100000 in
theorem signalmanref15_Check.calls (k : Nat) (a0_0 : Int) (a0_1 : Int) (a0_2 : Int) (a0_3 : Int) (a0_4 : Int) (a0_5 : Int) (a0_6 : Int) (a0_7 : Int) (a0_8 : Int) (a0_9 : Int) (a0_10 : Int) (a0_11 : Int) (a0_12 : Int) (a0_13 : Int) (a0_14 : Bool) (a0_15 : Bool) (r : Int) (w : World) (h : signalmanref15_Check.f k a0_0 a0_1 a0_2 a0_3 a0_4 a0_5 a0_6 a0_7 a0_8 a0_9 a0_10 a0_11 a0_12 a0_13 a0_14 a0_15 = some r) :
    Calls Try.prog 10 #[.agg #[.int .i64 a0_0, .int .i64 a0_1, .int .i64 a0_2, .int .i64 a0_3, .int .i64 a0_4, .int .i64 a0_5, .int .i64 a0_6, .int .i64 a0_7, .int .i64 a0_8, .int .i64 a0_9, .int .i64 a0_10, .int .i64 a0_11, .int .i64 a0_12, .int .i64 a0_13, .bool a0_14, .bool a0_15]] w fun e w' => e = .returned (.int .i64 r) ∧ Below w.heap.size w w' := by
  have hu23 := Try.underlying23
  have HB := Aside0.mk (Below.refl w.heap.size w)
  have H : (if a0_0 = 0 then (if a0_1 = 128 then (signalmanref15_Check.j0 k true a0_0 a0_1 a0_2 a0_3 a0_4 a0_5 a0_6 a0_7 a0_8 a0_9 a0_10 a0_11 a0_12 a0_13 a0_14 a0_15) else (signalmanref15_Check.j0 k (a0_1 == 32768) a0_0 a0_1 a0_2 a0_3 a0_4 a0_5 a0_6 a0_7 a0_8 a0_9 a0_10 a0_11 a0_12 a0_13 a0_14 a0_15)) else (if a0_0 = 1 then (if a0_1 = 128 then (signalmanref15_Check.j0 k true a0_0 a0_1 a0_2 a0_3 a0_4 a0_5 a0_6 a0_7 a0_8 a0_9 a0_10 a0_11 a0_12 a0_13 a0_14 a0_15) else (signalmanref15_Check.j0 k (a0_1 == 32768) a0_0 a0_1 a0_2 a0_3 a0_4 a0_5 a0_6 a0_7 a0_8 a0_9 a0_10 a0_11 a0_12 a0_13 a0_14 a0_15)) else (signalmanref15_Check.j0 k false a0_0 a0_1 a0_2 a0_3 a0_4 a0_5 a0_6 a0_7 a0_8 a0_9 a0_10 a0_11 a0_12 a0_13 a0_14 a0_15))) = some r := h
  clear h
  have HC2 := Aside0.mk H
  clear H
  go_enter Try.func10, Try.ntmps10
  go_upto_region 1 with (first | ((with_reducible refine gate_dst (N := 1) rfl ?_); refine box_event ?hg (N := 1) ?hd (cs := #[.int .i64 a0_0, .int .i64 a0_1, .int .i64 a0_2, .int .i64 a0_3, .int .i64 a0_4, .int .i64 a0_5, .int .i64 a0_6, .int .i64 a0_7, .int .i64 a0_8, .int .i64 a0_9, .int .i64 a0_10, .int .i64 a0_11, .int .i64 a0_12, .int .i64 a0_13, .bool a0_14, .bool a0_15]) (t := 23) ?hr ?_; (case hd => rfl); (case hg => rfl); (case hr => first | (go_simp; done) | (go_simp; rfl)); intro gb142 hg w3 hbox hb; have n0_ := Aside0.mk (below_step (by repeat (first | (with_reducible first | exact HB.out | apply below_alloc | apply pw_below_drewN | apply below_drew1) | exact HB.out)) hb); have n1_ := Aside0.mk (hbox); have n2_ := Aside0.mk ((by rw [hg]; exact (below_size (by repeat (first | (with_reducible first | exact HB.out | apply below_alloc | apply pw_below_drewN | apply below_drew1) | exact HB.out))) : w.heap.size ≤ gb142)); have n3_ := Aside0.mk ((by rw [hg]; exact (below_size (by repeat (first | (with_reducible first | exact HB.out | apply below_alloc | apply pw_below_drewN | apply below_drew1) | exact HB.out))) : w.heap.size ≤ gb142)); clear HB; have HB := n0_; have BK142 := n1_; have GW142 := n2_; have GE142 := n3_; clear n0_ n1_ n2_ n3_; clear hb hbox hg))
  (try simp only [Act.put, List.setIfInBounds_toArray, List.set_cons_zero, List.set_cons_succ])
  go_cut [3] (fun v3 wc => ∃ (kq : Nat) (x3_1 : Bool), v3 = .bool x3_1 ∧ Aside0 (signalmanref15_Check.j0 kq x3_1 a0_0 a0_1 a0_2 a0_3 a0_4 a0_5 a0_6 a0_7 a0_8 a0_9 a0_10 a0_11 a0_12 a0_13 a0_14 a0_15 = some r) ∧ Aside0 (kq ≤ k) ∧ Aside0 (wc.heap[gb142]? = some (.cells #[.int .i64 a0_0, .int .i64 a0_1, .int .i64 a0_2, .int .i64 a0_3, .int .i64 a0_4, .int .i64 a0_5, .int .i64 a0_6, .int .i64 a0_7, .int .i64 a0_8, .int .i64 a0_9, .int .i64 a0_10, .int .i64 a0_11, .int .i64 a0_12, .int .i64 a0_13, .bool a0_14, .bool a0_15] 23 (0, 0))) ∧ Aside0 (Below w.heap.size w wc))
  case first =>
    have H := HC2.out
    clear HC2
    by_cases c4 : a0_0 = 0
    · rw [if_pos c4] at H
      have c4b0 : (a0_0 == 0) = true := beq_iff_eq.mpr c4
      have c4b1 : (a0_0 != 0) = false := bne_eq_false_iff_eq.mpr c4
      clear c4
      (first | rw [c4b0] | (simp only [i64_w, i32_w]; rw [c4b0]) | skip)
      by_cases c5 : a0_1 = 128
      · rw [if_pos c5] at H
        have c5b0 : (a0_1 == 128) = true := beq_iff_eq.mpr c5
        have c5b1 : (a0_1 != 128) = false := bne_eq_false_iff_eq.mpr c5
        clear c5
        have H' := Aside0.mk H
        clear H
        have hcz6_0 : w3.cell? ⟨gb142, 0, none⟩ = some (.int .i64 a0_0) := (blk_cell BK142.out 0).trans rfl
        have hcz6_1 : w3.cell? ⟨gb142, 1, none⟩ = some (.int .i64 a0_1) := (blk_cell BK142.out 1).trans rfl
        have hcz6_2 : w3.cell? ⟨gb142, 2, none⟩ = some (.int .i64 a0_2) := (blk_cell BK142.out 2).trans rfl
        have hcz6_3 : w3.cell? ⟨gb142, 3, none⟩ = some (.int .i64 a0_3) := (blk_cell BK142.out 3).trans rfl
        have hcz6_4 : w3.cell? ⟨gb142, 4, none⟩ = some (.int .i64 a0_4) := (blk_cell BK142.out 4).trans rfl
        have hcz6_5 : w3.cell? ⟨gb142, 5, none⟩ = some (.int .i64 a0_5) := (blk_cell BK142.out 5).trans rfl
        have hcz6_6 : w3.cell? ⟨gb142, 6, none⟩ = some (.int .i64 a0_6) := (blk_cell BK142.out 6).trans rfl
        have hcz6_7 : w3.cell? ⟨gb142, 7, none⟩ = some (.int .i64 a0_7) := (blk_cell BK142.out 7).trans rfl
        have hcz6_8 : w3.cell? ⟨gb142, 8, none⟩ = some (.int .i64 a0_8) := (blk_cell BK142.out 8).trans rfl
        have hcz6_9 : w3.cell? ⟨gb142, 9, none⟩ = some (.int .i64 a0_9) := (blk_cell BK142.out 9).trans rfl
        have hcz6_10 : w3.cell? ⟨gb142, 10, none⟩ = some (.int .i64 a0_10) := (blk_cell BK142.out 10).trans rfl
        have hcz6_11 : w3.cell? ⟨gb142, 11, none⟩ = some (.int .i64 a0_11) := (blk_cell BK142.out 11).trans rfl
        have hcz6_12 : w3.cell? ⟨gb142, 12, none⟩ = some (.int .i64 a0_12) := (blk_cell BK142.out 12).trans rfl
        have hcz6_13 : w3.cell? ⟨gb142, 13, none⟩ = some (.int .i64 a0_13) := (blk_cell BK142.out 13).trans rfl
        have hcz6_14 : w3.cell? ⟨gb142, 14, none⟩ = some (.bool a0_14) := (blk_cell BK142.out 14).trans rfl
        have hcz6_15 : w3.cell? ⟨gb142, 15, none⟩ = some (.bool a0_15) := (blk_cell BK142.out 15).trans rfl
        have hfz6_0 := blk_frozen BK142.out 0
        have hfz6_1 := blk_frozen BK142.out 1
        have hfz6_2 := blk_frozen BK142.out 2
        have hfz6_3 := blk_frozen BK142.out 3
        have hfz6_4 := blk_frozen BK142.out 4
        have hfz6_5 := blk_frozen BK142.out 5
        have hfz6_6 := blk_frozen BK142.out 6
        have hfz6_7 := blk_frozen BK142.out 7
        have hfz6_8 := blk_frozen BK142.out 8
        have hfz6_9 := blk_frozen BK142.out 9
        have hfz6_10 := blk_frozen BK142.out 10
        have hfz6_11 := blk_frozen BK142.out 11
        have hfz6_12 := blk_frozen BK142.out 12
        have hfz6_13 := blk_frozen BK142.out 13
        have hfz6_14 := blk_frozen BK142.out 14
        have hfz6_15 := blk_frozen BK142.out 15
        go_wp2
        go_meet
        case rel => exact ⟨_, (true), (by first | rfl | (simp; done) | (simp [*]; done)), H', ⟨by first | omega | exact Nat.le_refl _⟩, ⟨by (with_reducible repeat (first | refine blk_drewN ?_ _ | refine blk_drew ?_ | refine blk_alloc ?_ _)); exact BK142.out⟩, ⟨by repeat (first | (with_reducible first | exact HB.out | apply below_alloc | apply pw_below_drewN | apply below_drew1 | refine below_set ?_ GE142.out) | exact HB.out)⟩⟩
      · rw [if_neg c5] at H
        have c5b0 : (a0_1 == 128) = false := beq_eq_false_iff_ne.mpr c5
        have c5b1 : (a0_1 != 128) = true := bne_iff_ne.mpr c5
        have H' := Aside0.mk H
        clear H
        have hcz7_0 : w3.cell? ⟨gb142, 0, none⟩ = some (.int .i64 a0_0) := (blk_cell BK142.out 0).trans rfl
        have hcz7_1 : w3.cell? ⟨gb142, 1, none⟩ = some (.int .i64 a0_1) := (blk_cell BK142.out 1).trans rfl
        have hcz7_2 : w3.cell? ⟨gb142, 2, none⟩ = some (.int .i64 a0_2) := (blk_cell BK142.out 2).trans rfl
        have hcz7_3 : w3.cell? ⟨gb142, 3, none⟩ = some (.int .i64 a0_3) := (blk_cell BK142.out 3).trans rfl
        have hcz7_4 : w3.cell? ⟨gb142, 4, none⟩ = some (.int .i64 a0_4) := (blk_cell BK142.out 4).trans rfl
        have hcz7_5 : w3.cell? ⟨gb142, 5, none⟩ = some (.int .i64 a0_5) := (blk_cell BK142.out 5).trans rfl
        have hcz7_6 : w3.cell? ⟨gb142, 6, none⟩ = some (.int .i64 a0_6) := (blk_cell BK142.out 6).trans rfl
        have hcz7_7 : w3.cell? ⟨gb142, 7, none⟩ = some (.int .i64 a0_7) := (blk_cell BK142.out 7).trans rfl
        have hcz7_8 : w3.cell? ⟨gb142, 8, none⟩ = some (.int .i64 a0_8) := (blk_cell BK142.out 8).trans rfl
        have hcz7_9 : w3.cell? ⟨gb142, 9, none⟩ = some (.int .i64 a0_9) := (blk_cell BK142.out 9).trans rfl
        have hcz7_10 : w3.cell? ⟨gb142, 10, none⟩ = some (.int .i64 a0_10) := (blk_cell BK142.out 10).trans rfl
        have hcz7_11 : w3.cell? ⟨gb142, 11, none⟩ = some (.int .i64 a0_11) := (blk_cell BK142.out 11).trans rfl
        have hcz7_12 : w3.cell? ⟨gb142, 12, none⟩ = some (.int .i64 a0_12) := (blk_cell BK142.out 12).trans rfl
        have hcz7_13 : w3.cell? ⟨gb142, 13, none⟩ = some (.int .i64 a0_13) := (blk_cell BK142.out 13).trans rfl
        have hcz7_14 : w3.cell? ⟨gb142, 14, none⟩ = some (.bool a0_14) := (blk_cell BK142.out 14).trans rfl
        have hcz7_15 : w3.cell? ⟨gb142, 15, none⟩ = some (.bool a0_15) := (blk_cell BK142.out 15).trans rfl
        have hfz7_0 := blk_frozen BK142.out 0
        have hfz7_1 := blk_frozen BK142.out 1
        have hfz7_2 := blk_frozen BK142.out 2
        have hfz7_3 := blk_frozen BK142.out 3
        have hfz7_4 := blk_frozen BK142.out 4
        have hfz7_5 := blk_frozen BK142.out 5
        have hfz7_6 := blk_frozen BK142.out 6
        have hfz7_7 := blk_frozen BK142.out 7
        have hfz7_8 := blk_frozen BK142.out 8
        have hfz7_9 := blk_frozen BK142.out 9
        have hfz7_10 := blk_frozen BK142.out 10
        have hfz7_11 := blk_frozen BK142.out 11
        have hfz7_12 := blk_frozen BK142.out 12
        have hfz7_13 := blk_frozen BK142.out 13
        have hfz7_14 := blk_frozen BK142.out 14
        have hfz7_15 := blk_frozen BK142.out 15
        go_wp2
        go_meet
        case rel => exact ⟨_, ((a0_1 == 32768)), (by first | rfl | (simp; done) | (simp [*]; done)), H', ⟨by first | omega | exact Nat.le_refl _⟩, ⟨by (with_reducible repeat (first | refine blk_drewN ?_ _ | refine blk_drew ?_ | refine blk_alloc ?_ _)); exact BK142.out⟩, ⟨by repeat (first | (with_reducible first | exact HB.out | apply below_alloc | apply pw_below_drewN | apply below_drew1 | refine below_set ?_ GE142.out) | exact HB.out)⟩⟩
    · rw [if_neg c4] at H
      have c4b0 : (a0_0 == 0) = false := beq_eq_false_iff_ne.mpr c4
      have c4b1 : (a0_0 != 0) = true := bne_iff_ne.mpr c4
      (first | rw [c4b0] | (simp only [i64_w, i32_w]; rw [c4b0]) | skip)
      by_cases c8 : a0_0 = 1
      · rw [if_pos c8] at H
        have c8b0 : (a0_0 == 1) = true := beq_iff_eq.mpr c8
        have c8b1 : (a0_0 != 1) = false := bne_eq_false_iff_eq.mpr c8
        clear c8
        by_cases c9 : a0_1 = 128
        · rw [if_pos c9] at H
          have c9b0 : (a0_1 == 128) = true := beq_iff_eq.mpr c9
          have c9b1 : (a0_1 != 128) = false := bne_eq_false_iff_eq.mpr c9
          clear c9
          have H' := Aside0.mk H
          clear H
          have hcz10_0 : w3.cell? ⟨gb142, 0, none⟩ = some (.int .i64 a0_0) := (blk_cell BK142.out 0).trans rfl
          have hcz10_1 : w3.cell? ⟨gb142, 1, none⟩ = some (.int .i64 a0_1) := (blk_cell BK142.out 1).trans rfl
          have hcz10_2 : w3.cell? ⟨gb142, 2, none⟩ = some (.int .i64 a0_2) := (blk_cell BK142.out 2).trans rfl
          have hcz10_3 : w3.cell? ⟨gb142, 3, none⟩ = some (.int .i64 a0_3) := (blk_cell BK142.out 3).trans rfl
          have hcz10_4 : w3.cell? ⟨gb142, 4, none⟩ = some (.int .i64 a0_4) := (blk_cell BK142.out 4).trans rfl
          have hcz10_5 : w3.cell? ⟨gb142, 5, none⟩ = some (.int .i64 a0_5) := (blk_cell BK142.out 5).trans rfl
          have hcz10_6 : w3.cell? ⟨gb142, 6, none⟩ = some (.int .i64 a0_6) := (blk_cell BK142.out 6).trans rfl
          have hcz10_7 : w3.cell? ⟨gb142, 7, none⟩ = some (.int .i64 a0_7) := (blk_cell BK142.out 7).trans rfl
          have hcz10_8 : w3.cell? ⟨gb142, 8, none⟩ = some (.int .i64 a0_8) := (blk_cell BK142.out 8).trans rfl
          have hcz10_9 : w3.cell? ⟨gb142, 9, none⟩ = some (.int .i64 a0_9) := (blk_cell BK142.out 9).trans rfl
          have hcz10_10 : w3.cell? ⟨gb142, 10, none⟩ = some (.int .i64 a0_10) := (blk_cell BK142.out 10).trans rfl
          have hcz10_11 : w3.cell? ⟨gb142, 11, none⟩ = some (.int .i64 a0_11) := (blk_cell BK142.out 11).trans rfl
          have hcz10_12 : w3.cell? ⟨gb142, 12, none⟩ = some (.int .i64 a0_12) := (blk_cell BK142.out 12).trans rfl
          have hcz10_13 : w3.cell? ⟨gb142, 13, none⟩ = some (.int .i64 a0_13) := (blk_cell BK142.out 13).trans rfl
          have hcz10_14 : w3.cell? ⟨gb142, 14, none⟩ = some (.bool a0_14) := (blk_cell BK142.out 14).trans rfl
          have hcz10_15 : w3.cell? ⟨gb142, 15, none⟩ = some (.bool a0_15) := (blk_cell BK142.out 15).trans rfl
          have hfz10_0 := blk_frozen BK142.out 0
          have hfz10_1 := blk_frozen BK142.out 1
          have hfz10_2 := blk_frozen BK142.out 2
          have hfz10_3 := blk_frozen BK142.out 3
          have hfz10_4 := blk_frozen BK142.out 4
          have hfz10_5 := blk_frozen BK142.out 5
          have hfz10_6 := blk_frozen BK142.out 6
          have hfz10_7 := blk_frozen BK142.out 7
          have hfz10_8 := blk_frozen BK142.out 8
          have hfz10_9 := blk_frozen BK142.out 9
          have hfz10_10 := blk_frozen BK142.out 10
          have hfz10_11 := blk_frozen BK142.out 11
          have hfz10_12 := blk_frozen BK142.out 12
          have hfz10_13 := blk_frozen BK142.out 13
          have hfz10_14 := blk_frozen BK142.out 14
          have hfz10_15 := blk_frozen BK142.out 15
          go_wp2
          go_meet
          case rel => exact ⟨_, (true), (by first | rfl | (simp; done) | (simp [*]; done)), H', ⟨by first | omega | exact Nat.le_refl _⟩, ⟨by (with_reducible repeat (first | refine blk_drewN ?_ _ | refine blk_drew ?_ | refine blk_alloc ?_ _)); exact BK142.out⟩, ⟨by repeat (first | (with_reducible first | exact HB.out | apply below_alloc | apply pw_below_drewN | apply below_drew1 | refine below_set ?_ GE142.out) | exact HB.out)⟩⟩
        · rw [if_neg c9] at H
          have c9b0 : (a0_1 == 128) = false := beq_eq_false_iff_ne.mpr c9
          have c9b1 : (a0_1 != 128) = true := bne_iff_ne.mpr c9
          have H' := Aside0.mk H
          clear H
          have hcz11_0 : w3.cell? ⟨gb142, 0, none⟩ = some (.int .i64 a0_0) := (blk_cell BK142.out 0).trans rfl
          have hcz11_1 : w3.cell? ⟨gb142, 1, none⟩ = some (.int .i64 a0_1) := (blk_cell BK142.out 1).trans rfl
          have hcz11_2 : w3.cell? ⟨gb142, 2, none⟩ = some (.int .i64 a0_2) := (blk_cell BK142.out 2).trans rfl
          have hcz11_3 : w3.cell? ⟨gb142, 3, none⟩ = some (.int .i64 a0_3) := (blk_cell BK142.out 3).trans rfl
          have hcz11_4 : w3.cell? ⟨gb142, 4, none⟩ = some (.int .i64 a0_4) := (blk_cell BK142.out 4).trans rfl
          have hcz11_5 : w3.cell? ⟨gb142, 5, none⟩ = some (.int .i64 a0_5) := (blk_cell BK142.out 5).trans rfl
          have hcz11_6 : w3.cell? ⟨gb142, 6, none⟩ = some (.int .i64 a0_6) := (blk_cell BK142.out 6).trans rfl
          have hcz11_7 : w3.cell? ⟨gb142, 7, none⟩ = some (.int .i64 a0_7) := (blk_cell BK142.out 7).trans rfl
          have hcz11_8 : w3.cell? ⟨gb142, 8, none⟩ = some (.int .i64 a0_8) := (blk_cell BK142.out 8).trans rfl
          have hcz11_9 : w3.cell? ⟨gb142, 9, none⟩ = some (.int .i64 a0_9) := (blk_cell BK142.out 9).trans rfl
          have hcz11_10 : w3.cell? ⟨gb142, 10, none⟩ = some (.int .i64 a0_10) := (blk_cell BK142.out 10).trans rfl
          have hcz11_11 : w3.cell? ⟨gb142, 11, none⟩ = some (.int .i64 a0_11) := (blk_cell BK142.out 11).trans rfl
          have hcz11_12 : w3.cell? ⟨gb142, 12, none⟩ = some (.int .i64 a0_12) := (blk_cell BK142.out 12).trans rfl
          have hcz11_13 : w3.cell? ⟨gb142, 13, none⟩ = some (.int .i64 a0_13) := (blk_cell BK142.out 13).trans rfl
          have hcz11_14 : w3.cell? ⟨gb142, 14, none⟩ = some (.bool a0_14) := (blk_cell BK142.out 14).trans rfl
          have hcz11_15 : w3.cell? ⟨gb142, 15, none⟩ = some (.bool a0_15) := (blk_cell BK142.out 15).trans rfl
          have hfz11_0 := blk_frozen BK142.out 0
          have hfz11_1 := blk_frozen BK142.out 1
          have hfz11_2 := blk_frozen BK142.out 2
          have hfz11_3 := blk_frozen BK142.out 3
          have hfz11_4 := blk_frozen BK142.out 4
          have hfz11_5 := blk_frozen BK142.out 5
          have hfz11_6 := blk_frozen BK142.out 6
          have hfz11_7 := blk_frozen BK142.out 7
          have hfz11_8 := blk_frozen BK142.out 8
          have hfz11_9 := blk_frozen BK142.out 9
          have hfz11_10 := blk_frozen BK142.out 10
          have hfz11_11 := blk_frozen BK142.out 11
          have hfz11_12 := blk_frozen BK142.out 12
          have hfz11_13 := blk_frozen BK142.out 13
          have hfz11_14 := blk_frozen BK142.out 14
          have hfz11_15 := blk_frozen BK142.out 15
          go_wp2
          go_meet
          case rel => exact ⟨_, ((a0_1 == 32768)), (by first | rfl | (simp; done) | (simp [*]; done)), H', ⟨by first | omega | exact Nat.le_refl _⟩, ⟨by (with_reducible repeat (first | refine blk_drewN ?_ _ | refine blk_drew ?_ | refine blk_alloc ?_ _)); exact BK142.out⟩, ⟨by repeat (first | (with_reducible first | exact HB.out | apply below_alloc | apply pw_below_drewN | apply below_drew1 | refine below_set ?_ GE142.out) | exact HB.out)⟩⟩
      · rw [if_neg c8] at H
        have c8b0 : (a0_0 == 1) = false := beq_eq_false_iff_ne.mpr c8
        have c8b1 : (a0_0 != 1) = true := bne_iff_ne.mpr c8
        have H' := Aside0.mk H
        clear H
        have hcz12_0 : w3.cell? ⟨gb142, 0, none⟩ = some (.int .i64 a0_0) := (blk_cell BK142.out 0).trans rfl
        have hcz12_1 : w3.cell? ⟨gb142, 1, none⟩ = some (.int .i64 a0_1) := (blk_cell BK142.out 1).trans rfl
        have hcz12_2 : w3.cell? ⟨gb142, 2, none⟩ = some (.int .i64 a0_2) := (blk_cell BK142.out 2).trans rfl
        have hcz12_3 : w3.cell? ⟨gb142, 3, none⟩ = some (.int .i64 a0_3) := (blk_cell BK142.out 3).trans rfl
        have hcz12_4 : w3.cell? ⟨gb142, 4, none⟩ = some (.int .i64 a0_4) := (blk_cell BK142.out 4).trans rfl
        have hcz12_5 : w3.cell? ⟨gb142, 5, none⟩ = some (.int .i64 a0_5) := (blk_cell BK142.out 5).trans rfl
        have hcz12_6 : w3.cell? ⟨gb142, 6, none⟩ = some (.int .i64 a0_6) := (blk_cell BK142.out 6).trans rfl
        have hcz12_7 : w3.cell? ⟨gb142, 7, none⟩ = some (.int .i64 a0_7) := (blk_cell BK142.out 7).trans rfl
        have hcz12_8 : w3.cell? ⟨gb142, 8, none⟩ = some (.int .i64 a0_8) := (blk_cell BK142.out 8).trans rfl
        have hcz12_9 : w3.cell? ⟨gb142, 9, none⟩ = some (.int .i64 a0_9) := (blk_cell BK142.out 9).trans rfl
        have hcz12_10 : w3.cell? ⟨gb142, 10, none⟩ = some (.int .i64 a0_10) := (blk_cell BK142.out 10).trans rfl
        have hcz12_11 : w3.cell? ⟨gb142, 11, none⟩ = some (.int .i64 a0_11) := (blk_cell BK142.out 11).trans rfl
        have hcz12_12 : w3.cell? ⟨gb142, 12, none⟩ = some (.int .i64 a0_12) := (blk_cell BK142.out 12).trans rfl
        have hcz12_13 : w3.cell? ⟨gb142, 13, none⟩ = some (.int .i64 a0_13) := (blk_cell BK142.out 13).trans rfl
        have hcz12_14 : w3.cell? ⟨gb142, 14, none⟩ = some (.bool a0_14) := (blk_cell BK142.out 14).trans rfl
        have hcz12_15 : w3.cell? ⟨gb142, 15, none⟩ = some (.bool a0_15) := (blk_cell BK142.out 15).trans rfl
        have hfz12_0 := blk_frozen BK142.out 0
        have hfz12_1 := blk_frozen BK142.out 1
        have hfz12_2 := blk_frozen BK142.out 2
        have hfz12_3 := blk_frozen BK142.out 3
        have hfz12_4 := blk_frozen BK142.out 4
        have hfz12_5 := blk_frozen BK142.out 5
        have hfz12_6 := blk_frozen BK142.out 6
        have hfz12_7 := blk_frozen BK142.out 7
        have hfz12_8 := blk_frozen BK142.out 8
        have hfz12_9 := blk_frozen BK142.out 9
        have hfz12_10 := blk_frozen BK142.out 10
        have hfz12_11 := blk_frozen BK142.out 11
        have hfz12_12 := blk_frozen BK142.out 12
        have hfz12_13 := blk_frozen BK142.out 13
        have hfz12_14 := blk_frozen BK142.out 14
        have hfz12_15 := blk_frozen BK142.out 15
        go_wp2
        go_meet
        case rel => exact ⟨_, (false), (by first | rfl | (simp; done) | (simp [*]; done)), H', ⟨by first | omega | exact Nat.le_refl _⟩, ⟨by (with_reducible repeat (first | refine blk_drewN ?_ _ | refine blk_drew ?_ | refine blk_alloc ?_ _)); exact BK142.out⟩, ⟨by repeat (first | (with_reducible first | exact HB.out | apply below_alloc | apply pw_below_drewN | apply below_drew1 | refine below_set ?_ GE142.out) | exact HB.out)⟩⟩
  case rest =>
    clear HC2
    try clear c1
    try clear p2
    try clear c4
    try clear c4b0
    try clear c4b1
    try clear c5
    try clear c5b0
    try clear c5b1
    try clear c8
    try clear c8b0
    try clear c8b1
    try clear c9
    try clear c9b0
    try clear c9b1
    try clear c10
    try clear hcz10_0
    try clear hcz10_1
    try clear hcz10_10
    try clear hcz10_11
    try clear hcz10_12
    try clear hcz10_13
    try clear hcz10_14
    try clear hcz10_15
    try clear hcz10_2
    try clear hcz10_3
    try clear hcz10_4
    try clear hcz10_5
    try clear hcz10_6
    try clear hcz10_7
    try clear hcz10_8
    try clear hcz10_9
    try clear hcz11_0
    try clear hcz11_1
    try clear hcz11_10
    try clear hcz11_11
    try clear hcz11_12
    try clear hcz11_13
    try clear hcz11_14
    try clear hcz11_15
    try clear hcz11_2
    try clear hcz11_3
    try clear hcz11_4
    try clear hcz11_5
    try clear hcz11_6
    try clear hcz11_7
    try clear hcz11_8
    try clear hcz11_9
    try clear hcz12_0
    try clear hcz12_1
    try clear hcz12_10
    try clear hcz12_11
    try clear hcz12_12
    try clear hcz12_13
    try clear hcz12_14
    try clear hcz12_15
    try clear hcz12_2
    try clear hcz12_3
    try clear hcz12_4
    try clear hcz12_5
    try clear hcz12_6
    try clear hcz12_7
    try clear hcz12_8
    try clear hcz12_9
    try clear hcz6_0
    try clear hcz6_1
    try clear hcz6_10
    try clear hcz6_11
    try clear hcz6_12
    try clear hcz6_13
    try clear hcz6_14
    try clear hcz6_15
    try clear hcz6_2
    try clear hcz6_3
    try clear hcz6_4
    try clear hcz6_5
    try clear hcz6_6
    try clear hcz6_7
    try clear hcz6_8
    try clear hcz6_9
    try clear hcz7_0
    try clear hcz7_1
    try clear hcz7_10
    try clear hcz7_11
    try clear hcz7_12
    try clear hcz7_13
    try clear hcz7_14
    try clear hcz7_15
    try clear hcz7_2
    try clear hcz7_3
    try clear hcz7_4
    try clear hcz7_5
    try clear hcz7_6
    try clear hcz7_7
    try clear hcz7_8
    try clear hcz7_9
    try clear hfz10_0
    try clear hfz10_1
    try clear hfz10_10
    try clear hfz10_11
    try clear hfz10_12
    try clear hfz10_13
    try clear hfz10_14
    try clear hfz10_15
    try clear hfz10_2
    try clear hfz10_3
    try clear hfz10_4
    try clear hfz10_5
    try clear hfz10_6
    try clear hfz10_7
    try clear hfz10_8
    try clear hfz10_9
    try clear hfz11_0
    try clear hfz11_1
    try clear hfz11_10
    try clear hfz11_11
    try clear hfz11_12
    try clear hfz11_13
    try clear hfz11_14
    try clear hfz11_15
    try clear hfz11_2
    try clear hfz11_3
    try clear hfz11_4
    try clear hfz11_5
    try clear hfz11_6
    try clear hfz11_7
    try clear hfz11_8
    try clear hfz11_9
    try clear hfz12_0
    try clear hfz12_1
    try clear hfz12_10
    try clear hfz12_11
    try clear hfz12_12
    try clear hfz12_13
    try clear hfz12_14
    try clear hfz12_15
    try clear hfz12_2
    try clear hfz12_3
    try clear hfz12_4
    try clear hfz12_5
    try clear hfz12_6
    try clear hfz12_7
    try clear hfz12_8
    try clear hfz12_9
    try clear hfz6_0
    try clear hfz6_1
    try clear hfz6_10
    try clear hfz6_11
    try clear hfz6_12
    try clear hfz6_13
    try clear hfz6_14
    try clear hfz6_15
    try clear hfz6_2
    try clear hfz6_3
    try clear hfz6_4
    try clear hfz6_5
    try clear hfz6_6
    try clear hfz6_7
    try clear hfz6_8
    try clear hfz6_9
    try clear hfz7_0
    try clear hfz7_1
    try clear hfz7_10
    try clear hfz7_11
    try clear hfz7_12
    try clear hfz7_13
    try clear hfz7_14
    try clear hfz7_15
    try clear hfz7_2
    try clear hfz7_3
    try clear hfz7_4
    try clear hfz7_5
    try clear hfz7_6
    try clear hfz7_7
    try clear hfz7_8
    try clear hfz7_9
    obtain ⟨kq, x3_1, rfl, HA, HJ1, BK142, HB⟩ := hcut
    cases kq with
    | zero => exact absurd HA.out (by simp [signalmanref15_Check.j0])
    | succ kj1 =>
      have H := HA.out
      clear HA
      simp only [signalmanref15_Check.j0] at H
      have HC13 := Aside0.mk H
      clear H
      go_upto_region 2 with (fail)
      go_cut [3] (fun v3 wc => ∃ (kq : Nat) (x3_12 : Bool), v3 = .bool x3_12 ∧ Aside0 (signalmanref15_Check.j1 kq x3_12 a0_0 a0_1 a0_2 a0_3 a0_4 a0_5 a0_6 a0_7 a0_8 a0_9 a0_10 a0_11 a0_12 a0_13 a0_14 a0_15 = some r) ∧ Aside0 (kq ≤ kj1) ∧ Aside0 (wc.heap[gb142]? = some (.cells #[.int .i64 a0_0, .int .i64 a0_1, .int .i64 a0_2, .int .i64 a0_3, .int .i64 a0_4, .int .i64 a0_5, .int .i64 a0_6, .int .i64 a0_7, .int .i64 a0_8, .int .i64 a0_9, .int .i64 a0_10, .int .i64 a0_11, .int .i64 a0_12, .int .i64 a0_13, .bool a0_14, .bool a0_15] 23 (0, 0))) ∧ Aside0 (Below w.heap.size w wc))
      case first =>
        have H := HC13.out
        clear HC13
        by_cases c14 : x3_1 = true
        · subst c14
          have H1 : ((signalmanref15_within.f a0_2 1 (wrap64 (Int.tdiv a0_1 8))).bind fun t143 => (if t143 = true then ((signalmanref15_within.f a0_3 1 1048576).bind fun t144 => (if t144 = true then ((signalmanref15_within.f a0_6 1 1048576).bind fun t145 => (if t145 = true then ((signalmanref15_within.f a0_4 1 100).bind fun t146 => (if t146 = true then ((signalmanref15_within.f a0_5 0 1048576).bind fun t147 => (signalmanref15_Check.j1 kj1 t147 a0_0 a0_1 a0_2 a0_3 a0_4 a0_5 a0_6 a0_7 a0_8 a0_9 a0_10 a0_11 a0_12 a0_13 a0_14 a0_15)) else (signalmanref15_Check.j1 kj1 false a0_0 a0_1 a0_2 a0_3 a0_4 a0_5 a0_6 a0_7 a0_8 a0_9 a0_10 a0_11 a0_12 a0_13 a0_14 a0_15))) else (signalmanref15_Check.j1 kj1 false a0_0 a0_1 a0_2 a0_3 a0_4 a0_5 a0_6 a0_7 a0_8 a0_9 a0_10 a0_11 a0_12 a0_13 a0_14 a0_15))) else (signalmanref15_Check.j1 kj1 false a0_0 a0_1 a0_2 a0_3 a0_4 a0_5 a0_6 a0_7 a0_8 a0_9 a0_10 a0_11 a0_12 a0_13 a0_14 a0_15))) else (signalmanref15_Check.j1 kj1 false a0_0 a0_1 a0_2 a0_3 a0_4 a0_5 a0_6 a0_7 a0_8 a0_9 a0_10 a0_11 a0_12 a0_13 a0_14 a0_15))) = some r := by rw [if_pos rfl] at H; exact H
          clear H
          have H := H1
          clear H1
          replace H := Option.bind_eq_some_iff.mp H
          obtain ⟨t143, A150, H⟩ := H
          replace H : (if t143 = true then ((signalmanref15_within.f a0_3 1 1048576).bind fun t144 => (if t144 = true then ((signalmanref15_within.f a0_6 1 1048576).bind fun t145 => (if t145 = true then ((signalmanref15_within.f a0_4 1 100).bind fun t146 => (if t146 = true then ((signalmanref15_within.f a0_5 0 1048576).bind fun t147 => (signalmanref15_Check.j1 kj1 t147 a0_0 a0_1 a0_2 a0_3 a0_4 a0_5 a0_6 a0_7 a0_8 a0_9 a0_10 a0_11 a0_12 a0_13 a0_14 a0_15)) else (signalmanref15_Check.j1 kj1 false a0_0 a0_1 a0_2 a0_3 a0_4 a0_5 a0_6 a0_7 a0_8 a0_9 a0_10 a0_11 a0_12 a0_13 a0_14 a0_15))) else (signalmanref15_Check.j1 kj1 false a0_0 a0_1 a0_2 a0_3 a0_4 a0_5 a0_6 a0_7 a0_8 a0_9 a0_10 a0_11 a0_12 a0_13 a0_14 a0_15))) else (signalmanref15_Check.j1 kj1 false a0_0 a0_1 a0_2 a0_3 a0_4 a0_5 a0_6 a0_7 a0_8 a0_9 a0_10 a0_11 a0_12 a0_13 a0_14 a0_15))) else (signalmanref15_Check.j1 kj1 false a0_0 a0_1 a0_2 a0_3 a0_4 a0_5 a0_6 a0_7 a0_8 a0_9 a0_10 a0_11 a0_12 a0_13 a0_14 a0_15)) = some r := H
          have A15 := Aside0.mk A150
          clear A150
          by_cases c16 : t143 = true
          · subst c16
            have H1 : ((signalmanref15_within.f a0_3 1 1048576).bind fun t144 => (if t144 = true then ((signalmanref15_within.f a0_6 1 1048576).bind fun t145 => (if t145 = true then ((signalmanref15_within.f a0_4 1 100).bind fun t146 => (if t146 = true then ((signalmanref15_within.f a0_5 0 1048576).bind fun t147 => (signalmanref15_Check.j1 kj1 t147 a0_0 a0_1 a0_2 a0_3 a0_4 a0_5 a0_6 a0_7 a0_8 a0_9 a0_10 a0_11 a0_12 a0_13 a0_14 a0_15)) else (signalmanref15_Check.j1 kj1 false a0_0 a0_1 a0_2 a0_3 a0_4 a0_5 a0_6 a0_7 a0_8 a0_9 a0_10 a0_11 a0_12 a0_13 a0_14 a0_15))) else (signalmanref15_Check.j1 kj1 false a0_0 a0_1 a0_2 a0_3 a0_4 a0_5 a0_6 a0_7 a0_8 a0_9 a0_10 a0_11 a0_12 a0_13 a0_14 a0_15))) else (signalmanref15_Check.j1 kj1 false a0_0 a0_1 a0_2 a0_3 a0_4 a0_5 a0_6 a0_7 a0_8 a0_9 a0_10 a0_11 a0_12 a0_13 a0_14 a0_15))) = some r := by rw [if_pos rfl] at H; exact H
            clear H
            have H := H1
            clear H1
            replace H := Option.bind_eq_some_iff.mp H
            obtain ⟨t144, A170, H⟩ := H
            replace H : (if t144 = true then ((signalmanref15_within.f a0_6 1 1048576).bind fun t145 => (if t145 = true then ((signalmanref15_within.f a0_4 1 100).bind fun t146 => (if t146 = true then ((signalmanref15_within.f a0_5 0 1048576).bind fun t147 => (signalmanref15_Check.j1 kj1 t147 a0_0 a0_1 a0_2 a0_3 a0_4 a0_5 a0_6 a0_7 a0_8 a0_9 a0_10 a0_11 a0_12 a0_13 a0_14 a0_15)) else (signalmanref15_Check.j1 kj1 false a0_0 a0_1 a0_2 a0_3 a0_4 a0_5 a0_6 a0_7 a0_8 a0_9 a0_10 a0_11 a0_12 a0_13 a0_14 a0_15))) else (signalmanref15_Check.j1 kj1 false a0_0 a0_1 a0_2 a0_3 a0_4 a0_5 a0_6 a0_7 a0_8 a0_9 a0_10 a0_11 a0_12 a0_13 a0_14 a0_15))) else (signalmanref15_Check.j1 kj1 false a0_0 a0_1 a0_2 a0_3 a0_4 a0_5 a0_6 a0_7 a0_8 a0_9 a0_10 a0_11 a0_12 a0_13 a0_14 a0_15)) = some r := H
            have A17 := Aside0.mk A170
            clear A170
            by_cases c18 : t144 = true
            · subst c18
              have H1 : ((signalmanref15_within.f a0_6 1 1048576).bind fun t145 => (if t145 = true then ((signalmanref15_within.f a0_4 1 100).bind fun t146 => (if t146 = true then ((signalmanref15_within.f a0_5 0 1048576).bind fun t147 => (signalmanref15_Check.j1 kj1 t147 a0_0 a0_1 a0_2 a0_3 a0_4 a0_5 a0_6 a0_7 a0_8 a0_9 a0_10 a0_11 a0_12 a0_13 a0_14 a0_15)) else (signalmanref15_Check.j1 kj1 false a0_0 a0_1 a0_2 a0_3 a0_4 a0_5 a0_6 a0_7 a0_8 a0_9 a0_10 a0_11 a0_12 a0_13 a0_14 a0_15))) else (signalmanref15_Check.j1 kj1 false a0_0 a0_1 a0_2 a0_3 a0_4 a0_5 a0_6 a0_7 a0_8 a0_9 a0_10 a0_11 a0_12 a0_13 a0_14 a0_15))) = some r := by rw [if_pos rfl] at H; exact H
              clear H
              have H := H1
              clear H1
              replace H := Option.bind_eq_some_iff.mp H
              obtain ⟨t145, A190, H⟩ := H
              replace H : (if t145 = true then ((signalmanref15_within.f a0_4 1 100).bind fun t146 => (if t146 = true then ((signalmanref15_within.f a0_5 0 1048576).bind fun t147 => (signalmanref15_Check.j1 kj1 t147 a0_0 a0_1 a0_2 a0_3 a0_4 a0_5 a0_6 a0_7 a0_8 a0_9 a0_10 a0_11 a0_12 a0_13 a0_14 a0_15)) else (signalmanref15_Check.j1 kj1 false a0_0 a0_1 a0_2 a0_3 a0_4 a0_5 a0_6 a0_7 a0_8 a0_9 a0_10 a0_11 a0_12 a0_13 a0_14 a0_15))) else (signalmanref15_Check.j1 kj1 false a0_0 a0_1 a0_2 a0_3 a0_4 a0_5 a0_6 a0_7 a0_8 a0_9 a0_10 a0_11 a0_12 a0_13 a0_14 a0_15)) = some r := H
              have A19 := Aside0.mk A190
              clear A190
              by_cases c20 : t145 = true
              · subst c20
                have H1 : ((signalmanref15_within.f a0_4 1 100).bind fun t146 => (if t146 = true then ((signalmanref15_within.f a0_5 0 1048576).bind fun t147 => (signalmanref15_Check.j1 kj1 t147 a0_0 a0_1 a0_2 a0_3 a0_4 a0_5 a0_6 a0_7 a0_8 a0_9 a0_10 a0_11 a0_12 a0_13 a0_14 a0_15)) else (signalmanref15_Check.j1 kj1 false a0_0 a0_1 a0_2 a0_3 a0_4 a0_5 a0_6 a0_7 a0_8 a0_9 a0_10 a0_11 a0_12 a0_13 a0_14 a0_15))) = some r := by rw [if_pos rfl] at H; exact H
                clear H
                have H := H1
                clear H1
                replace H := Option.bind_eq_some_iff.mp H
                obtain ⟨t146, A210, H⟩ := H
                replace H : (if t146 = true then ((signalmanref15_within.f a0_5 0 1048576).bind fun t147 => (signalmanref15_Check.j1 kj1 t147 a0_0 a0_1 a0_2 a0_3 a0_4 a0_5 a0_6 a0_7 a0_8 a0_9 a0_10 a0_11 a0_12 a0_13 a0_14 a0_15)) else (signalmanref15_Check.j1 kj1 false a0_0 a0_1 a0_2 a0_3 a0_4 a0_5 a0_6 a0_7 a0_8 a0_9 a0_10 a0_11 a0_12 a0_13 a0_14 a0_15)) = some r := H
                have A21 := Aside0.mk A210
                clear A210
                by_cases c22 : t146 = true
                · subst c22
                  have H1 : ((signalmanref15_within.f a0_5 0 1048576).bind fun t147 => (signalmanref15_Check.j1 kj1 t147 a0_0 a0_1 a0_2 a0_3 a0_4 a0_5 a0_6 a0_7 a0_8 a0_9 a0_10 a0_11 a0_12 a0_13 a0_14 a0_15)) = some r := by rw [if_pos rfl] at H; exact H
                  clear H
                  have H := H1
                  clear H1
                  replace H := Option.bind_eq_some_iff.mp H
                  obtain ⟨t147, A230, H⟩ := H
                  replace H : (signalmanref15_Check.j1 kj1 t147 a0_0 a0_1 a0_2 a0_3 a0_4 a0_5 a0_6 a0_7 a0_8 a0_9 a0_10 a0_11 a0_12 a0_13 a0_14 a0_15) = some r := H
                  have A23 := Aside0.mk A230
                  clear A230
                  have H' := Aside0.mk H
                  clear H
                  have hcz24_0 : wc.cell? ⟨gb142, 0, none⟩ = some (.int .i64 a0_0) := (blk_cell BK142.out 0).trans rfl
                  have hcz24_1 : wc.cell? ⟨gb142, 1, none⟩ = some (.int .i64 a0_1) := (blk_cell BK142.out 1).trans rfl
                  have hcz24_2 : wc.cell? ⟨gb142, 2, none⟩ = some (.int .i64 a0_2) := (blk_cell BK142.out 2).trans rfl
                  have hcz24_3 : wc.cell? ⟨gb142, 3, none⟩ = some (.int .i64 a0_3) := (blk_cell BK142.out 3).trans rfl
                  have hcz24_4 : wc.cell? ⟨gb142, 4, none⟩ = some (.int .i64 a0_4) := (blk_cell BK142.out 4).trans rfl
                  have hcz24_5 : wc.cell? ⟨gb142, 5, none⟩ = some (.int .i64 a0_5) := (blk_cell BK142.out 5).trans rfl
                  have hcz24_6 : wc.cell? ⟨gb142, 6, none⟩ = some (.int .i64 a0_6) := (blk_cell BK142.out 6).trans rfl
                  have hcz24_7 : wc.cell? ⟨gb142, 7, none⟩ = some (.int .i64 a0_7) := (blk_cell BK142.out 7).trans rfl
                  have hcz24_8 : wc.cell? ⟨gb142, 8, none⟩ = some (.int .i64 a0_8) := (blk_cell BK142.out 8).trans rfl
                  have hcz24_9 : wc.cell? ⟨gb142, 9, none⟩ = some (.int .i64 a0_9) := (blk_cell BK142.out 9).trans rfl
                  have hcz24_10 : wc.cell? ⟨gb142, 10, none⟩ = some (.int .i64 a0_10) := (blk_cell BK142.out 10).trans rfl
                  have hcz24_11 : wc.cell? ⟨gb142, 11, none⟩ = some (.int .i64 a0_11) := (blk_cell BK142.out 11).trans rfl
                  have hcz24_12 : wc.cell? ⟨gb142, 12, none⟩ = some (.int .i64 a0_12) := (blk_cell BK142.out 12).trans rfl
                  have hcz24_13 : wc.cell? ⟨gb142, 13, none⟩ = some (.int .i64 a0_13) := (blk_cell BK142.out 13).trans rfl
                  have hcz24_14 : wc.cell? ⟨gb142, 14, none⟩ = some (.bool a0_14) := (blk_cell BK142.out 14).trans rfl
                  have hcz24_15 : wc.cell? ⟨gb142, 15, none⟩ = some (.bool a0_15) := (blk_cell BK142.out 15).trans rfl
                  have hfz24_0 := blk_frozen BK142.out 0
                  have hfz24_1 := blk_frozen BK142.out 1
                  have hfz24_2 := blk_frozen BK142.out 2
                  have hfz24_3 := blk_frozen BK142.out 3
                  have hfz24_4 := blk_frozen BK142.out 4
                  have hfz24_5 := blk_frozen BK142.out 5
                  have hfz24_6 := blk_frozen BK142.out 6
                  have hfz24_7 := blk_frozen BK142.out 7
                  have hfz24_8 := blk_frozen BK142.out 8
                  have hfz24_9 := blk_frozen BK142.out 9
                  have hfz24_10 := blk_frozen BK142.out 10
                  have hfz24_11 := blk_frozen BK142.out 11
                  have hfz24_12 := blk_frozen BK142.out 12
                  have hfz24_13 := blk_frozen BK142.out 13
                  have hfz24_14 := blk_frozen BK142.out 14
                  have hfz24_15 := blk_frozen BK142.out 15
                  go_wp2_with (first | (go_at_call 22; (with_reducible refine (signalmanref15_within.calls a0_2 1 (wrap64 (Int.tdiv a0_1 8)) true _ A15.out).mono ?_); rintro e w' ⟨rfl, ⟨nd, rfl⟩⟩) | (go_at_call 22; (with_reducible refine (signalmanref15_within.calls a0_3 1 1048576 true _ A17.out).mono ?_); rintro e w' ⟨rfl, ⟨nd, rfl⟩⟩) | (go_at_call 22; (with_reducible refine (signalmanref15_within.calls a0_6 1 1048576 true _ A19.out).mono ?_); rintro e w' ⟨rfl, ⟨nd, rfl⟩⟩) | (go_at_call 22; (with_reducible refine (signalmanref15_within.calls a0_4 1 100 true _ A21.out).mono ?_); rintro e w' ⟨rfl, ⟨nd, rfl⟩⟩) | (go_at_call 22; (with_reducible refine (signalmanref15_within.calls a0_5 0 1048576 t147 _ A23.out).mono ?_); rintro e w' ⟨rfl, ⟨nd, rfl⟩⟩))
                  go_meet
                  case rel => exact ⟨_, (t147), (by first | rfl | (simp; done) | (simp [*]; done)), H', ⟨by have := HJ1.out; first | omega | exact Nat.le_refl _⟩, ⟨by (with_reducible repeat (first | refine blk_drewN ?_ _ | refine blk_drew ?_ | refine blk_alloc ?_ _)); exact BK142.out⟩, ⟨by repeat (first | (with_reducible first | exact HB.out | apply below_alloc | apply pw_below_drewN | apply below_drew1 | refine below_set ?_ GE142.out) | exact HB.out)⟩⟩
                · replace c22 := Bool.eq_false_iff.mpr c22
                  subst c22
                  have H1 : (signalmanref15_Check.j1 kj1 false a0_0 a0_1 a0_2 a0_3 a0_4 a0_5 a0_6 a0_7 a0_8 a0_9 a0_10 a0_11 a0_12 a0_13 a0_14 a0_15) = some r := by rw [if_neg (show ¬ (false = true) by decide)] at H; exact H
                  clear H
                  have H := H1
                  clear H1
                  have H' := Aside0.mk H
                  clear H
                  have hcz25_0 : wc.cell? ⟨gb142, 0, none⟩ = some (.int .i64 a0_0) := (blk_cell BK142.out 0).trans rfl
                  have hcz25_1 : wc.cell? ⟨gb142, 1, none⟩ = some (.int .i64 a0_1) := (blk_cell BK142.out 1).trans rfl
                  have hcz25_2 : wc.cell? ⟨gb142, 2, none⟩ = some (.int .i64 a0_2) := (blk_cell BK142.out 2).trans rfl
                  have hcz25_3 : wc.cell? ⟨gb142, 3, none⟩ = some (.int .i64 a0_3) := (blk_cell BK142.out 3).trans rfl
                  have hcz25_4 : wc.cell? ⟨gb142, 4, none⟩ = some (.int .i64 a0_4) := (blk_cell BK142.out 4).trans rfl
                  have hcz25_5 : wc.cell? ⟨gb142, 5, none⟩ = some (.int .i64 a0_5) := (blk_cell BK142.out 5).trans rfl
                  have hcz25_6 : wc.cell? ⟨gb142, 6, none⟩ = some (.int .i64 a0_6) := (blk_cell BK142.out 6).trans rfl
                  have hcz25_7 : wc.cell? ⟨gb142, 7, none⟩ = some (.int .i64 a0_7) := (blk_cell BK142.out 7).trans rfl
                  have hcz25_8 : wc.cell? ⟨gb142, 8, none⟩ = some (.int .i64 a0_8) := (blk_cell BK142.out 8).trans rfl
                  have hcz25_9 : wc.cell? ⟨gb142, 9, none⟩ = some (.int .i64 a0_9) := (blk_cell BK142.out 9).trans rfl
                  have hcz25_10 : wc.cell? ⟨gb142, 10, none⟩ = some (.int .i64 a0_10) := (blk_cell BK142.out 10).trans rfl
                  have hcz25_11 : wc.cell? ⟨gb142, 11, none⟩ = some (.int .i64 a0_11) := (blk_cell BK142.out 11).trans rfl
                  have hcz25_12 : wc.cell? ⟨gb142, 12, none⟩ = some (.int .i64 a0_12) := (blk_cell BK142.out 12).trans rfl
                  have hcz25_13 : wc.cell? ⟨gb142, 13, none⟩ = some (.int .i64 a0_13) := (blk_cell BK142.out 13).trans rfl
                  have hcz25_14 : wc.cell? ⟨gb142, 14, none⟩ = some (.bool a0_14) := (blk_cell BK142.out 14).trans rfl
                  have hcz25_15 : wc.cell? ⟨gb142, 15, none⟩ = some (.bool a0_15) := (blk_cell BK142.out 15).trans rfl
                  have hfz25_0 := blk_frozen BK142.out 0
                  have hfz25_1 := blk_frozen BK142.out 1
                  have hfz25_2 := blk_frozen BK142.out 2
                  have hfz25_3 := blk_frozen BK142.out 3
                  have hfz25_4 := blk_frozen BK142.out 4
                  have hfz25_5 := blk_frozen BK142.out 5
                  have hfz25_6 := blk_frozen BK142.out 6
                  have hfz25_7 := blk_frozen BK142.out 7
                  have hfz25_8 := blk_frozen BK142.out 8
                  have hfz25_9 := blk_frozen BK142.out 9
                  have hfz25_10 := blk_frozen BK142.out 10
                  have hfz25_11 := blk_frozen BK142.out 11
                  have hfz25_12 := blk_frozen BK142.out 12
                  have hfz25_13 := blk_frozen BK142.out 13
                  have hfz25_14 := blk_frozen BK142.out 14
                  have hfz25_15 := blk_frozen BK142.out 15
                  go_wp2_with (first | (go_at_call 22; (with_reducible refine (signalmanref15_within.calls a0_2 1 (wrap64 (Int.tdiv a0_1 8)) true _ A15.out).mono ?_); rintro e w' ⟨rfl, ⟨nd, rfl⟩⟩) | (go_at_call 22; (with_reducible refine (signalmanref15_within.calls a0_3 1 1048576 true _ A17.out).mono ?_); rintro e w' ⟨rfl, ⟨nd, rfl⟩⟩) | (go_at_call 22; (with_reducible refine (signalmanref15_within.calls a0_6 1 1048576 true _ A19.out).mono ?_); rintro e w' ⟨rfl, ⟨nd, rfl⟩⟩) | (go_at_call 22; (with_reducible refine (signalmanref15_within.calls a0_4 1 100 false _ A21.out).mono ?_); rintro e w' ⟨rfl, ⟨nd, rfl⟩⟩))
                  go_meet
                  case rel => exact ⟨_, (false), (by first | rfl | (simp; done) | (simp [*]; done)), H', ⟨by have := HJ1.out; first | omega | exact Nat.le_refl _⟩, ⟨by (with_reducible repeat (first | refine blk_drewN ?_ _ | refine blk_drew ?_ | refine blk_alloc ?_ _)); exact BK142.out⟩, ⟨by repeat (first | (with_reducible first | exact HB.out | apply below_alloc | apply pw_below_drewN | apply below_drew1 | refine below_set ?_ GE142.out) | exact HB.out)⟩⟩
              · replace c20 := Bool.eq_false_iff.mpr c20
                subst c20
                have H1 : (signalmanref15_Check.j1 kj1 false a0_0 a0_1 a0_2 a0_3 a0_4 a0_5 a0_6 a0_7 a0_8 a0_9 a0_10 a0_11 a0_12 a0_13 a0_14 a0_15) = some r := by rw [if_neg (show ¬ (false = true) by decide)] at H; exact H
                clear H
                have H := H1
                clear H1
                have H' := Aside0.mk H
                clear H
                have hcz26_0 : wc.cell? ⟨gb142, 0, none⟩ = some (.int .i64 a0_0) := (blk_cell BK142.out 0).trans rfl
                have hcz26_1 : wc.cell? ⟨gb142, 1, none⟩ = some (.int .i64 a0_1) := (blk_cell BK142.out 1).trans rfl
                have hcz26_2 : wc.cell? ⟨gb142, 2, none⟩ = some (.int .i64 a0_2) := (blk_cell BK142.out 2).trans rfl
                have hcz26_3 : wc.cell? ⟨gb142, 3, none⟩ = some (.int .i64 a0_3) := (blk_cell BK142.out 3).trans rfl
                have hcz26_4 : wc.cell? ⟨gb142, 4, none⟩ = some (.int .i64 a0_4) := (blk_cell BK142.out 4).trans rfl
                have hcz26_5 : wc.cell? ⟨gb142, 5, none⟩ = some (.int .i64 a0_5) := (blk_cell BK142.out 5).trans rfl
                have hcz26_6 : wc.cell? ⟨gb142, 6, none⟩ = some (.int .i64 a0_6) := (blk_cell BK142.out 6).trans rfl
                have hcz26_7 : wc.cell? ⟨gb142, 7, none⟩ = some (.int .i64 a0_7) := (blk_cell BK142.out 7).trans rfl
                have hcz26_8 : wc.cell? ⟨gb142, 8, none⟩ = some (.int .i64 a0_8) := (blk_cell BK142.out 8).trans rfl
                have hcz26_9 : wc.cell? ⟨gb142, 9, none⟩ = some (.int .i64 a0_9) := (blk_cell BK142.out 9).trans rfl
                have hcz26_10 : wc.cell? ⟨gb142, 10, none⟩ = some (.int .i64 a0_10) := (blk_cell BK142.out 10).trans rfl
                have hcz26_11 : wc.cell? ⟨gb142, 11, none⟩ = some (.int .i64 a0_11) := (blk_cell BK142.out 11).trans rfl
                have hcz26_12 : wc.cell? ⟨gb142, 12, none⟩ = some (.int .i64 a0_12) := (blk_cell BK142.out 12).trans rfl
                have hcz26_13 : wc.cell? ⟨gb142, 13, none⟩ = some (.int .i64 a0_13) := (blk_cell BK142.out 13).trans rfl
                have hcz26_14 : wc.cell? ⟨gb142, 14, none⟩ = some (.bool a0_14) := (blk_cell BK142.out 14).trans rfl
                have hcz26_15 : wc.cell? ⟨gb142, 15, none⟩ = some (.bool a0_15) := (blk_cell BK142.out 15).trans rfl
                have hfz26_0 := blk_frozen BK142.out 0
                have hfz26_1 := blk_frozen BK142.out 1
                have hfz26_2 := blk_frozen BK142.out 2
                have hfz26_3 := blk_frozen BK142.out 3
                have hfz26_4 := blk_frozen BK142.out 4
                have hfz26_5 := blk_frozen BK142.out 5
                have hfz26_6 := blk_frozen BK142.out 6
                have hfz26_7 := blk_frozen BK142.out 7
                have hfz26_8 := blk_frozen BK142.out 8
                have hfz26_9 := blk_frozen BK142.out 9
                have hfz26_10 := blk_frozen BK142.out 10
                have hfz26_11 := blk_frozen BK142.out 11
                have hfz26_12 := blk_frozen BK142.out 12
                have hfz26_13 := blk_frozen BK142.out 13
                have hfz26_14 := blk_frozen BK142.out 14
                have hfz26_15 := blk_frozen BK142.out 15
                go_wp2_with (first | (go_at_call 22; (with_reducible refine (signalmanref15_within.calls a0_2 1 (wrap64 (Int.tdiv a0_1 8)) true _ A15.out).mono ?_); rintro e w' ⟨rfl, ⟨nd, rfl⟩⟩) | (go_at_call 22; (with_reducible refine (signalmanref15_within.calls a0_3 1 1048576 true _ A17.out).mono ?_); rintro e w' ⟨rfl, ⟨nd, rfl⟩⟩) | (go_at_call 22; (with_reducible refine (signalmanref15_within.calls a0_6 1 1048576 false _ A19.out).mono ?_); rintro e w' ⟨rfl, ⟨nd, rfl⟩⟩))
                go_meet
                case rel => exact ⟨_, (false), (by first | rfl | (simp; done) | (simp [*]; done)), H', ⟨by have := HJ1.out; first | omega | exact Nat.le_refl _⟩, ⟨by (with_reducible repeat (first | refine blk_drewN ?_ _ | refine blk_drew ?_ | refine blk_alloc ?_ _)); exact BK142.out⟩, ⟨by repeat (first | (with_reducible first | exact HB.out | apply below_alloc | apply pw_below_drewN | apply below_drew1 | refine below_set ?_ GE142.out) | exact HB.out)⟩⟩
            · replace c18 := Bool.eq_false_iff.mpr c18
              subst c18
              have H1 : (signalmanref15_Check.j1 kj1 false a0_0 a0_1 a0_2 a0_3 a0_4 a0_5 a0_6 a0_7 a0_8 a0_9 a0_10 a0_11 a0_12 a0_13 a0_14 a0_15) = some r := by rw [if_neg (show ¬ (false = true) by decide)] at H; exact H
              clear H
              have H := H1
              clear H1
              have H' := Aside0.mk H
              clear H
              have hcz27_0 : wc.cell? ⟨gb142, 0, none⟩ = some (.int .i64 a0_0) := (blk_cell BK142.out 0).trans rfl
              have hcz27_1 : wc.cell? ⟨gb142, 1, none⟩ = some (.int .i64 a0_1) := (blk_cell BK142.out 1).trans rfl
              have hcz27_2 : wc.cell? ⟨gb142, 2, none⟩ = some (.int .i64 a0_2) := (blk_cell BK142.out 2).trans rfl
              have hcz27_3 : wc.cell? ⟨gb142, 3, none⟩ = some (.int .i64 a0_3) := (blk_cell BK142.out 3).trans rfl
              have hcz27_4 : wc.cell? ⟨gb142, 4, none⟩ = some (.int .i64 a0_4) := (blk_cell BK142.out 4).trans rfl
              have hcz27_5 : wc.cell? ⟨gb142, 5, none⟩ = some (.int .i64 a0_5) := (blk_cell BK142.out 5).trans rfl
              have hcz27_6 : wc.cell? ⟨gb142, 6, none⟩ = some (.int .i64 a0_6) := (blk_cell BK142.out 6).trans rfl
              have hcz27_7 : wc.cell? ⟨gb142, 7, none⟩ = some (.int .i64 a0_7) := (blk_cell BK142.out 7).trans rfl
              have hcz27_8 : wc.cell? ⟨gb142, 8, none⟩ = some (.int .i64 a0_8) := (blk_cell BK142.out 8).trans rfl
              have hcz27_9 : wc.cell? ⟨gb142, 9, none⟩ = some (.int .i64 a0_9) := (blk_cell BK142.out 9).trans rfl
              have hcz27_10 : wc.cell? ⟨gb142, 10, none⟩ = some (.int .i64 a0_10) := (blk_cell BK142.out 10).trans rfl
              have hcz27_11 : wc.cell? ⟨gb142, 11, none⟩ = some (.int .i64 a0_11) := (blk_cell BK142.out 11).trans rfl
              have hcz27_12 : wc.cell? ⟨gb142, 12, none⟩ = some (.int .i64 a0_12) := (blk_cell BK142.out 12).trans rfl
              have hcz27_13 : wc.cell? ⟨gb142, 13, none⟩ = some (.int .i64 a0_13) := (blk_cell BK142.out 13).trans rfl
              have hcz27_14 : wc.cell? ⟨gb142, 14, none⟩ = some (.bool a0_14) := (blk_cell BK142.out 14).trans rfl
              have hcz27_15 : wc.cell? ⟨gb142, 15, none⟩ = some (.bool a0_15) := (blk_cell BK142.out 15).trans rfl
              have hfz27_0 := blk_frozen BK142.out 0
              have hfz27_1 := blk_frozen BK142.out 1
              have hfz27_2 := blk_frozen BK142.out 2
              have hfz27_3 := blk_frozen BK142.out 3
              have hfz27_4 := blk_frozen BK142.out 4
              have hfz27_5 := blk_frozen BK142.out 5
              have hfz27_6 := blk_frozen BK142.out 6
              have hfz27_7 := blk_frozen BK142.out 7
              have hfz27_8 := blk_frozen BK142.out 8
              have hfz27_9 := blk_frozen BK142.out 9
              have hfz27_10 := blk_frozen BK142.out 10
              have hfz27_11 := blk_frozen BK142.out 11
              have hfz27_12 := blk_frozen BK142.out 12
              have hfz27_13 := blk_frozen BK142.out 13
              have hfz27_14 := blk_frozen BK142.out 14
              have hfz27_15 := blk_frozen BK142.out 15
              go_wp2_with (first | (go_at_call 22; (with_reducible refine (signalmanref15_within.calls a0_2 1 (wrap64 (Int.tdiv a0_1 8)) true _ A15.out).mono ?_); rintro e w' ⟨rfl, ⟨nd, rfl⟩⟩) | (go_at_call 22; (with_reducible refine (signalmanref15_within.calls a0_3 1 1048576 false _ A17.out).mono ?_); rintro e w' ⟨rfl, ⟨nd, rfl⟩⟩))
              go_meet
              case rel => exact ⟨_, (false), (by first | rfl | (simp; done) | (simp [*]; done)), H', ⟨by have := HJ1.out; first | omega | exact Nat.le_refl _⟩, ⟨by (with_reducible repeat (first | refine blk_drewN ?_ _ | refine blk_drew ?_ | refine blk_alloc ?_ _)); exact BK142.out⟩, ⟨by repeat (first | (with_reducible first | exact HB.out | apply below_alloc | apply pw_below_drewN | apply below_drew1 | refine below_set ?_ GE142.out) | exact HB.out)⟩⟩
          · replace c16 := Bool.eq_false_iff.mpr c16
            subst c16
            have H1 : (signalmanref15_Check.j1 kj1 false a0_0 a0_1 a0_2 a0_3 a0_4 a0_5 a0_6 a0_7 a0_8 a0_9 a0_10 a0_11 a0_12 a0_13 a0_14 a0_15) = some r := by rw [if_neg (show ¬ (false = true) by decide)] at H; exact H
            clear H
            have H := H1
            clear H1
            have H' := Aside0.mk H
            clear H
            have hcz28_0 : wc.cell? ⟨gb142, 0, none⟩ = some (.int .i64 a0_0) := (blk_cell BK142.out 0).trans rfl
            have hcz28_1 : wc.cell? ⟨gb142, 1, none⟩ = some (.int .i64 a0_1) := (blk_cell BK142.out 1).trans rfl
            have hcz28_2 : wc.cell? ⟨gb142, 2, none⟩ = some (.int .i64 a0_2) := (blk_cell BK142.out 2).trans rfl
            have hcz28_3 : wc.cell? ⟨gb142, 3, none⟩ = some (.int .i64 a0_3) := (blk_cell BK142.out 3).trans rfl
            have hcz28_4 : wc.cell? ⟨gb142, 4, none⟩ = some (.int .i64 a0_4) := (blk_cell BK142.out 4).trans rfl
            have hcz28_5 : wc.cell? ⟨gb142, 5, none⟩ = some (.int .i64 a0_5) := (blk_cell BK142.out 5).trans rfl
            have hcz28_6 : wc.cell? ⟨gb142, 6, none⟩ = some (.int .i64 a0_6) := (blk_cell BK142.out 6).trans rfl
            have hcz28_7 : wc.cell? ⟨gb142, 7, none⟩ = some (.int .i64 a0_7) := (blk_cell BK142.out 7).trans rfl
            have hcz28_8 : wc.cell? ⟨gb142, 8, none⟩ = some (.int .i64 a0_8) := (blk_cell BK142.out 8).trans rfl
            have hcz28_9 : wc.cell? ⟨gb142, 9, none⟩ = some (.int .i64 a0_9) := (blk_cell BK142.out 9).trans rfl
            have hcz28_10 : wc.cell? ⟨gb142, 10, none⟩ = some (.int .i64 a0_10) := (blk_cell BK142.out 10).trans rfl
            have hcz28_11 : wc.cell? ⟨gb142, 11, none⟩ = some (.int .i64 a0_11) := (blk_cell BK142.out 11).trans rfl
            have hcz28_12 : wc.cell? ⟨gb142, 12, none⟩ = some (.int .i64 a0_12) := (blk_cell BK142.out 12).trans rfl
            have hcz28_13 : wc.cell? ⟨gb142, 13, none⟩ = some (.int .i64 a0_13) := (blk_cell BK142.out 13).trans rfl
            have hcz28_14 : wc.cell? ⟨gb142, 14, none⟩ = some (.bool a0_14) := (blk_cell BK142.out 14).trans rfl
            have hcz28_15 : wc.cell? ⟨gb142, 15, none⟩ = some (.bool a0_15) := (blk_cell BK142.out 15).trans rfl
            have hfz28_0 := blk_frozen BK142.out 0
            have hfz28_1 := blk_frozen BK142.out 1
            have hfz28_2 := blk_frozen BK142.out 2
            have hfz28_3 := blk_frozen BK142.out 3
            have hfz28_4 := blk_frozen BK142.out 4
            have hfz28_5 := blk_frozen BK142.out 5
            have hfz28_6 := blk_frozen BK142.out 6
            have hfz28_7 := blk_frozen BK142.out 7
            have hfz28_8 := blk_frozen BK142.out 8
            have hfz28_9 := blk_frozen BK142.out 9
            have hfz28_10 := blk_frozen BK142.out 10
            have hfz28_11 := blk_frozen BK142.out 11
            have hfz28_12 := blk_frozen BK142.out 12
            have hfz28_13 := blk_frozen BK142.out 13
            have hfz28_14 := blk_frozen BK142.out 14
            have hfz28_15 := blk_frozen BK142.out 15
            go_wp2_with (first | (go_at_call 22; (with_reducible refine (signalmanref15_within.calls a0_2 1 (wrap64 (Int.tdiv a0_1 8)) false _ A15.out).mono ?_); rintro e w' ⟨rfl, ⟨nd, rfl⟩⟩))
            go_meet
            case rel => exact ⟨_, (false), (by first | rfl | (simp; done) | (simp [*]; done)), H', ⟨by have := HJ1.out; first | omega | exact Nat.le_refl _⟩, ⟨by (with_reducible repeat (first | refine blk_drewN ?_ _ | refine blk_drew ?_ | refine blk_alloc ?_ _)); exact BK142.out⟩, ⟨by repeat (first | (with_reducible first | exact HB.out | apply below_alloc | apply pw_below_drewN | apply below_drew1 | refine below_set ?_ GE142.out) | exact HB.out)⟩⟩
        · replace c14 := Bool.eq_false_iff.mpr c14
          subst c14
          have H1 : (signalmanref15_Check.j1 kj1 false a0_0 a0_1 a0_2 a0_3 a0_4 a0_5 a0_6 a0_7 a0_8 a0_9 a0_10 a0_11 a0_12 a0_13 a0_14 a0_15) = some r := by rw [if_neg (show ¬ (false = true) by decide)] at H; exact H
          clear H
          have H := H1
          clear H1
          have H' := Aside0.mk H
          clear H
          go_wp2
          go_meet
          case rel => exact ⟨_, (false), (by first | rfl | (simp; done) | (simp [*]; done)), H', ⟨by have := HJ1.out; first | omega | exact Nat.le_refl _⟩, ⟨by (with_reducible repeat (first | refine blk_drewN ?_ _ | refine blk_drew ?_ | refine blk_alloc ?_ _)); exact BK142.out⟩, ⟨by repeat (first | (with_reducible first | exact HB.out | apply below_alloc | apply pw_below_drewN | apply below_drew1 | refine below_set ?_ GE142.out) | exact HB.out)⟩⟩
      case rest =>
        clear HC13
        try clear c1
        try clear c2
        try clear p2
        try clear c4
        try clear c4b0
        try clear c4b1
        try clear c5
        try clear c5b0
        try clear c5b1
        try clear p6
        try clear c8
        try clear c8b0
        try clear c8b1
        try clear c9
        try clear c9b0
        try clear c9b1
        try clear c10
        try clear c14
        try clear c16
        try clear c18
        try clear c20
        try clear c22
        try clear hcz10_0
        try clear hcz10_1
        try clear hcz10_10
        try clear hcz10_11
        try clear hcz10_12
        try clear hcz10_13
        try clear hcz10_14
        try clear hcz10_15
        try clear hcz10_2
        try clear hcz10_3
        try clear hcz10_4
        try clear hcz10_5
        try clear hcz10_6
        try clear hcz10_7
        try clear hcz10_8
        try clear hcz10_9
        try clear hcz11_0
        try clear hcz11_1
        try clear hcz11_10
        try clear hcz11_11
        try clear hcz11_12
        try clear hcz11_13
        try clear hcz11_14
        try clear hcz11_15
        try clear hcz11_2
        try clear hcz11_3
        try clear hcz11_4
        try clear hcz11_5
        try clear hcz11_6
        try clear hcz11_7
        try clear hcz11_8
        try clear hcz11_9
        try clear hcz12_0
        try clear hcz12_1
        try clear hcz12_10
        try clear hcz12_11
        try clear hcz12_12
        try clear hcz12_13
        try clear hcz12_14
        try clear hcz12_15
        try clear hcz12_2
        try clear hcz12_3
        try clear hcz12_4
        try clear hcz12_5
        try clear hcz12_6
        try clear hcz12_7
        try clear hcz12_8
        try clear hcz12_9
        try clear hcz24_0
        try clear hcz24_1
        try clear hcz24_10
        try clear hcz24_11
        try clear hcz24_12
        try clear hcz24_13
        try clear hcz24_14
        try clear hcz24_15
        try clear hcz24_2
        try clear hcz24_3
        try clear hcz24_4
        try clear hcz24_5
        try clear hcz24_6
        try clear hcz24_7
        try clear hcz24_8
        try clear hcz24_9
        try clear hcz25_0
        try clear hcz25_1
        try clear hcz25_10
        try clear hcz25_11
        try clear hcz25_12
        try clear hcz25_13
        try clear hcz25_14
        try clear hcz25_15
        try clear hcz25_2
        try clear hcz25_3
        try clear hcz25_4
        try clear hcz25_5
        try clear hcz25_6
        try clear hcz25_7
        try clear hcz25_8
        try clear hcz25_9
        try clear hcz26_0
        try clear hcz26_1
        try clear hcz26_10
        try clear hcz26_11
        try clear hcz26_12
        try clear hcz26_13
        try clear hcz26_14
        try clear hcz26_15
        try clear hcz26_2
        try clear hcz26_3
        try clear hcz26_4
        try clear hcz26_5
        try clear hcz26_6
        try clear hcz26_7
        try clear hcz26_8
        try clear hcz26_9
        try clear hcz27_0
        try clear hcz27_1
        try clear hcz27_10
        try clear hcz27_11
        try clear hcz27_12
        try clear hcz27_13
        try clear hcz27_14
        try clear hcz27_15
        try clear hcz27_2
        try clear hcz27_3
        try clear hcz27_4
        try clear hcz27_5
        try clear hcz27_6
        try clear hcz27_7
        try clear hcz27_8
        try clear hcz27_9
        try clear hcz28_0
        try clear hcz28_1
        try clear hcz28_10
        try clear hcz28_11
        try clear hcz28_12
        try clear hcz28_13
        try clear hcz28_14
        try clear hcz28_15
        try clear hcz28_2
        try clear hcz28_3
        try clear hcz28_4
        try clear hcz28_5
        try clear hcz28_6
        try clear hcz28_7
        try clear hcz28_8
        try clear hcz28_9
        try clear hcz6_0
        try clear hcz6_1
        try clear hcz6_10
        try clear hcz6_11
        try clear hcz6_12
        try clear hcz6_13
        try clear hcz6_14
        try clear hcz6_15
        try clear hcz6_2
        try clear hcz6_3
        try clear hcz6_4
        try clear hcz6_5
        try clear hcz6_6
        try clear hcz6_7
        try clear hcz6_8
        try clear hcz6_9
        try clear hcz7_0
        try clear hcz7_1
        try clear hcz7_10
        try clear hcz7_11
        try clear hcz7_12
        try clear hcz7_13
        try clear hcz7_14
        try clear hcz7_15
        try clear hcz7_2
        try clear hcz7_3
        try clear hcz7_4
        try clear hcz7_5
        try clear hcz7_6
        try clear hcz7_7
        try clear hcz7_8
        try clear hcz7_9
        try clear hfz10_0
        try clear hfz10_1
        try clear hfz10_10
        try clear hfz10_11
        try clear hfz10_12
        try clear hfz10_13
        try clear hfz10_14
        try clear hfz10_15
        try clear hfz10_2
        try clear hfz10_3
        try clear hfz10_4
        try clear hfz10_5
        try clear hfz10_6
        try clear hfz10_7
        try clear hfz10_8
        try clear hfz10_9
        try clear hfz11_0
        try clear hfz11_1
        try clear hfz11_10
        try clear hfz11_11
        try clear hfz11_12
        try clear hfz11_13
        try clear hfz11_14
        try clear hfz11_15
        try clear hfz11_2
        try clear hfz11_3
        try clear hfz11_4
        try clear hfz11_5
        try clear hfz11_6
        try clear hfz11_7
        try clear hfz11_8
        try clear hfz11_9
        try clear hfz12_0
        try clear hfz12_1
        try clear hfz12_10
        try clear hfz12_11
        try clear hfz12_12
        try clear hfz12_13
        try clear hfz12_14
        try clear hfz12_15
        try clear hfz12_2
        try clear hfz12_3
        try clear hfz12_4
        try clear hfz12_5
        try clear hfz12_6
        try clear hfz12_7
        try clear hfz12_8
        try clear hfz12_9
        try clear hfz24_0
        try clear hfz24_1
        try clear hfz24_10
        try clear hfz24_11
        try clear hfz24_12
        try clear hfz24_13
        try clear hfz24_14
        try clear hfz24_15
        try clear hfz24_2
        try clear hfz24_3
        try clear hfz24_4
        try clear hfz24_5
        try clear hfz24_6
        try clear hfz24_7
        try clear hfz24_8
        try clear hfz24_9
        try clear hfz25_0
        try clear hfz25_1
        try clear hfz25_10
        try clear hfz25_11
        try clear hfz25_12
        try clear hfz25_13
        try clear hfz25_14
        try clear hfz25_15
        try clear hfz25_2
        try clear hfz25_3
        try clear hfz25_4
        try clear hfz25_5
        try clear hfz25_6
        try clear hfz25_7
        try clear hfz25_8
        try clear hfz25_9
        try clear hfz26_0
        try clear hfz26_1
        try clear hfz26_10
        try clear hfz26_11
        try clear hfz26_12
        try clear hfz26_13
        try clear hfz26_14
        try clear hfz26_15
        try clear hfz26_2
        try clear hfz26_3
        try clear hfz26_4
        try clear hfz26_5
        try clear hfz26_6
        try clear hfz26_7
        try clear hfz26_8
        try clear hfz26_9
        try clear hfz27_0
        try clear hfz27_1
        try clear hfz27_10
        try clear hfz27_11
        try clear hfz27_12
        try clear hfz27_13
        try clear hfz27_14
        try clear hfz27_15
        try clear hfz27_2
        try clear hfz27_3
        try clear hfz27_4
        try clear hfz27_5
        try clear hfz27_6
        try clear hfz27_7
        try clear hfz27_8
        try clear hfz27_9
        try clear hfz28_0
        try clear hfz28_1
        try clear hfz28_10
        try clear hfz28_11
        try clear hfz28_12
        try clear hfz28_13
        try clear hfz28_14
        try clear hfz28_15
        try clear hfz28_2
        try clear hfz28_3
        try clear hfz28_4
        try clear hfz28_5
        try clear hfz28_6
        try clear hfz28_7
        try clear hfz28_8
        try clear hfz28_9
        try clear hfz6_0
        try clear hfz6_1
        try clear hfz6_10
        try clear hfz6_11
        try clear hfz6_12
        try clear hfz6_13
        try clear hfz6_14
        try clear hfz6_15
        try clear hfz6_2
        try clear hfz6_3
        try clear hfz6_4
        try clear hfz6_5
        try clear hfz6_6
        try clear hfz6_7
        try clear hfz6_8
        try clear hfz6_9
        try clear hfz7_0
        try clear hfz7_1
        try clear hfz7_10
        try clear hfz7_11
        try clear hfz7_12
        try clear hfz7_13
        try clear hfz7_14
        try clear hfz7_15
        try clear hfz7_2
        try clear hfz7_3
        try clear hfz7_4
        try clear hfz7_5
        try clear hfz7_6
        try clear hfz7_7
        try clear hfz7_8
        try clear hfz7_9
        try clear p2
        obtain ⟨kq, x3_12, rfl, HA, HJ12, BK142, HB⟩ := hcut
        cases kq with
        | zero => exact absurd HA.out (by simp [signalmanref15_Check.j1])
        | succ kj12 =>
          have H := HA.out
          clear HA
          simp only [signalmanref15_Check.j1] at H
          have HC29 := Aside0.mk H
          clear H
          go_upto_region 3 with (fail)
          go_cut [3] (fun v3 wc => ∃ (kq : Nat) (x3_28 : Bool), v3 = .bool x3_28 ∧ Aside0 (signalmanref15_Check.j2 kq x3_28 a0_0 a0_1 a0_2 a0_3 a0_4 a0_5 a0_6 a0_7 a0_8 a0_9 a0_10 a0_11 a0_12 a0_13 a0_14 a0_15 = some r) ∧ Aside0 (kq ≤ kj12) ∧ Aside0 (wc.heap[gb142]? = some (.cells #[.int .i64 a0_0, .int .i64 a0_1, .int .i64 a0_2, .int .i64 a0_3, .int .i64 a0_4, .int .i64 a0_5, .int .i64 a0_6, .int .i64 a0_7, .int .i64 a0_8, .int .i64 a0_9, .int .i64 a0_10, .int .i64 a0_11, .int .i64 a0_12, .int .i64 a0_13, .bool a0_14, .bool a0_15] 23 (0, 0))) ∧ Aside0 (Below w.heap.size w wc))
          case first =>
            have H := HC29.out
            clear HC29
            by_cases c30 : x3_12 = true
            · subst c30
              have H1 : ((signalmanref15_within.f a0_7 1 65536).bind fun t148 => (if t148 = true then ((signalmanref15_within.f a0_8 0 1000).bind fun t149 => (if t149 = true then ((signalmanref15_within.f a0_9 1 1000).bind fun t150 => (if t150 = true then ((signalmanref15_within.f a0_11 1 4096).bind fun t151 => (if t151 = true then ((signalmanref15_within.f a0_12 1 16).bind fun t152 => (if t152 = true then ((signalmanref15_within.f a0_13 1 16).bind fun t153 => (signalmanref15_Check.j2 kj12 t153 a0_0 a0_1 a0_2 a0_3 a0_4 a0_5 a0_6 a0_7 a0_8 a0_9 a0_10 a0_11 a0_12 a0_13 a0_14 a0_15)) else (signalmanref15_Check.j2 kj12 false a0_0 a0_1 a0_2 a0_3 a0_4 a0_5 a0_6 a0_7 a0_8 a0_9 a0_10 a0_11 a0_12 a0_13 a0_14 a0_15))) else (signalmanref15_Check.j2 kj12 false a0_0 a0_1 a0_2 a0_3 a0_4 a0_5 a0_6 a0_7 a0_8 a0_9 a0_10 a0_11 a0_12 a0_13 a0_14 a0_15))) else (signalmanref15_Check.j2 kj12 false a0_0 a0_1 a0_2 a0_3 a0_4 a0_5 a0_6 a0_7 a0_8 a0_9 a0_10 a0_11 a0_12 a0_13 a0_14 a0_15))) else (signalmanref15_Check.j2 kj12 false a0_0 a0_1 a0_2 a0_3 a0_4 a0_5 a0_6 a0_7 a0_8 a0_9 a0_10 a0_11 a0_12 a0_13 a0_14 a0_15))) else (signalmanref15_Check.j2 kj12 false a0_0 a0_1 a0_2 a0_3 a0_4 a0_5 a0_6 a0_7 a0_8 a0_9 a0_10 a0_11 a0_12 a0_13 a0_14 a0_15))) = some r := by rw [if_pos rfl] at H; exact H
              clear H
              have H := H1
              clear H1
              replace H := Option.bind_eq_some_iff.mp H
              obtain ⟨t148, A310, H⟩ := H
              replace H : (if t148 = true then ((signalmanref15_within.f a0_8 0 1000).bind fun t149 => (if t149 = true then ((signalmanref15_within.f a0_9 1 1000).bind fun t150 => (if t150 = true then ((signalmanref15_within.f a0_11 1 4096).bind fun t151 => (if t151 = true then ((signalmanref15_within.f a0_12 1 16).bind fun t152 => (if t152 = true then ((signalmanref15_within.f a0_13 1 16).bind fun t153 => (signalmanref15_Check.j2 kj12 t153 a0_0 a0_1 a0_2 a0_3 a0_4 a0_5 a0_6 a0_7 a0_8 a0_9 a0_10 a0_11 a0_12 a0_13 a0_14 a0_15)) else (signalmanref15_Check.j2 kj12 false a0_0 a0_1 a0_2 a0_3 a0_4 a0_5 a0_6 a0_7 a0_8 a0_9 a0_10 a0_11 a0_12 a0_13 a0_14 a0_15))) else (signalmanref15_Check.j2 kj12 false a0_0 a0_1 a0_2 a0_3 a0_4 a0_5 a0_6 a0_7 a0_8 a0_9 a0_10 a0_11 a0_12 a0_13 a0_14 a0_15))) else (signalmanref15_Check.j2 kj12 false a0_0 a0_1 a0_2 a0_3 a0_4 a0_5 a0_6 a0_7 a0_8 a0_9 a0_10 a0_11 a0_12 a0_13 a0_14 a0_15))) else (signalmanref15_Check.j2 kj12 false a0_0 a0_1 a0_2 a0_3 a0_4 a0_5 a0_6 a0_7 a0_8 a0_9 a0_10 a0_11 a0_12 a0_13 a0_14 a0_15))) else (signalmanref15_Check.j2 kj12 false a0_0 a0_1 a0_2 a0_3 a0_4 a0_5 a0_6 a0_7 a0_8 a0_9 a0_10 a0_11 a0_12 a0_13 a0_14 a0_15)) = some r := H
              have A31 := Aside0.mk A310
              clear A310
              by_cases c32 : t148 = true
              · subst c32
                have H1 : ((signalmanref15_within.f a0_8 0 1000).bind fun t149 => (if t149 = true then ((signalmanref15_within.f a0_9 1 1000).bind fun t150 => (if t150 = true then ((signalmanref15_within.f a0_11 1 4096).bind fun t151 => (if t151 = true then ((signalmanref15_within.f a0_12 1 16).bind fun t152 => (if t152 = true then ((signalmanref15_within.f a0_13 1 16).bind fun t153 => (signalmanref15_Check.j2 kj12 t153 a0_0 a0_1 a0_2 a0_3 a0_4 a0_5 a0_6 a0_7 a0_8 a0_9 a0_10 a0_11 a0_12 a0_13 a0_14 a0_15)) else (signalmanref15_Check.j2 kj12 false a0_0 a0_1 a0_2 a0_3 a0_4 a0_5 a0_6 a0_7 a0_8 a0_9 a0_10 a0_11 a0_12 a0_13 a0_14 a0_15))) else (signalmanref15_Check.j2 kj12 false a0_0 a0_1 a0_2 a0_3 a0_4 a0_5 a0_6 a0_7 a0_8 a0_9 a0_10 a0_11 a0_12 a0_13 a0_14 a0_15))) else (signalmanref15_Check.j2 kj12 false a0_0 a0_1 a0_2 a0_3 a0_4 a0_5 a0_6 a0_7 a0_8 a0_9 a0_10 a0_11 a0_12 a0_13 a0_14 a0_15))) else (signalmanref15_Check.j2 kj12 false a0_0 a0_1 a0_2 a0_3 a0_4 a0_5 a0_6 a0_7 a0_8 a0_9 a0_10 a0_11 a0_12 a0_13 a0_14 a0_15))) = some r := by rw [if_pos rfl] at H; exact H
                clear H
                have H := H1
                clear H1
                replace H := Option.bind_eq_some_iff.mp H
                obtain ⟨t149, A330, H⟩ := H
                replace H : (if t149 = true then ((signalmanref15_within.f a0_9 1 1000).bind fun t150 => (if t150 = true then ((signalmanref15_within.f a0_11 1 4096).bind fun t151 => (if t151 = true then ((signalmanref15_within.f a0_12 1 16).bind fun t152 => (if t152 = true then ((signalmanref15_within.f a0_13 1 16).bind fun t153 => (signalmanref15_Check.j2 kj12 t153 a0_0 a0_1 a0_2 a0_3 a0_4 a0_5 a0_6 a0_7 a0_8 a0_9 a0_10 a0_11 a0_12 a0_13 a0_14 a0_15)) else (signalmanref15_Check.j2 kj12 false a0_0 a0_1 a0_2 a0_3 a0_4 a0_5 a0_6 a0_7 a0_8 a0_9 a0_10 a0_11 a0_12 a0_13 a0_14 a0_15))) else (signalmanref15_Check.j2 kj12 false a0_0 a0_1 a0_2 a0_3 a0_4 a0_5 a0_6 a0_7 a0_8 a0_9 a0_10 a0_11 a0_12 a0_13 a0_14 a0_15))) else (signalmanref15_Check.j2 kj12 false a0_0 a0_1 a0_2 a0_3 a0_4 a0_5 a0_6 a0_7 a0_8 a0_9 a0_10 a0_11 a0_12 a0_13 a0_14 a0_15))) else (signalmanref15_Check.j2 kj12 false a0_0 a0_1 a0_2 a0_3 a0_4 a0_5 a0_6 a0_7 a0_8 a0_9 a0_10 a0_11 a0_12 a0_13 a0_14 a0_15)) = some r := H
                have A33 := Aside0.mk A330
                clear A330
                by_cases c34 : t149 = true
                · subst c34
                  have H1 : ((signalmanref15_within.f a0_9 1 1000).bind fun t150 => (if t150 = true then ((signalmanref15_within.f a0_11 1 4096).bind fun t151 => (if t151 = true then ((signalmanref15_within.f a0_12 1 16).bind fun t152 => (if t152 = true then ((signalmanref15_within.f a0_13 1 16).bind fun t153 => (signalmanref15_Check.j2 kj12 t153 a0_0 a0_1 a0_2 a0_3 a0_4 a0_5 a0_6 a0_7 a0_8 a0_9 a0_10 a0_11 a0_12 a0_13 a0_14 a0_15)) else (signalmanref15_Check.j2 kj12 false a0_0 a0_1 a0_2 a0_3 a0_4 a0_5 a0_6 a0_7 a0_8 a0_9 a0_10 a0_11 a0_12 a0_13 a0_14 a0_15))) else (signalmanref15_Check.j2 kj12 false a0_0 a0_1 a0_2 a0_3 a0_4 a0_5 a0_6 a0_7 a0_8 a0_9 a0_10 a0_11 a0_12 a0_13 a0_14 a0_15))) else (signalmanref15_Check.j2 kj12 false a0_0 a0_1 a0_2 a0_3 a0_4 a0_5 a0_6 a0_7 a0_8 a0_9 a0_10 a0_11 a0_12 a0_13 a0_14 a0_15))) = some r := by rw [if_pos rfl] at H; exact H
                  clear H
                  have H := H1
                  clear H1
                  replace H := Option.bind_eq_some_iff.mp H
                  obtain ⟨t150, A350, H⟩ := H
                  replace H : (if t150 = true then ((signalmanref15_within.f a0_11 1 4096).bind fun t151 => (if t151 = true then ((signalmanref15_within.f a0_12 1 16).bind fun t152 => (if t152 = true then ((signalmanref15_within.f a0_13 1 16).bind fun t153 => (signalmanref15_Check.j2 kj12 t153 a0_0 a0_1 a0_2 a0_3 a0_4 a0_5 a0_6 a0_7 a0_8 a0_9 a0_10 a0_11 a0_12 a0_13 a0_14 a0_15)) else (signalmanref15_Check.j2 kj12 false a0_0 a0_1 a0_2 a0_3 a0_4 a0_5 a0_6 a0_7 a0_8 a0_9 a0_10 a0_11 a0_12 a0_13 a0_14 a0_15))) else (signalmanref15_Check.j2 kj12 false a0_0 a0_1 a0_2 a0_3 a0_4 a0_5 a0_6 a0_7 a0_8 a0_9 a0_10 a0_11 a0_12 a0_13 a0_14 a0_15))) else (signalmanref15_Check.j2 kj12 false a0_0 a0_1 a0_2 a0_3 a0_4 a0_5 a0_6 a0_7 a0_8 a0_9 a0_10 a0_11 a0_12 a0_13 a0_14 a0_15)) = some r := H
                  have A35 := Aside0.mk A350
                  clear A350
                  by_cases c36 : t150 = true
                  · subst c36
                    have H1 : ((signalmanref15_within.f a0_11 1 4096).bind fun t151 => (if t151 = true then ((signalmanref15_within.f a0_12 1 16).bind fun t152 => (if t152 = true then ((signalmanref15_within.f a0_13 1 16).bind fun t153 => (signalmanref15_Check.j2 kj12 t153 a0_0 a0_1 a0_2 a0_3 a0_4 a0_5 a0_6 a0_7 a0_8 a0_9 a0_10 a0_11 a0_12 a0_13 a0_14 a0_15)) else (signalmanref15_Check.j2 kj12 false a0_0 a0_1 a0_2 a0_3 a0_4 a0_5 a0_6 a0_7 a0_8 a0_9 a0_10 a0_11 a0_12 a0_13 a0_14 a0_15))) else (signalmanref15_Check.j2 kj12 false a0_0 a0_1 a0_2 a0_3 a0_4 a0_5 a0_6 a0_7 a0_8 a0_9 a0_10 a0_11 a0_12 a0_13 a0_14 a0_15))) = some r := by rw [if_pos rfl] at H; exact H
                    clear H
                    have H := H1
                    clear H1
                    replace H := Option.bind_eq_some_iff.mp H
                    obtain ⟨t151, A370, H⟩ := H
                    replace H : (if t151 = true then ((signalmanref15_within.f a0_12 1 16).bind fun t152 => (if t152 = true then ((signalmanref15_within.f a0_13 1 16).bind fun t153 => (signalmanref15_Check.j2 kj12 t153 a0_0 a0_1 a0_2 a0_3 a0_4 a0_5 a0_6 a0_7 a0_8 a0_9 a0_10 a0_11 a0_12 a0_13 a0_14 a0_15)) else (signalmanref15_Check.j2 kj12 false a0_0 a0_1 a0_2 a0_3 a0_4 a0_5 a0_6 a0_7 a0_8 a0_9 a0_10 a0_11 a0_12 a0_13 a0_14 a0_15))) else (signalmanref15_Check.j2 kj12 false a0_0 a0_1 a0_2 a0_3 a0_4 a0_5 a0_6 a0_7 a0_8 a0_9 a0_10 a0_11 a0_12 a0_13 a0_14 a0_15)) = some r := H
                    have A37 := Aside0.mk A370
                    clear A370
                    by_cases c38 : t151 = true
                    · subst c38
                      have H1 : ((signalmanref15_within.f a0_12 1 16).bind fun t152 => (if t152 = true then ((signalmanref15_within.f a0_13 1 16).bind fun t153 => (signalmanref15_Check.j2 kj12 t153 a0_0 a0_1 a0_2 a0_3 a0_4 a0_5 a0_6 a0_7 a0_8 a0_9 a0_10 a0_11 a0_12 a0_13 a0_14 a0_15)) else (signalmanref15_Check.j2 kj12 false a0_0 a0_1 a0_2 a0_3 a0_4 a0_5 a0_6 a0_7 a0_8 a0_9 a0_10 a0_11 a0_12 a0_13 a0_14 a0_15))) = some r := by rw [if_pos rfl] at H; exact H
                      clear H
                      have H := H1
                      clear H1
                      replace H := Option.bind_eq_some_iff.mp H
                      obtain ⟨t152, A390, H⟩ := H
                      replace H : (if t152 = true then ((signalmanref15_within.f a0_13 1 16).bind fun t153 => (signalmanref15_Check.j2 kj12 t153 a0_0 a0_1 a0_2 a0_3 a0_4 a0_5 a0_6 a0_7 a0_8 a0_9 a0_10 a0_11 a0_12 a0_13 a0_14 a0_15)) else (signalmanref15_Check.j2 kj12 false a0_0 a0_1 a0_2 a0_3 a0_4 a0_5 a0_6 a0_7 a0_8 a0_9 a0_10 a0_11 a0_12 a0_13 a0_14 a0_15)) = some r := H
                      have A39 := Aside0.mk A390
                      clear A390
                      by_cases c40 : t152 = true
                      · subst c40
                        have H1 : ((signalmanref15_within.f a0_13 1 16).bind fun t153 => (signalmanref15_Check.j2 kj12 t153 a0_0 a0_1 a0_2 a0_3 a0_4 a0_5 a0_6 a0_7 a0_8 a0_9 a0_10 a0_11 a0_12 a0_13 a0_14 a0_15)) = some r := by rw [if_pos rfl] at H; exact H
                        clear H
                        have H := H1
                        clear H1
                        replace H := Option.bind_eq_some_iff.mp H
                        obtain ⟨t153, A410, H⟩ := H
                        replace H : (signalmanref15_Check.j2 kj12 t153 a0_0 a0_1 a0_2 a0_3 a0_4 a0_5 a0_6 a0_7 a0_8 a0_9 a0_10 a0_11 a0_12 a0_13 a0_14 a0_15) = some r := H
                        have A41 := Aside0.mk A410
                        clear A410
                        have H' := Aside0.mk H
                        clear H
                        have hcz42_0 : wc.cell? ⟨gb142, 0, none⟩ = some (.int .i64 a0_0) := (blk_cell BK142.out 0).trans rfl
                        have hcz42_1 : wc.cell? ⟨gb142, 1, none⟩ = some (.int .i64 a0_1) := (blk_cell BK142.out 1).trans rfl
                        have hcz42_2 : wc.cell? ⟨gb142, 2, none⟩ = some (.int .i64 a0_2) := (blk_cell BK142.out 2).trans rfl
                        have hcz42_3 : wc.cell? ⟨gb142, 3, none⟩ = some (.int .i64 a0_3) := (blk_cell BK142.out 3).trans rfl
                        have hcz42_4 : wc.cell? ⟨gb142, 4, none⟩ = some (.int .i64 a0_4) := (blk_cell BK142.out 4).trans rfl
                        have hcz42_5 : wc.cell? ⟨gb142, 5, none⟩ = some (.int .i64 a0_5) := (blk_cell BK142.out 5).trans rfl
                        have hcz42_6 : wc.cell? ⟨gb142, 6, none⟩ = some (.int .i64 a0_6) := (blk_cell BK142.out 6).trans rfl
                        have hcz42_7 : wc.cell? ⟨gb142, 7, none⟩ = some (.int .i64 a0_7) := (blk_cell BK142.out 7).trans rfl
                        have hcz42_8 : wc.cell? ⟨gb142, 8, none⟩ = some (.int .i64 a0_8) := (blk_cell BK142.out 8).trans rfl
                        have hcz42_9 : wc.cell? ⟨gb142, 9, none⟩ = some (.int .i64 a0_9) := (blk_cell BK142.out 9).trans rfl
                        have hcz42_10 : wc.cell? ⟨gb142, 10, none⟩ = some (.int .i64 a0_10) := (blk_cell BK142.out 10).trans rfl
                        have hcz42_11 : wc.cell? ⟨gb142, 11, none⟩ = some (.int .i64 a0_11) := (blk_cell BK142.out 11).trans rfl
                        have hcz42_12 : wc.cell? ⟨gb142, 12, none⟩ = some (.int .i64 a0_12) := (blk_cell BK142.out 12).trans rfl
                        have hcz42_13 : wc.cell? ⟨gb142, 13, none⟩ = some (.int .i64 a0_13) := (blk_cell BK142.out 13).trans rfl
                        have hcz42_14 : wc.cell? ⟨gb142, 14, none⟩ = some (.bool a0_14) := (blk_cell BK142.out 14).trans rfl
                        have hcz42_15 : wc.cell? ⟨gb142, 15, none⟩ = some (.bool a0_15) := (blk_cell BK142.out 15).trans rfl
                        have hfz42_0 := blk_frozen BK142.out 0
                        have hfz42_1 := blk_frozen BK142.out 1
                        have hfz42_2 := blk_frozen BK142.out 2
                        have hfz42_3 := blk_frozen BK142.out 3
                        have hfz42_4 := blk_frozen BK142.out 4
                        have hfz42_5 := blk_frozen BK142.out 5
                        have hfz42_6 := blk_frozen BK142.out 6
                        have hfz42_7 := blk_frozen BK142.out 7
                        have hfz42_8 := blk_frozen BK142.out 8
                        have hfz42_9 := blk_frozen BK142.out 9
                        have hfz42_10 := blk_frozen BK142.out 10
                        have hfz42_11 := blk_frozen BK142.out 11
                        have hfz42_12 := blk_frozen BK142.out 12
                        have hfz42_13 := blk_frozen BK142.out 13
                        have hfz42_14 := blk_frozen BK142.out 14
                        have hfz42_15 := blk_frozen BK142.out 15
                        go_wp2_with (first | (go_at_call 22; (with_reducible refine (signalmanref15_within.calls a0_7 1 65536 true _ A31.out).mono ?_); rintro e w' ⟨rfl, ⟨nd, rfl⟩⟩) | (go_at_call 22; (with_reducible refine (signalmanref15_within.calls a0_8 0 1000 true _ A33.out).mono ?_); rintro e w' ⟨rfl, ⟨nd, rfl⟩⟩) | (go_at_call 22; (with_reducible refine (signalmanref15_within.calls a0_9 1 1000 true _ A35.out).mono ?_); rintro e w' ⟨rfl, ⟨nd, rfl⟩⟩) | (go_at_call 22; (with_reducible refine (signalmanref15_within.calls a0_11 1 4096 true _ A37.out).mono ?_); rintro e w' ⟨rfl, ⟨nd, rfl⟩⟩) | (go_at_call 22; (with_reducible refine (signalmanref15_within.calls a0_12 1 16 true _ A39.out).mono ?_); rintro e w' ⟨rfl, ⟨nd, rfl⟩⟩) | (go_at_call 22; (with_reducible refine (signalmanref15_within.calls a0_13 1 16 t153 _ A41.out).mono ?_); rintro e w' ⟨rfl, ⟨nd, rfl⟩⟩))
                        go_meet
                        case rel => exact ⟨_, (t153), (by first | rfl | (simp; done) | (simp [*]; done)), H', ⟨by have := HJ1.out; have := HJ12.out; first | omega | exact Nat.le_refl _⟩, ⟨by (with_reducible repeat (first | refine blk_drewN ?_ _ | refine blk_drew ?_ | refine blk_alloc ?_ _)); exact BK142.out⟩, ⟨by repeat (first | (with_reducible first | exact HB.out | apply below_alloc | apply pw_below_drewN | apply below_drew1 | refine below_set ?_ GE142.out) | exact HB.out)⟩⟩
                      · replace c40 := Bool.eq_false_iff.mpr c40
                        subst c40
                        have H1 : (signalmanref15_Check.j2 kj12 false a0_0 a0_1 a0_2 a0_3 a0_4 a0_5 a0_6 a0_7 a0_8 a0_9 a0_10 a0_11 a0_12 a0_13 a0_14 a0_15) = some r := by rw [if_neg (show ¬ (false = true) by decide)] at H; exact H
                        clear H
                        have H := H1
                        clear H1
                        have H' := Aside0.mk H
                        clear H
                        have hcz43_0 : wc.cell? ⟨gb142, 0, none⟩ = some (.int .i64 a0_0) := (blk_cell BK142.out 0).trans rfl
                        have hcz43_1 : wc.cell? ⟨gb142, 1, none⟩ = some (.int .i64 a0_1) := (blk_cell BK142.out 1).trans rfl
                        have hcz43_2 : wc.cell? ⟨gb142, 2, none⟩ = some (.int .i64 a0_2) := (blk_cell BK142.out 2).trans rfl
                        have hcz43_3 : wc.cell? ⟨gb142, 3, none⟩ = some (.int .i64 a0_3) := (blk_cell BK142.out 3).trans rfl
                        have hcz43_4 : wc.cell? ⟨gb142, 4, none⟩ = some (.int .i64 a0_4) := (blk_cell BK142.out 4).trans rfl
                        have hcz43_5 : wc.cell? ⟨gb142, 5, none⟩ = some (.int .i64 a0_5) := (blk_cell BK142.out 5).trans rfl
                        have hcz43_6 : wc.cell? ⟨gb142, 6, none⟩ = some (.int .i64 a0_6) := (blk_cell BK142.out 6).trans rfl
                        have hcz43_7 : wc.cell? ⟨gb142, 7, none⟩ = some (.int .i64 a0_7) := (blk_cell BK142.out 7).trans rfl
                        have hcz43_8 : wc.cell? ⟨gb142, 8, none⟩ = some (.int .i64 a0_8) := (blk_cell BK142.out 8).trans rfl
                        have hcz43_9 : wc.cell? ⟨gb142, 9, none⟩ = some (.int .i64 a0_9) := (blk_cell BK142.out 9).trans rfl
                        have hcz43_10 : wc.cell? ⟨gb142, 10, none⟩ = some (.int .i64 a0_10) := (blk_cell BK142.out 10).trans rfl
                        have hcz43_11 : wc.cell? ⟨gb142, 11, none⟩ = some (.int .i64 a0_11) := (blk_cell BK142.out 11).trans rfl
                        have hcz43_12 : wc.cell? ⟨gb142, 12, none⟩ = some (.int .i64 a0_12) := (blk_cell BK142.out 12).trans rfl
                        have hcz43_13 : wc.cell? ⟨gb142, 13, none⟩ = some (.int .i64 a0_13) := (blk_cell BK142.out 13).trans rfl
                        have hcz43_14 : wc.cell? ⟨gb142, 14, none⟩ = some (.bool a0_14) := (blk_cell BK142.out 14).trans rfl
                        have hcz43_15 : wc.cell? ⟨gb142, 15, none⟩ = some (.bool a0_15) := (blk_cell BK142.out 15).trans rfl
                        have hfz43_0 := blk_frozen BK142.out 0
                        have hfz43_1 := blk_frozen BK142.out 1
                        have hfz43_2 := blk_frozen BK142.out 2
                        have hfz43_3 := blk_frozen BK142.out 3
                        have hfz43_4 := blk_frozen BK142.out 4
                        have hfz43_5 := blk_frozen BK142.out 5
                        have hfz43_6 := blk_frozen BK142.out 6
                        have hfz43_7 := blk_frozen BK142.out 7
                        have hfz43_8 := blk_frozen BK142.out 8
                        have hfz43_9 := blk_frozen BK142.out 9
                        have hfz43_10 := blk_frozen BK142.out 10
                        have hfz43_11 := blk_frozen BK142.out 11
                        have hfz43_12 := blk_frozen BK142.out 12
                        have hfz43_13 := blk_frozen BK142.out 13
                        have hfz43_14 := blk_frozen BK142.out 14
                        have hfz43_15 := blk_frozen BK142.out 15
                        go_wp2_with (first | (go_at_call 22; (with_reducible refine (signalmanref15_within.calls a0_7 1 65536 true _ A31.out).mono ?_); rintro e w' ⟨rfl, ⟨nd, rfl⟩⟩) | (go_at_call 22; (with_reducible refine (signalmanref15_within.calls a0_8 0 1000 true _ A33.out).mono ?_); rintro e w' ⟨rfl, ⟨nd, rfl⟩⟩) | (go_at_call 22; (with_reducible refine (signalmanref15_within.calls a0_9 1 1000 true _ A35.out).mono ?_); rintro e w' ⟨rfl, ⟨nd, rfl⟩⟩) | (go_at_call 22; (with_reducible refine (signalmanref15_within.calls a0_11 1 4096 true _ A37.out).mono ?_); rintro e w' ⟨rfl, ⟨nd, rfl⟩⟩) | (go_at_call 22; (with_reducible refine (signalmanref15_within.calls a0_12 1 16 false _ A39.out).mono ?_); rintro e w' ⟨rfl, ⟨nd, rfl⟩⟩))
                        go_meet
                        case rel => exact ⟨_, (false), (by first | rfl | (simp; done) | (simp [*]; done)), H', ⟨by have := HJ1.out; have := HJ12.out; first | omega | exact Nat.le_refl _⟩, ⟨by (with_reducible repeat (first | refine blk_drewN ?_ _ | refine blk_drew ?_ | refine blk_alloc ?_ _)); exact BK142.out⟩, ⟨by repeat (first | (with_reducible first | exact HB.out | apply below_alloc | apply pw_below_drewN | apply below_drew1 | refine below_set ?_ GE142.out) | exact HB.out)⟩⟩
                    · replace c38 := Bool.eq_false_iff.mpr c38
                      subst c38
                      have H1 : (signalmanref15_Check.j2 kj12 false a0_0 a0_1 a0_2 a0_3 a0_4 a0_5 a0_6 a0_7 a0_8 a0_9 a0_10 a0_11 a0_12 a0_13 a0_14 a0_15) = some r := by rw [if_neg (show ¬ (false = true) by decide)] at H; exact H
                      clear H
                      have H := H1
                      clear H1
                      have H' := Aside0.mk H
                      clear H
                      have hcz44_0 : wc.cell? ⟨gb142, 0, none⟩ = some (.int .i64 a0_0) := (blk_cell BK142.out 0).trans rfl
                      have hcz44_1 : wc.cell? ⟨gb142, 1, none⟩ = some (.int .i64 a0_1) := (blk_cell BK142.out 1).trans rfl
                      have hcz44_2 : wc.cell? ⟨gb142, 2, none⟩ = some (.int .i64 a0_2) := (blk_cell BK142.out 2).trans rfl
                      have hcz44_3 : wc.cell? ⟨gb142, 3, none⟩ = some (.int .i64 a0_3) := (blk_cell BK142.out 3).trans rfl
                      have hcz44_4 : wc.cell? ⟨gb142, 4, none⟩ = some (.int .i64 a0_4) := (blk_cell BK142.out 4).trans rfl
                      have hcz44_5 : wc.cell? ⟨gb142, 5, none⟩ = some (.int .i64 a0_5) := (blk_cell BK142.out 5).trans rfl
                      have hcz44_6 : wc.cell? ⟨gb142, 6, none⟩ = some (.int .i64 a0_6) := (blk_cell BK142.out 6).trans rfl
                      have hcz44_7 : wc.cell? ⟨gb142, 7, none⟩ = some (.int .i64 a0_7) := (blk_cell BK142.out 7).trans rfl
                      have hcz44_8 : wc.cell? ⟨gb142, 8, none⟩ = some (.int .i64 a0_8) := (blk_cell BK142.out 8).trans rfl
                      have hcz44_9 : wc.cell? ⟨gb142, 9, none⟩ = some (.int .i64 a0_9) := (blk_cell BK142.out 9).trans rfl
                      have hcz44_10 : wc.cell? ⟨gb142, 10, none⟩ = some (.int .i64 a0_10) := (blk_cell BK142.out 10).trans rfl
                      have hcz44_11 : wc.cell? ⟨gb142, 11, none⟩ = some (.int .i64 a0_11) := (blk_cell BK142.out 11).trans rfl
                      have hcz44_12 : wc.cell? ⟨gb142, 12, none⟩ = some (.int .i64 a0_12) := (blk_cell BK142.out 12).trans rfl
                      have hcz44_13 : wc.cell? ⟨gb142, 13, none⟩ = some (.int .i64 a0_13) := (blk_cell BK142.out 13).trans rfl
                      have hcz44_14 : wc.cell? ⟨gb142, 14, none⟩ = some (.bool a0_14) := (blk_cell BK142.out 14).trans rfl
                      have hcz44_15 : wc.cell? ⟨gb142, 15, none⟩ = some (.bool a0_15) := (blk_cell BK142.out 15).trans rfl
                      have hfz44_0 := blk_frozen BK142.out 0
                      have hfz44_1 := blk_frozen BK142.out 1
                      have hfz44_2 := blk_frozen BK142.out 2
                      have hfz44_3 := blk_frozen BK142.out 3
                      have hfz44_4 := blk_frozen BK142.out 4
                      have hfz44_5 := blk_frozen BK142.out 5
                      have hfz44_6 := blk_frozen BK142.out 6
                      have hfz44_7 := blk_frozen BK142.out 7
                      have hfz44_8 := blk_frozen BK142.out 8
                      have hfz44_9 := blk_frozen BK142.out 9
                      have hfz44_10 := blk_frozen BK142.out 10
                      have hfz44_11 := blk_frozen BK142.out 11
                      have hfz44_12 := blk_frozen BK142.out 12
                      have hfz44_13 := blk_frozen BK142.out 13
                      have hfz44_14 := blk_frozen BK142.out 14
                      have hfz44_15 := blk_frozen BK142.out 15
                      go_wp2_with (first | (go_at_call 22; (with_reducible refine (signalmanref15_within.calls a0_7 1 65536 true _ A31.out).mono ?_); rintro e w' ⟨rfl, ⟨nd, rfl⟩⟩) | (go_at_call 22; (with_reducible refine (signalmanref15_within.calls a0_8 0 1000 true _ A33.out).mono ?_); rintro e w' ⟨rfl, ⟨nd, rfl⟩⟩) | (go_at_call 22; (with_reducible refine (signalmanref15_within.calls a0_9 1 1000 true _ A35.out).mono ?_); rintro e w' ⟨rfl, ⟨nd, rfl⟩⟩) | (go_at_call 22; (with_reducible refine (signalmanref15_within.calls a0_11 1 4096 false _ A37.out).mono ?_); rintro e w' ⟨rfl, ⟨nd, rfl⟩⟩))
                      go_meet
                      case rel => exact ⟨_, (false), (by first | rfl | (simp; done) | (simp [*]; done)), H', ⟨by have := HJ1.out; have := HJ12.out; first | omega | exact Nat.le_refl _⟩, ⟨by (with_reducible repeat (first | refine blk_drewN ?_ _ | refine blk_drew ?_ | refine blk_alloc ?_ _)); exact BK142.out⟩, ⟨by repeat (first | (with_reducible first | exact HB.out | apply below_alloc | apply pw_below_drewN | apply below_drew1 | refine below_set ?_ GE142.out) | exact HB.out)⟩⟩
                  · replace c36 := Bool.eq_false_iff.mpr c36
                    subst c36
                    have H1 : (signalmanref15_Check.j2 kj12 false a0_0 a0_1 a0_2 a0_3 a0_4 a0_5 a0_6 a0_7 a0_8 a0_9 a0_10 a0_11 a0_12 a0_13 a0_14 a0_15) = some r := by rw [if_neg (show ¬ (false = true) by decide)] at H; exact H
                    clear H
                    have H := H1
                    clear H1
                    have H' := Aside0.mk H
                    clear H
                    have hcz45_0 : wc.cell? ⟨gb142, 0, none⟩ = some (.int .i64 a0_0) := (blk_cell BK142.out 0).trans rfl
                    have hcz45_1 : wc.cell? ⟨gb142, 1, none⟩ = some (.int .i64 a0_1) := (blk_cell BK142.out 1).trans rfl
                    have hcz45_2 : wc.cell? ⟨gb142, 2, none⟩ = some (.int .i64 a0_2) := (blk_cell BK142.out 2).trans rfl
                    have hcz45_3 : wc.cell? ⟨gb142, 3, none⟩ = some (.int .i64 a0_3) := (blk_cell BK142.out 3).trans rfl
                    have hcz45_4 : wc.cell? ⟨gb142, 4, none⟩ = some (.int .i64 a0_4) := (blk_cell BK142.out 4).trans rfl
                    have hcz45_5 : wc.cell? ⟨gb142, 5, none⟩ = some (.int .i64 a0_5) := (blk_cell BK142.out 5).trans rfl
                    have hcz45_6 : wc.cell? ⟨gb142, 6, none⟩ = some (.int .i64 a0_6) := (blk_cell BK142.out 6).trans rfl
                    have hcz45_7 : wc.cell? ⟨gb142, 7, none⟩ = some (.int .i64 a0_7) := (blk_cell BK142.out 7).trans rfl
                    have hcz45_8 : wc.cell? ⟨gb142, 8, none⟩ = some (.int .i64 a0_8) := (blk_cell BK142.out 8).trans rfl
                    have hcz45_9 : wc.cell? ⟨gb142, 9, none⟩ = some (.int .i64 a0_9) := (blk_cell BK142.out 9).trans rfl
                    have hcz45_10 : wc.cell? ⟨gb142, 10, none⟩ = some (.int .i64 a0_10) := (blk_cell BK142.out 10).trans rfl
                    have hcz45_11 : wc.cell? ⟨gb142, 11, none⟩ = some (.int .i64 a0_11) := (blk_cell BK142.out 11).trans rfl
                    have hcz45_12 : wc.cell? ⟨gb142, 12, none⟩ = some (.int .i64 a0_12) := (blk_cell BK142.out 12).trans rfl
                    have hcz45_13 : wc.cell? ⟨gb142, 13, none⟩ = some (.int .i64 a0_13) := (blk_cell BK142.out 13).trans rfl
                    have hcz45_14 : wc.cell? ⟨gb142, 14, none⟩ = some (.bool a0_14) := (blk_cell BK142.out 14).trans rfl
                    have hcz45_15 : wc.cell? ⟨gb142, 15, none⟩ = some (.bool a0_15) := (blk_cell BK142.out 15).trans rfl
                    have hfz45_0 := blk_frozen BK142.out 0
                    have hfz45_1 := blk_frozen BK142.out 1
                    have hfz45_2 := blk_frozen BK142.out 2
                    have hfz45_3 := blk_frozen BK142.out 3
                    have hfz45_4 := blk_frozen BK142.out 4
                    have hfz45_5 := blk_frozen BK142.out 5
                    have hfz45_6 := blk_frozen BK142.out 6
                    have hfz45_7 := blk_frozen BK142.out 7
                    have hfz45_8 := blk_frozen BK142.out 8
                    have hfz45_9 := blk_frozen BK142.out 9
                    have hfz45_10 := blk_frozen BK142.out 10
                    have hfz45_11 := blk_frozen BK142.out 11
                    have hfz45_12 := blk_frozen BK142.out 12
                    have hfz45_13 := blk_frozen BK142.out 13
                    have hfz45_14 := blk_frozen BK142.out 14
                    have hfz45_15 := blk_frozen BK142.out 15
                    go_wp2_with (first | (go_at_call 22; (with_reducible refine (signalmanref15_within.calls a0_7 1 65536 true _ A31.out).mono ?_); rintro e w' ⟨rfl, ⟨nd, rfl⟩⟩) | (go_at_call 22; (with_reducible refine (signalmanref15_within.calls a0_8 0 1000 true _ A33.out).mono ?_); rintro e w' ⟨rfl, ⟨nd, rfl⟩⟩) | (go_at_call 22; (with_reducible refine (signalmanref15_within.calls a0_9 1 1000 false _ A35.out).mono ?_); rintro e w' ⟨rfl, ⟨nd, rfl⟩⟩))
                    go_meet
                    case rel => exact ⟨_, (false), (by first | rfl | (simp; done) | (simp [*]; done)), H', ⟨by have := HJ1.out; have := HJ12.out; first | omega | exact Nat.le_refl _⟩, ⟨by (with_reducible repeat (first | refine blk_drewN ?_ _ | refine blk_drew ?_ | refine blk_alloc ?_ _)); exact BK142.out⟩, ⟨by repeat (first | (with_reducible first | exact HB.out | apply below_alloc | apply pw_below_drewN | apply below_drew1 | refine below_set ?_ GE142.out) | exact HB.out)⟩⟩
                · replace c34 := Bool.eq_false_iff.mpr c34
                  subst c34
                  have H1 : (signalmanref15_Check.j2 kj12 false a0_0 a0_1 a0_2 a0_3 a0_4 a0_5 a0_6 a0_7 a0_8 a0_9 a0_10 a0_11 a0_12 a0_13 a0_14 a0_15) = some r := by rw [if_neg (show ¬ (false = true) by decide)] at H; exact H
                  clear H
                  have H := H1
                  clear H1
                  have H' := Aside0.mk H
                  clear H
                  have hcz46_0 : wc.cell? ⟨gb142, 0, none⟩ = some (.int .i64 a0_0) := (blk_cell BK142.out 0).trans rfl
                  have hcz46_1 : wc.cell? ⟨gb142, 1, none⟩ = some (.int .i64 a0_1) := (blk_cell BK142.out 1).trans rfl
                  have hcz46_2 : wc.cell? ⟨gb142, 2, none⟩ = some (.int .i64 a0_2) := (blk_cell BK142.out 2).trans rfl
                  have hcz46_3 : wc.cell? ⟨gb142, 3, none⟩ = some (.int .i64 a0_3) := (blk_cell BK142.out 3).trans rfl
                  have hcz46_4 : wc.cell? ⟨gb142, 4, none⟩ = some (.int .i64 a0_4) := (blk_cell BK142.out 4).trans rfl
                  have hcz46_5 : wc.cell? ⟨gb142, 5, none⟩ = some (.int .i64 a0_5) := (blk_cell BK142.out 5).trans rfl
                  have hcz46_6 : wc.cell? ⟨gb142, 6, none⟩ = some (.int .i64 a0_6) := (blk_cell BK142.out 6).trans rfl
                  have hcz46_7 : wc.cell? ⟨gb142, 7, none⟩ = some (.int .i64 a0_7) := (blk_cell BK142.out 7).trans rfl
                  have hcz46_8 : wc.cell? ⟨gb142, 8, none⟩ = some (.int .i64 a0_8) := (blk_cell BK142.out 8).trans rfl
                  have hcz46_9 : wc.cell? ⟨gb142, 9, none⟩ = some (.int .i64 a0_9) := (blk_cell BK142.out 9).trans rfl
                  have hcz46_10 : wc.cell? ⟨gb142, 10, none⟩ = some (.int .i64 a0_10) := (blk_cell BK142.out 10).trans rfl
                  have hcz46_11 : wc.cell? ⟨gb142, 11, none⟩ = some (.int .i64 a0_11) := (blk_cell BK142.out 11).trans rfl
                  have hcz46_12 : wc.cell? ⟨gb142, 12, none⟩ = some (.int .i64 a0_12) := (blk_cell BK142.out 12).trans rfl
                  have hcz46_13 : wc.cell? ⟨gb142, 13, none⟩ = some (.int .i64 a0_13) := (blk_cell BK142.out 13).trans rfl
                  have hcz46_14 : wc.cell? ⟨gb142, 14, none⟩ = some (.bool a0_14) := (blk_cell BK142.out 14).trans rfl
                  have hcz46_15 : wc.cell? ⟨gb142, 15, none⟩ = some (.bool a0_15) := (blk_cell BK142.out 15).trans rfl
                  have hfz46_0 := blk_frozen BK142.out 0
                  have hfz46_1 := blk_frozen BK142.out 1
                  have hfz46_2 := blk_frozen BK142.out 2
                  have hfz46_3 := blk_frozen BK142.out 3
                  have hfz46_4 := blk_frozen BK142.out 4
                  have hfz46_5 := blk_frozen BK142.out 5
                  have hfz46_6 := blk_frozen BK142.out 6
                  have hfz46_7 := blk_frozen BK142.out 7
                  have hfz46_8 := blk_frozen BK142.out 8
                  have hfz46_9 := blk_frozen BK142.out 9
                  have hfz46_10 := blk_frozen BK142.out 10
                  have hfz46_11 := blk_frozen BK142.out 11
                  have hfz46_12 := blk_frozen BK142.out 12
                  have hfz46_13 := blk_frozen BK142.out 13
                  have hfz46_14 := blk_frozen BK142.out 14
                  have hfz46_15 := blk_frozen BK142.out 15
                  go_wp2_with (first | (go_at_call 22; (with_reducible refine (signalmanref15_within.calls a0_7 1 65536 true _ A31.out).mono ?_); rintro e w' ⟨rfl, ⟨nd, rfl⟩⟩) | (go_at_call 22; (with_reducible refine (signalmanref15_within.calls a0_8 0 1000 false _ A33.out).mono ?_); rintro e w' ⟨rfl, ⟨nd, rfl⟩⟩))
                  go_meet
                  case rel => exact ⟨_, (false), (by first | rfl | (simp; done) | (simp [*]; done)), H', ⟨by have := HJ1.out; have := HJ12.out; first | omega | exact Nat.le_refl _⟩, ⟨by (with_reducible repeat (first | refine blk_drewN ?_ _ | refine blk_drew ?_ | refine blk_alloc ?_ _)); exact BK142.out⟩, ⟨by repeat (first | (with_reducible first | exact HB.out | apply below_alloc | apply pw_below_drewN | apply below_drew1 | refine below_set ?_ GE142.out) | exact HB.out)⟩⟩
              · replace c32 := Bool.eq_false_iff.mpr c32
                subst c32
                have H1 : (signalmanref15_Check.j2 kj12 false a0_0 a0_1 a0_2 a0_3 a0_4 a0_5 a0_6 a0_7 a0_8 a0_9 a0_10 a0_11 a0_12 a0_13 a0_14 a0_15) = some r := by rw [if_neg (show ¬ (false = true) by decide)] at H; exact H
                clear H
                have H := H1
                clear H1
                have H' := Aside0.mk H
                clear H
                have hcz47_0 : wc.cell? ⟨gb142, 0, none⟩ = some (.int .i64 a0_0) := (blk_cell BK142.out 0).trans rfl
                have hcz47_1 : wc.cell? ⟨gb142, 1, none⟩ = some (.int .i64 a0_1) := (blk_cell BK142.out 1).trans rfl
                have hcz47_2 : wc.cell? ⟨gb142, 2, none⟩ = some (.int .i64 a0_2) := (blk_cell BK142.out 2).trans rfl
                have hcz47_3 : wc.cell? ⟨gb142, 3, none⟩ = some (.int .i64 a0_3) := (blk_cell BK142.out 3).trans rfl
                have hcz47_4 : wc.cell? ⟨gb142, 4, none⟩ = some (.int .i64 a0_4) := (blk_cell BK142.out 4).trans rfl
                have hcz47_5 : wc.cell? ⟨gb142, 5, none⟩ = some (.int .i64 a0_5) := (blk_cell BK142.out 5).trans rfl
                have hcz47_6 : wc.cell? ⟨gb142, 6, none⟩ = some (.int .i64 a0_6) := (blk_cell BK142.out 6).trans rfl
                have hcz47_7 : wc.cell? ⟨gb142, 7, none⟩ = some (.int .i64 a0_7) := (blk_cell BK142.out 7).trans rfl
                have hcz47_8 : wc.cell? ⟨gb142, 8, none⟩ = some (.int .i64 a0_8) := (blk_cell BK142.out 8).trans rfl
                have hcz47_9 : wc.cell? ⟨gb142, 9, none⟩ = some (.int .i64 a0_9) := (blk_cell BK142.out 9).trans rfl
                have hcz47_10 : wc.cell? ⟨gb142, 10, none⟩ = some (.int .i64 a0_10) := (blk_cell BK142.out 10).trans rfl
                have hcz47_11 : wc.cell? ⟨gb142, 11, none⟩ = some (.int .i64 a0_11) := (blk_cell BK142.out 11).trans rfl
                have hcz47_12 : wc.cell? ⟨gb142, 12, none⟩ = some (.int .i64 a0_12) := (blk_cell BK142.out 12).trans rfl
                have hcz47_13 : wc.cell? ⟨gb142, 13, none⟩ = some (.int .i64 a0_13) := (blk_cell BK142.out 13).trans rfl
                have hcz47_14 : wc.cell? ⟨gb142, 14, none⟩ = some (.bool a0_14) := (blk_cell BK142.out 14).trans rfl
                have hcz47_15 : wc.cell? ⟨gb142, 15, none⟩ = some (.bool a0_15) := (blk_cell BK142.out 15).trans rfl
                have hfz47_0 := blk_frozen BK142.out 0
                have hfz47_1 := blk_frozen BK142.out 1
                have hfz47_2 := blk_frozen BK142.out 2
                have hfz47_3 := blk_frozen BK142.out 3
                have hfz47_4 := blk_frozen BK142.out 4
                have hfz47_5 := blk_frozen BK142.out 5
                have hfz47_6 := blk_frozen BK142.out 6
                have hfz47_7 := blk_frozen BK142.out 7
                have hfz47_8 := blk_frozen BK142.out 8
                have hfz47_9 := blk_frozen BK142.out 9
                have hfz47_10 := blk_frozen BK142.out 10
                have hfz47_11 := blk_frozen BK142.out 11
                have hfz47_12 := blk_frozen BK142.out 12
                have hfz47_13 := blk_frozen BK142.out 13
                have hfz47_14 := blk_frozen BK142.out 14
                have hfz47_15 := blk_frozen BK142.out 15
                go_wp2_with (first | (go_at_call 22; (with_reducible refine (signalmanref15_within.calls a0_7 1 65536 false _ A31.out).mono ?_); rintro e w' ⟨rfl, ⟨nd, rfl⟩⟩))
                go_meet
                case rel => exact ⟨_, (false), (by first | rfl | (simp; done) | (simp [*]; done)), H', ⟨by have := HJ1.out; have := HJ12.out; first | omega | exact Nat.le_refl _⟩, ⟨by (with_reducible repeat (first | refine blk_drewN ?_ _ | refine blk_drew ?_ | refine blk_alloc ?_ _)); exact BK142.out⟩, ⟨by repeat (first | (with_reducible first | exact HB.out | apply below_alloc | apply pw_below_drewN | apply below_drew1 | refine below_set ?_ GE142.out) | exact HB.out)⟩⟩
            · replace c30 := Bool.eq_false_iff.mpr c30
              subst c30
              have H1 : (signalmanref15_Check.j2 kj12 false a0_0 a0_1 a0_2 a0_3 a0_4 a0_5 a0_6 a0_7 a0_8 a0_9 a0_10 a0_11 a0_12 a0_13 a0_14 a0_15) = some r := by rw [if_neg (show ¬ (false = true) by decide)] at H; exact H
              clear H
              have H := H1
              clear H1
              have H' := Aside0.mk H
              clear H
              go_wp2
              go_meet
              case rel => exact ⟨_, (false), (by first | rfl | (simp; done) | (simp [*]; done)), H', ⟨by have := HJ1.out; have := HJ12.out; first | omega | exact Nat.le_refl _⟩, ⟨by (with_reducible repeat (first | refine blk_drewN ?_ _ | refine blk_drew ?_ | refine blk_alloc ?_ _)); exact BK142.out⟩, ⟨by repeat (first | (with_reducible first | exact HB.out | apply below_alloc | apply pw_below_drewN | apply below_drew1 | refine below_set ?_ GE142.out) | exact HB.out)⟩⟩
          case rest =>
            clear HC29
            try clear p2
            try clear c3
            try clear c4
            try clear c30
            try clear c32
            try clear c34
            try clear c36
            try clear c38
            try clear c40
            try clear hcz25_10
            try clear hcz25_11
            try clear hcz25_12
            try clear hcz25_13
            try clear hcz25_14
            try clear hcz25_15
            try clear hcz25_2
            try clear hcz25_3
            try clear hcz25_4
            try clear hcz25_5
            try clear hcz25_6
            try clear hcz25_7
            try clear hcz25_8
            try clear hcz25_9
            try clear hcz26_0
            try clear hcz26_1
            try clear hcz26_10
            try clear hcz26_11
            try clear hcz26_12
            try clear hcz26_13
            try clear hcz26_14
            try clear hcz26_15
            try clear hcz26_2
            try clear hcz26_3
            try clear hcz26_4
            try clear hcz26_5
            try clear hcz26_6
            try clear hcz26_7
            try clear hcz26_8
            try clear hcz26_9
            try clear hcz27_0
            try clear hcz27_1
            try clear hcz27_10
            try clear hcz27_11
            try clear hcz27_12
            try clear hcz27_13
            try clear hcz27_14
            try clear hcz27_15
            try clear hcz27_2
            try clear hcz27_3
            try clear hcz27_4
            try clear hcz27_5
            try clear hcz27_6
            try clear hcz27_7
            try clear hcz27_8
            try clear hcz27_9
            try clear hcz28_0
            try clear hcz28_1
            try clear hcz28_10
            try clear hcz28_11
            try clear hcz28_12
            try clear hcz28_13
            try clear hcz28_14
            try clear hcz28_15
            try clear hcz28_2
            try clear hcz28_3
            try clear hcz28_4
            try clear hcz28_5
            try clear hcz28_6
            try clear hcz28_7
            try clear hcz28_8
            try clear hcz28_9
            try clear hcz42_0
            try clear hcz42_1
            try clear hcz42_10
            try clear hcz42_11
            try clear hcz42_12
            try clear hcz42_13
            try clear hcz42_14
            try clear hcz42_15
            try clear hcz42_2
            try clear hcz42_3
            try clear hcz42_4
            try clear hcz42_5
            try clear hcz42_6
            try clear hcz42_7
            try clear hcz42_8
            try clear hcz42_9
            try clear hcz43_0
            try clear hcz43_1
            try clear hcz43_10
            try clear hcz43_11
            try clear hcz43_12
            try clear hcz43_13
            try clear hcz43_14
            try clear hcz43_15
            try clear hcz43_2
            try clear hcz43_3
            try clear hcz43_4
            try clear hcz43_5
            try clear hcz43_6
            try clear hcz43_7
            try clear hcz43_8
            try clear hcz43_9
            try clear hcz44_0
            try clear hcz44_1
            try clear hcz44_10
            try clear hcz44_11
            try clear hcz44_12
            try clear hcz44_13
            try clear hcz44_14
            try clear hcz44_15
            try clear hcz44_2
            try clear hcz44_3
            try clear hcz44_4
            try clear hcz44_5
            try clear hcz44_6
            try clear hcz44_7
            try clear hcz44_8
            try clear hcz44_9
            try clear hcz45_0
            try clear hcz45_1
            try clear hcz45_10
            try clear hcz45_11
            try clear hcz45_12
            try clear hcz45_13
            try clear hcz45_14
            try clear hcz45_15
            try clear hcz45_2
            try clear hcz45_3
            try clear hcz45_4
            try clear hcz45_5
            try clear hcz45_6
            try clear hcz45_7
            try clear hcz45_8
            try clear hcz45_9
            try clear hcz46_0
            try clear hcz46_1
            try clear hcz46_10
            try clear hcz46_11
            try clear hcz46_12
            try clear hcz46_13
            try clear hcz46_14
            try clear hcz46_15
            try clear hcz46_2
            try clear hcz46_3
            try clear hcz46_4
            try clear hcz46_5
            try clear hcz46_6
            try clear hcz46_7
            try clear hcz46_8
            try clear hcz46_9
            try clear hcz47_0
            try clear hcz47_1
            try clear hcz47_10
            try clear hcz47_11
            try clear hcz47_12
            try clear hcz47_13
            try clear hcz47_14
            try clear hcz47_15
            try clear hcz47_2
            try clear hcz47_3
            try clear hcz47_4
            try clear hcz47_5
            try clear hcz47_6
            try clear hcz47_7
            try clear hcz47_8
            try clear hcz47_9
            try clear hcz6_0
            try clear hcz6_1
            try clear hcz6_10
            try clear hcz6_11
            try clear hcz6_12
            try clear hcz6_13
            try clear hcz6_14
            try clear hcz6_15
            try clear hcz6_2
            try clear hcz6_3
            try clear hcz6_4
            try clear hcz6_5
            try clear hcz6_6
            try clear hcz6_7
            try clear hcz6_8
            try clear hcz6_9
            try clear hcz7_0
            try clear hcz7_1
            try clear hcz7_10
            try clear hcz7_11
            try clear hcz7_12
            try clear hcz7_13
            try clear hcz7_14
            try clear hcz7_15
            try clear hcz7_2
            try clear hcz7_3
            try clear hcz7_4
            try clear hcz7_5
            try clear hcz7_6
            try clear hcz7_7
            try clear hcz7_8
            try clear hcz7_9
            try clear hfz10_0
            try clear hfz10_1
            try clear hfz10_10
            try clear hfz10_11
            try clear hfz10_12
            try clear hfz10_13
            try clear hfz10_14
            try clear hfz10_15
            try clear hfz10_2
            try clear hfz10_3
            try clear hfz10_4
            try clear hfz10_5
            try clear hfz10_6
            try clear hfz10_7
            try clear hfz10_8
            try clear hfz10_9
            try clear hfz11_0
            try clear hfz11_1
            try clear hfz11_10
            try clear hfz11_11
            try clear hfz11_12
            try clear hfz11_13
            try clear hfz11_14
            try clear hfz11_15
            try clear hfz11_2
            try clear hfz11_3
            try clear hfz11_4
            try clear hfz11_5
            try clear hfz11_6
            try clear hfz11_7
            try clear hfz11_8
            try clear hfz11_9
            try clear hfz12_0
            try clear hfz12_1
            try clear hfz12_10
            try clear hfz12_11
            try clear hfz12_12
            try clear hfz12_13
            try clear hfz12_14
            try clear hfz12_15
            try clear hfz12_2
            try clear hfz12_3
            try clear hfz12_4
            try clear hfz12_5
            try clear hfz12_6
            try clear hfz12_7
            try clear hfz12_8
            try clear hfz12_9
            try clear hfz24_0
            try clear hfz24_1
            try clear hfz24_10
            try clear hfz24_11
            try clear hfz24_12
            try clear hfz24_13
            try clear hfz24_14
            try clear hfz24_15
            try clear hfz24_2
            try clear hfz24_3
            try clear hfz24_4
            try clear hfz24_5
            try clear hfz24_6
            try clear hfz24_7
            try clear hfz24_8
            try clear hfz24_9
            try clear hfz25_0
            try clear hfz25_1
            try clear hfz25_10
            try clear hfz25_11
            try clear hfz25_12
            try clear hfz25_13
            try clear hfz25_14
            try clear hfz25_15
            try clear hfz25_2
            try clear hfz25_3
            try clear hfz25_4
            try clear hfz25_5
            try clear hfz25_6
            try clear hfz25_7
            try clear hfz25_8
            try clear hfz25_9
            try clear hfz26_0
            try clear hfz26_1
            try clear hfz26_10
            try clear hfz26_11
            try clear hfz26_12
            try clear hfz26_13
            try clear hfz26_14
            try clear hfz26_15
            try clear hfz26_2
            try clear hfz26_3
            try clear hfz26_4
            try clear hfz26_5
            try clear hfz26_6
            try clear hfz26_7
            try clear hfz26_8
            try clear hfz26_9
            try clear hfz27_0
            try clear hfz27_1
            try clear hfz27_10
            try clear hfz27_11
            try clear hfz27_12
            try clear hfz27_13
            try clear hfz27_14
            try clear hfz27_15
            try clear hfz27_2
            try clear hfz27_3
            try clear hfz27_4
            try clear hfz27_5
            try clear hfz27_6
            try clear hfz27_7
            try clear hfz27_8
            try clear hfz27_9
            try clear hfz28_0
            try clear hfz28_1
            try clear hfz28_10
            try clear hfz28_11
            try clear hfz28_12
            try clear hfz28_13
            try clear hfz28_14
            try clear hfz28_15
            try clear hfz28_2
            try clear hfz28_3
            try clear hfz28_4
            try clear hfz28_5
            try clear hfz28_6
            try clear hfz28_7
            try clear hfz28_8
            try clear hfz28_9
            try clear hfz42_0
            try clear hfz42_1
            try clear hfz42_10
            try clear hfz42_11
            try clear hfz42_12
            try clear hfz42_13
            try clear hfz42_14
            try clear hfz42_15
            try clear hfz42_2
            try clear hfz42_3
            try clear hfz42_4
            try clear hfz42_5
            try clear hfz42_6
            try clear hfz42_7
            try clear hfz42_8
            try clear hfz42_9
            try clear hfz43_0
            try clear hfz43_1
            try clear hfz43_10
            try clear hfz43_11
            try clear hfz43_12
            try clear hfz43_13
            try clear hfz43_14
            try clear hfz43_15
            try clear hfz43_2
            try clear hfz43_3
            try clear hfz43_4
            try clear hfz43_5
            try clear hfz43_6
            try clear hfz43_7
            try clear hfz43_8
            try clear hfz43_9
            try clear hfz44_0
            try clear hfz44_1
            try clear hfz44_10
            try clear hfz44_11
            try clear hfz44_12
            try clear hfz44_13
            try clear hfz44_14
            try clear hfz44_15
            try clear hfz44_2
            try clear hfz44_3
            try clear hfz44_4
            try clear hfz44_5
            try clear hfz44_6
            try clear hfz44_7
            try clear hfz44_8
            try clear hfz44_9
            try clear hfz45_0
            try clear hfz45_1
            try clear hfz45_10
            try clear hfz45_11
            try clear hfz45_12
            try clear hfz45_13
            try clear hfz45_14
            try clear hfz45_15
            try clear hfz45_2
            try clear hfz45_3
            try clear hfz45_4
            try clear hfz45_5
            try clear hfz45_6
            try clear hfz45_7
            try clear hfz45_8
            try clear hfz45_9
            try clear hfz46_0
            try clear hfz46_1
            try clear hfz46_10
            try clear hfz46_11
            try clear hfz46_12
            try clear hfz46_13
            try clear hfz46_14
            try clear hfz46_15
            try clear hfz46_2
            try clear hfz46_3
            try clear hfz46_4
            try clear hfz46_5
            try clear hfz46_6
            try clear hfz46_7
            try clear hfz46_8
            try clear hfz46_9
            try clear hfz47_0
            try clear hfz47_1
            try clear hfz47_10
            try clear hfz47_11
            try clear hfz47_12
            try clear hfz47_13
            try clear hfz47_14
            try clear hfz47_15
            try clear hfz47_2
            try clear hfz47_3
            try clear hfz47_4
            try clear hfz47_5
            try clear hfz47_6
            try clear hfz47_7
            try clear hfz47_8
            try clear hfz47_9
            try clear hfz6_0
            try clear hfz6_1
            try clear hfz6_10
            try clear hfz6_11
            try clear hfz6_12
            try clear hfz6_13
            try clear hfz6_14
            try clear hfz6_15
            try clear hfz6_2
            try clear hfz6_3
            try clear hfz6_4
            try clear hfz6_5
            try clear hfz6_6
            try clear hfz6_7
            try clear hfz6_8
            try clear hfz6_9
            try clear hfz7_0
            try clear hfz7_1
            try clear hfz7_10
            try clear hfz7_11
            try clear hfz7_12
            try clear hfz7_13
            try clear hfz7_14
            try clear hfz7_15
            try clear hfz7_2
            try clear hfz7_3
            try clear hfz7_4
            try clear hfz7_5
            try clear hfz7_6
            try clear hfz7_7
            try clear hfz7_8
            try clear hfz7_9
            try clear p2
            obtain ⟨kq, x3_28, rfl, HA, HJ28, BK142, HB⟩ := hcut
            cases kq with
            | zero => exact absurd HA.out (by simp [signalmanref15_Check.j2])
            | succ kj28 =>
              have H := HA.out
              clear HA
              simp only [signalmanref15_Check.j2] at H
              by_cases c48 : x3_28 = true
              · subst c48
                have H1 : ((signalmanref15_Most.f a0_0 a0_1 a0_2 a0_3 a0_4 a0_5 a0_6 a0_7 a0_8 a0_9 a0_10 a0_11 a0_12 a0_13 a0_14 a0_15).bind fun t154 => ((signalmanref15_within.f a0_10 t154 1048576).bind fun t155 => (if t155 = true then (if ((wrap64 (a0_7 * a0_11)) ≥ 32) then (some 0) else (some 1)) else (some 1)))) = some r := by rw [if_pos rfl] at H; exact H
                clear H
                have H := H1
                clear H1
                replace H := Option.bind_eq_some_iff.mp H
                obtain ⟨t154, A490, H⟩ := H
                replace H : ((signalmanref15_within.f a0_10 t154 1048576).bind fun t155 => (if t155 = true then (if ((wrap64 (a0_7 * a0_11)) ≥ 32) then (some 0) else (some 1)) else (some 1))) = some r := H
                have A49 := Aside0.mk A490
                clear A490
                replace H := Option.bind_eq_some_iff.mp H
                obtain ⟨t155, A500, H⟩ := H
                replace H : (if t155 = true then (if ((wrap64 (a0_7 * a0_11)) ≥ 32) then (some 0) else (some 1)) else (some 1)) = some r := H
                have A50 := Aside0.mk A500
                clear A500
                by_cases c51 : t155 = true
                · subst c51
                  have H1 : (if ((wrap64 (a0_7 * a0_11)) ≥ 32) then (some 0) else (some 1)) = some r := by rw [if_pos rfl] at H; exact H
                  clear H
                  have H := H1
                  clear H1
                  by_cases c52 : ((wrap64 (a0_7 * a0_11)) ≥ 32)
                  · rw [if_pos c52] at H
                    have c52b0 : decide (32 ≤ (wrap64 (a0_7 * a0_11))) = true := decide_eq_true c52
                    clear c52
                    obtain rfl := Option.some.inj H
                    try go_wp2
                    have n0_ := Aside0.mk (blk_drew BK142.out)
                    have n1_ := Aside0.mk (below_drew1 HB.out)
                    clear BK142
                    clear HB
                    have BK142 := n0_
                    have HB := n1_
                    clear n0_ n1_
                    refine start_ (n := 17) (S := fun w' => w'.cell? ⟨gb142, 0, none⟩ = some (.int .i64 a0_0) ∧ w'.cell? ⟨gb142, 1, none⟩ = some (.int .i64 a0_1) ∧ w'.cell? ⟨gb142, 2, none⟩ = some (.int .i64 a0_2) ∧ w'.cell? ⟨gb142, 3, none⟩ = some (.int .i64 a0_3) ∧ w'.cell? ⟨gb142, 4, none⟩ = some (.int .i64 a0_4) ∧ w'.cell? ⟨gb142, 5, none⟩ = some (.int .i64 a0_5) ∧ w'.cell? ⟨gb142, 6, none⟩ = some (.int .i64 a0_6) ∧ w'.cell? ⟨gb142, 7, none⟩ = some (.int .i64 a0_7) ∧ w'.cell? ⟨gb142, 8, none⟩ = some (.int .i64 a0_8) ∧ w'.cell? ⟨gb142, 9, none⟩ = some (.int .i64 a0_9) ∧ w'.cell? ⟨gb142, 10, none⟩ = some (.int .i64 a0_10) ∧ w'.cell? ⟨gb142, 11, none⟩ = some (.int .i64 a0_11) ∧ w'.cell? ⟨gb142, 12, none⟩ = some (.int .i64 a0_12) ∧ w'.cell? ⟨gb142, 13, none⟩ = some (.int .i64 a0_13) ∧ w'.cell? ⟨gb142, 14, none⟩ = some (.bool a0_14) ∧ w'.cell? ⟨gb142, 15, none⟩ = some (.bool a0_15)) (ds := []) #[false, false, false, false, false, false, false, false, false, false, false, false, false, false, false, false, false] (by kernel_rfl) rfl rfl ⟨(blk_cell BK142.out 0).trans rfl, (blk_cell BK142.out 1).trans rfl, (blk_cell BK142.out 2).trans rfl, (blk_cell BK142.out 3).trans rfl, (blk_cell BK142.out 4).trans rfl, (blk_cell BK142.out 5).trans rfl, (blk_cell BK142.out 6).trans rfl, (blk_cell BK142.out 7).trans rfl, (blk_cell BK142.out 8).trans rfl, (blk_cell BK142.out 9).trans rfl, (blk_cell BK142.out 10).trans rfl, (blk_cell BK142.out 11).trans rfl, (blk_cell BK142.out 12).trans rfl, (blk_cell BK142.out 13).trans rfl, (blk_cell BK142.out 14).trans rfl, (blk_cell BK142.out 15).trans rfl⟩ (fun hHeld => ?_); refine with_tabW signalmanref15_Check.tab4 signalmanref15_Check.bits4 (fun HT_ HW_ => ?_)
                    generalize wc.drew = w53 at BK142 HB hHeld ⊢
                    refine pure_ (i := 0) (N := some 82) (v := ?_) (a' := ?_) #[true, false, false, false, false, false, false, false, false, false, false, false, false, false, false, false, false] rfl rfl (any_of HT_.out (by kernel_rfl)) (fun _ _ _ h => h) (Or.inl ⟨by rfl, ?_⟩) ?_ ?_
                    rotate_left
                    · intro w'
                      go_simp
                      with_reducible rfl
                    rotate_left
                    · simp only [Act.put, List.setIfInBounds_toArray, List.set_cons_zero, List.set_cons_succ, i64_w, i32_w]
                      rfl
                    refine pure_ (i := 1) (N := some 83) (v := ?_) (a' := ?_) #[true, true, false, false, false, false, false, false, false, false, false, false, false, false, false, false, false] rfl rfl (any_of HT_.out (by kernel_rfl)) (fun _ _ _ h => h) (Or.inl ⟨by rfl, ?_⟩) ?_ ?_
                    rotate_left
                    · intro w'
                      go_simp
                      with_reducible rfl
                    rotate_left
                    · simp only [Act.put, List.setIfInBounds_toArray, List.set_cons_zero, List.set_cons_succ, i64_w, i32_w]
                      rfl
                    refine pure_ (i := 2) (N := some 84) (v := ?_) (a' := ?_) #[true, true, true, false, false, false, false, false, false, false, false, false, false, false, false, false, false] rfl rfl (any_of HT_.out (by kernel_rfl)) (fun _ _ _ h => h) (Or.inl ⟨by rfl, ?_⟩) ?_ ?_
                    rotate_left
                    · intro w'
                      go_simp
                      with_reducible rfl
                    rotate_left
                    · simp only [Act.put, List.setIfInBounds_toArray, List.set_cons_zero, List.set_cons_succ, i64_w, i32_w]
                      rfl
                    refine take_ (i := 3) (N := some 85) (v := ?_) (a' := ?_) #[true, true, true, true, false, false, false, false, false, false, false, false, false, false, false, false, false] rfl rfl (take_ofW HT_.out HW_.out (by kernel_rfl)) (fun _ _ _ h => h) (Or.inl ⟨by rfl, ?_⟩) hHeld ?_ ?_
                    rotate_left
                    · rintro w' ⟨s0, s1, s2, s3, s4, s5, s6, s7, s8, s9, s10, s11, s12, s13, s14, s15⟩
                      go_simp
                      with_reducible rfl
                    rotate_left
                    · simp only [Act.put, List.setIfInBounds_toArray, List.set_cons_zero, List.set_cons_succ, i64_w, i32_w]
                      rfl
                    refine take_ (i := 4) (N := some 86) (v := ?_) (a' := ?_) #[true, true, true, true, true, false, false, false, false, false, false, false, false, false, false, false, false] rfl rfl (take_ofW HT_.out HW_.out (by kernel_rfl)) (fun _ _ _ h => h) (Or.inl ⟨by rfl, ?_⟩) hHeld ?_ ?_
                    rotate_left
                    · rintro w' ⟨s0, s1, s2, s3, s4, s5, s6, s7, s8, s9, s10, s11, s12, s13, s14, s15⟩
                      go_simp
                      with_reducible rfl
                    rotate_left
                    · simp only [Act.put, List.setIfInBounds_toArray, List.set_cons_zero, List.set_cons_succ, i64_w, i32_w]
                      rfl
                    refine one_ (i := 5) (N := some 87) #[true, true, true, true, true, true, false, false, false, false, false, false, false, false, false, false, false] rfl rfl (one_of HT_.out (by kernel_rfl)) (by decide) (fun K hK => ?_)
                    refine goes_ Try.func12 (by kernel_rfl) rfl #[.agg #[.int .i64 a0_0, .int .i64 a0_1, .int .i64 a0_2, .int .i64 a0_3, .int .i64 a0_4, .int .i64 a0_5, .int .i64 a0_6, .int .i64 a0_7, .int .i64 a0_8, .int .i64 a0_9, .int .i64 a0_10, .int .i64 a0_11, .int .i64 a0_12, .int .i64 a0_13, .bool a0_14, .bool a0_15]] (by rfl) rfl rfl (by (try simp only [List.map_toArray, List.map_cons, List.map_nil]); first | done | rfl | (simp only [List.length_drop, List.length_take]; rfl)) ?_
                    with_reducible refine (signalmanref15_Most.calls a0_0 a0_1 a0_2 a0_3 a0_4 a0_5 a0_6 a0_7 a0_8 a0_9 a0_10 a0_11 a0_12 a0_13 a0_14 a0_15 t154 _ A49.out).mono ?_
                    rintro e w54 ⟨rfl, hb⟩
                    refine ⟨_, rfl, ?_⟩
                    have n0_ := Aside0.mk (blk_below (g := gb142) (o := .cells #[.int .i64 a0_0, .int .i64 a0_1, .int .i64 a0_2, .int .i64 a0_3, .int .i64 a0_4, .int .i64 a0_5, .int .i64 a0_6, .int .i64 a0_7, .int .i64 a0_8, .int .i64 a0_9, .int .i64 a0_10, .int .i64 a0_11, .int .i64 a0_12, .int .i64 a0_13, .bool a0_14, .bool a0_15] 23 (0, 0)) (by (with_reducible repeat (first | refine blk_drewN ?_ _ | refine blk_drew ?_ | refine blk_alloc ?_ _)); exact BK142.out) hb)
                    have n1_ := Aside0.mk (below_step (by repeat (first | (with_reducible first | exact HB.out | apply below_alloc | apply pw_below_drewN | apply below_drew1 | refine below_set ?_ GE142.out) | exact HB.out)) hb)
                    clear BK142
                    clear HB
                    have BK142 := n0_
                    have HB := n1_
                    clear n0_ n1_
                    (try clear hb)
                    (try clear hb2)
                    (try clear hk)
                    (try clear hi)
                    refine hK.out _ _ ⟨(blk_cell BK142.out 0).trans rfl, (blk_cell BK142.out 1).trans rfl, (blk_cell BK142.out 2).trans rfl, (blk_cell BK142.out 3).trans rfl, (blk_cell BK142.out 4).trans rfl, (blk_cell BK142.out 5).trans rfl, (blk_cell BK142.out 6).trans rfl, (blk_cell BK142.out 7).trans rfl, (blk_cell BK142.out 8).trans rfl, (blk_cell BK142.out 9).trans rfl, (blk_cell BK142.out 10).trans rfl, (blk_cell BK142.out 11).trans rfl, (blk_cell BK142.out 12).trans rfl, (blk_cell BK142.out 13).trans rfl, (blk_cell BK142.out 14).trans rfl, (blk_cell BK142.out 15).trans rfl⟩ (fun hHeld => ?_)
                    clear hK K
                    refine norm_ (a' := ?_) ?_ ?_
                    rotate_left
                    · show Act.put _ (some 87) _ = _
                      simp only [Act.put, List.setIfInBounds_toArray, List.set_cons_zero, List.set_cons_succ, i64_w, i32_w]
                      rfl
                    refine one_ (i := 6) (N := some 88) #[true, true, true, true, true, true, true, false, false, false, false, false, false, false, false, false, false] rfl rfl (one_of HT_.out (by kernel_rfl)) (by decide) (fun K hK => ?_)
                    refine goes_ Try.func22 (by kernel_rfl) rfl #[.int .i64 a0_10, .int .i64 t154, .int .i64 1048576] (by rfl) rfl rfl (by (try simp only [List.map_toArray, List.map_cons, List.map_nil]); first | done | rfl | (simp only [List.length_drop, List.length_take]; rfl)) ?_
                    with_reducible refine (signalmanref15_within.calls a0_10 t154 1048576 true _ A50.out).mono ?_
                    rintro e w' ⟨rfl, ⟨nd, rfl⟩⟩
                    refine ⟨_, rfl, ?_⟩
                    refine hK.out _ _ ⟨(blk_cell BK142.out 0).trans rfl, (blk_cell BK142.out 1).trans rfl, (blk_cell BK142.out 2).trans rfl, (blk_cell BK142.out 3).trans rfl, (blk_cell BK142.out 4).trans rfl, (blk_cell BK142.out 5).trans rfl, (blk_cell BK142.out 6).trans rfl, (blk_cell BK142.out 7).trans rfl, (blk_cell BK142.out 8).trans rfl, (blk_cell BK142.out 9).trans rfl, (blk_cell BK142.out 10).trans rfl, (blk_cell BK142.out 11).trans rfl, (blk_cell BK142.out 12).trans rfl, (blk_cell BK142.out 13).trans rfl, (blk_cell BK142.out 14).trans rfl, (blk_cell BK142.out 15).trans rfl⟩ (fun hHeld => ?_)
                    clear hK K
                    refine norm_ (a' := ?_) ?_ ?_
                    rotate_left
                    · show Act.put _ (some 88) _ = _
                      simp only [Act.put, List.setIfInBounds_toArray, List.set_cons_zero, List.set_cons_succ, i64_w, i32_w]
                      rfl
                    refine pure_ (i := 7) (N := some 89) (v := ?_) (a' := ?_) #[true, true, true, true, true, true, true, true, false, false, false, false, false, false, false, false, false] rfl rfl (any_of HT_.out (by kernel_rfl)) (fun _ _ _ h => h) (Or.inl ⟨by rfl, ?_⟩) ?_ ?_
                    rotate_left
                    · intro w'
                      go_simp
                      with_reducible rfl
                    rotate_left
                    · simp only [Act.put, List.setIfInBounds_toArray, List.set_cons_zero, List.set_cons_succ, i64_w, i32_w]
                      rfl
                    refine pure_ (i := 8) (N := some 90) (v := ?_) (a' := ?_) #[true, true, true, true, true, true, true, true, true, false, false, false, false, false, false, false, false] rfl rfl (any_of HT_.out (by kernel_rfl)) (fun _ _ _ h => h) (Or.inl ⟨by rfl, ?_⟩) ?_ ?_
                    rotate_left
                    · intro w'
                      go_simp
                      with_reducible rfl
                    rotate_left
                    · simp only [Act.put, List.setIfInBounds_toArray, List.set_cons_zero, List.set_cons_succ, i64_w, i32_w]
                      rfl
                    refine pure_ (i := 9) (N := some 91) (v := ?_) (a' := ?_) #[true, true, true, true, true, true, true, true, true, true, false, false, false, false, false, false, false] rfl rfl (any_of HT_.out (by kernel_rfl)) (fun _ _ _ h => h) (Or.inl ⟨by rfl, ?_⟩) ?_ ?_
                    rotate_left
                    · intro w'
                      go_simp
                      with_reducible rfl
                    rotate_left
                    · simp only [Act.put, List.setIfInBounds_toArray, List.set_cons_zero, List.set_cons_succ, i64_w, i32_w]
                      rfl
                    refine pure_ (i := 11) (N := some 93) (v := ?_) (a' := ?_) #[true, true, true, true, true, true, true, true, true, true, false, true, false, false, false, false, false] rfl rfl (any_of HT_.out (by kernel_rfl)) (fun _ _ _ h => h) (Or.inl ⟨by rfl, ?_⟩) ?_ ?_
                    rotate_left
                    · intro w'
                      go_simp
                      with_reducible rfl
                    rotate_left
                    · simp only [Act.put, List.setIfInBounds_toArray, List.set_cons_zero, List.set_cons_succ, i64_w, i32_w]
                      rfl
                    refine take_ (i := 10) (N := some 92) (v := ?_) (a' := ?_) #[true, true, true, true, true, true, true, true, true, true, true, true, false, false, false, false, false] rfl rfl (take_ofW HT_.out HW_.out (by kernel_rfl)) (fun _ _ _ h => h) (Or.inl ⟨by rfl, ?_⟩) hHeld ?_ ?_
                    rotate_left
                    · rintro w' ⟨s0, s1, s2, s3, s4, s5, s6, s7, s8, s9, s10, s11, s12, s13, s14, s15⟩
                      go_simp
                      with_reducible rfl
                    rotate_left
                    · simp only [Act.put, List.setIfInBounds_toArray, List.set_cons_zero, List.set_cons_succ, i64_w, i32_w]
                      rfl
                    refine take_ (i := 12) (N := some 94) (v := ?_) (a' := ?_) #[true, true, true, true, true, true, true, true, true, true, true, true, true, false, false, false, false] rfl rfl (take_ofW HT_.out HW_.out (by kernel_rfl)) (fun _ _ _ h => h) (Or.inl ⟨by rfl, ?_⟩) hHeld ?_ ?_
                    rotate_left
                    · rintro w' ⟨s0, s1, s2, s3, s4, s5, s6, s7, s8, s9, s10, s11, s12, s13, s14, s15⟩
                      go_simp
                      with_reducible rfl
                    rotate_left
                    · simp only [Act.put, List.setIfInBounds_toArray, List.set_cons_zero, List.set_cons_succ, i64_w, i32_w]
                      rfl
                    refine pure_ (i := 13) (N := some 95) (v := ?_) (a' := ?_) #[true, true, true, true, true, true, true, true, true, true, true, true, true, true, false, false, false] rfl rfl (any_of HT_.out (by kernel_rfl)) (fun _ _ _ h => h) (Or.inl ⟨by rfl, ?_⟩) ?_ ?_
                    rotate_left
                    · intro w'
                      go_simp
                      with_reducible rfl
                    rotate_left
                    · simp only [Act.put, List.setIfInBounds_toArray, List.set_cons_zero, List.set_cons_succ, i64_w, i32_w]
                      rfl
                    refine pure_ (i := 14) (N := some 96) (v := ?_) (a' := ?_) #[true, true, true, true, true, true, true, true, true, true, true, true, true, true, true, false, false] rfl rfl (any_of HT_.out (by kernel_rfl)) (fun _ _ _ h => h) (Or.inl ⟨by rfl, ?_⟩) ?_ ?_
                    rotate_left
                    · intro w'
                      go_simp
                      with_reducible rfl
                    rotate_left
                    · simp only [Act.put, List.setIfInBounds_toArray, List.set_cons_zero, List.set_cons_succ, i64_w, i32_w]
                      rfl
                    refine pure_ (i := 15) (N := some 97) (v := ?_) (a' := ?_) #[true, true, true, true, true, true, true, true, true, true, true, true, true, true, true, true, false] rfl rfl (any_of HT_.out (by kernel_rfl)) (fun _ _ _ h => h) (Or.inl ⟨by rfl, ?_⟩) ?_ ?_
                    rotate_left
                    · intro w'
                      go_simp
                      with_reducible rfl
                    rotate_left
                    · simp only [Act.put, List.setIfInBounds_toArray, List.set_cons_zero, List.set_cons_succ, i64_w, i32_w]
                      rfl
                    refine pure_ (i := 16) (N := some 3) (v := ?_) (a' := ?_) #[true, true, true, true, true, true, true, true, true, true, true, true, true, true, true, true, true] rfl rfl (any_of HT_.out (by kernel_rfl)) (fun _ _ _ h => h) (Or.inl ⟨by rfl, ?_⟩) ?_ ?_
                    rotate_left
                    · intro w'
                      go_simp
                      with_reducible rfl
                    rotate_left
                    · simp only [Act.put, List.setIfInBounds_toArray, List.set_cons_zero, List.set_cons_succ, i64_w, i32_w]
                      rfl
                    refine done_ (done_of HT_.out (by kernel_rfl)) ?_
                    try go_wp2
                    go_ret
                    exact ⟨by first | rfl | (simp [errW_none, errW_some] <;> rfl) | (simp [*, errW_none, errW_some] <;> rfl), by repeat (first | (with_reducible first | exact HB.out | apply below_alloc | apply pw_below_drewN | apply below_drew1 | refine below_set ?_ GE142.out) | exact HB.out)⟩
                  · rw [if_neg c52] at H
                    have c52b0 : decide (32 ≤ (wrap64 (a0_7 * a0_11))) = false := decide_eq_false c52
                    clear c52
                    obtain rfl := Option.some.inj H
                    try go_wp2
                    have n0_ := Aside0.mk (blk_drew BK142.out)
                    have n1_ := Aside0.mk (below_drew1 HB.out)
                    clear BK142
                    clear HB
                    have BK142 := n0_
                    have HB := n1_
                    clear n0_ n1_
                    refine start_ (n := 17) (S := fun w' => w'.cell? ⟨gb142, 0, none⟩ = some (.int .i64 a0_0) ∧ w'.cell? ⟨gb142, 1, none⟩ = some (.int .i64 a0_1) ∧ w'.cell? ⟨gb142, 2, none⟩ = some (.int .i64 a0_2) ∧ w'.cell? ⟨gb142, 3, none⟩ = some (.int .i64 a0_3) ∧ w'.cell? ⟨gb142, 4, none⟩ = some (.int .i64 a0_4) ∧ w'.cell? ⟨gb142, 5, none⟩ = some (.int .i64 a0_5) ∧ w'.cell? ⟨gb142, 6, none⟩ = some (.int .i64 a0_6) ∧ w'.cell? ⟨gb142, 7, none⟩ = some (.int .i64 a0_7) ∧ w'.cell? ⟨gb142, 8, none⟩ = some (.int .i64 a0_8) ∧ w'.cell? ⟨gb142, 9, none⟩ = some (.int .i64 a0_9) ∧ w'.cell? ⟨gb142, 10, none⟩ = some (.int .i64 a0_10) ∧ w'.cell? ⟨gb142, 11, none⟩ = some (.int .i64 a0_11) ∧ w'.cell? ⟨gb142, 12, none⟩ = some (.int .i64 a0_12) ∧ w'.cell? ⟨gb142, 13, none⟩ = some (.int .i64 a0_13) ∧ w'.cell? ⟨gb142, 14, none⟩ = some (.bool a0_14) ∧ w'.cell? ⟨gb142, 15, none⟩ = some (.bool a0_15)) (ds := []) #[false, false, false, false, false, false, false, false, false, false, false, false, false, false, false, false, false] (by kernel_rfl) rfl rfl ⟨(blk_cell BK142.out 0).trans rfl, (blk_cell BK142.out 1).trans rfl, (blk_cell BK142.out 2).trans rfl, (blk_cell BK142.out 3).trans rfl, (blk_cell BK142.out 4).trans rfl, (blk_cell BK142.out 5).trans rfl, (blk_cell BK142.out 6).trans rfl, (blk_cell BK142.out 7).trans rfl, (blk_cell BK142.out 8).trans rfl, (blk_cell BK142.out 9).trans rfl, (blk_cell BK142.out 10).trans rfl, (blk_cell BK142.out 11).trans rfl, (blk_cell BK142.out 12).trans rfl, (blk_cell BK142.out 13).trans rfl, (blk_cell BK142.out 14).trans rfl, (blk_cell BK142.out 15).trans rfl⟩ (fun hHeld => ?_); refine with_tabW signalmanref15_Check.tab4 signalmanref15_Check.bits4 (fun HT_ HW_ => ?_)
                    generalize wc.drew = w55 at BK142 HB hHeld ⊢
                    refine pure_ (i := 0) (N := some 82) (v := ?_) (a' := ?_) #[true, false, false, false, false, false, false, false, false, false, false, false, false, false, false, false, false] rfl rfl (any_of HT_.out (by kernel_rfl)) (fun _ _ _ h => h) (Or.inl ⟨by rfl, ?_⟩) ?_ ?_
                    rotate_left
                    · intro w'
                      go_simp
                      with_reducible rfl
                    rotate_left
                    · simp only [Act.put, List.setIfInBounds_toArray, List.set_cons_zero, List.set_cons_succ, i64_w, i32_w]
                      rfl
                    refine pure_ (i := 1) (N := some 83) (v := ?_) (a' := ?_) #[true, true, false, false, false, false, false, false, false, false, false, false, false, false, false, false, false] rfl rfl (any_of HT_.out (by kernel_rfl)) (fun _ _ _ h => h) (Or.inl ⟨by rfl, ?_⟩) ?_ ?_
                    rotate_left
                    · intro w'
                      go_simp
                      with_reducible rfl
                    rotate_left
                    · simp only [Act.put, List.setIfInBounds_toArray, List.set_cons_zero, List.set_cons_succ, i64_w, i32_w]
                      rfl
                    refine pure_ (i := 2) (N := some 84) (v := ?_) (a' := ?_) #[true, true, true, false, false, false, false, false, false, false, false, false, false, false, false, false, false] rfl rfl (any_of HT_.out (by kernel_rfl)) (fun _ _ _ h => h) (Or.inl ⟨by rfl, ?_⟩) ?_ ?_
                    rotate_left
                    · intro w'
                      go_simp
                      with_reducible rfl
                    rotate_left
                    · simp only [Act.put, List.setIfInBounds_toArray, List.set_cons_zero, List.set_cons_succ, i64_w, i32_w]
                      rfl
                    refine take_ (i := 3) (N := some 85) (v := ?_) (a' := ?_) #[true, true, true, true, false, false, false, false, false, false, false, false, false, false, false, false, false] rfl rfl (take_ofW HT_.out HW_.out (by kernel_rfl)) (fun _ _ _ h => h) (Or.inl ⟨by rfl, ?_⟩) hHeld ?_ ?_
                    rotate_left
                    · rintro w' ⟨s0, s1, s2, s3, s4, s5, s6, s7, s8, s9, s10, s11, s12, s13, s14, s15⟩
                      go_simp
                      with_reducible rfl
                    rotate_left
                    · simp only [Act.put, List.setIfInBounds_toArray, List.set_cons_zero, List.set_cons_succ, i64_w, i32_w]
                      rfl
                    refine take_ (i := 4) (N := some 86) (v := ?_) (a' := ?_) #[true, true, true, true, true, false, false, false, false, false, false, false, false, false, false, false, false] rfl rfl (take_ofW HT_.out HW_.out (by kernel_rfl)) (fun _ _ _ h => h) (Or.inl ⟨by rfl, ?_⟩) hHeld ?_ ?_
                    rotate_left
                    · rintro w' ⟨s0, s1, s2, s3, s4, s5, s6, s7, s8, s9, s10, s11, s12, s13, s14, s15⟩
                      go_simp
                      with_reducible rfl
                    rotate_left
                    · simp only [Act.put, List.setIfInBounds_toArray, List.set_cons_zero, List.set_cons_succ, i64_w, i32_w]
                      rfl
                    refine one_ (i := 5) (N := some 87) #[true, true, true, true, true, true, false, false, false, false, false, false, false, false, false, false, false] rfl rfl (one_of HT_.out (by kernel_rfl)) (by decide) (fun K hK => ?_)
                    refine goes_ Try.func12 (by kernel_rfl) rfl #[.agg #[.int .i64 a0_0, .int .i64 a0_1, .int .i64 a0_2, .int .i64 a0_3, .int .i64 a0_4, .int .i64 a0_5, .int .i64 a0_6, .int .i64 a0_7, .int .i64 a0_8, .int .i64 a0_9, .int .i64 a0_10, .int .i64 a0_11, .int .i64 a0_12, .int .i64 a0_13, .bool a0_14, .bool a0_15]] (by rfl) rfl rfl (by (try simp only [List.map_toArray, List.map_cons, List.map_nil]); first | done | rfl | (simp only [List.length_drop, List.length_take]; rfl)) ?_
                    with_reducible refine (signalmanref15_Most.calls a0_0 a0_1 a0_2 a0_3 a0_4 a0_5 a0_6 a0_7 a0_8 a0_9 a0_10 a0_11 a0_12 a0_13 a0_14 a0_15 t154 _ A49.out).mono ?_
                    rintro e w56 ⟨rfl, hb⟩
                    refine ⟨_, rfl, ?_⟩
                    have n0_ := Aside0.mk (blk_below (g := gb142) (o := .cells #[.int .i64 a0_0, .int .i64 a0_1, .int .i64 a0_2, .int .i64 a0_3, .int .i64 a0_4, .int .i64 a0_5, .int .i64 a0_6, .int .i64 a0_7, .int .i64 a0_8, .int .i64 a0_9, .int .i64 a0_10, .int .i64 a0_11, .int .i64 a0_12, .int .i64 a0_13, .bool a0_14, .bool a0_15] 23 (0, 0)) (by (with_reducible repeat (first | refine blk_drewN ?_ _ | refine blk_drew ?_ | refine blk_alloc ?_ _)); exact BK142.out) hb)
                    have n1_ := Aside0.mk (below_step (by repeat (first | (with_reducible first | exact HB.out | apply below_alloc | apply pw_below_drewN | apply below_drew1 | refine below_set ?_ GE142.out) | exact HB.out)) hb)
                    clear BK142
                    clear HB
                    have BK142 := n0_
                    have HB := n1_
                    clear n0_ n1_
                    (try clear hb)
                    (try clear hb2)
                    (try clear hk)
                    (try clear hi)
                    refine hK.out _ _ ⟨(blk_cell BK142.out 0).trans rfl, (blk_cell BK142.out 1).trans rfl, (blk_cell BK142.out 2).trans rfl, (blk_cell BK142.out 3).trans rfl, (blk_cell BK142.out 4).trans rfl, (blk_cell BK142.out 5).trans rfl, (blk_cell BK142.out 6).trans rfl, (blk_cell BK142.out 7).trans rfl, (blk_cell BK142.out 8).trans rfl, (blk_cell BK142.out 9).trans rfl, (blk_cell BK142.out 10).trans rfl, (blk_cell BK142.out 11).trans rfl, (blk_cell BK142.out 12).trans rfl, (blk_cell BK142.out 13).trans rfl, (blk_cell BK142.out 14).trans rfl, (blk_cell BK142.out 15).trans rfl⟩ (fun hHeld => ?_)
                    clear hK K
                    refine norm_ (a' := ?_) ?_ ?_
                    rotate_left
                    · show Act.put _ (some 87) _ = _
                      simp only [Act.put, List.setIfInBounds_toArray, List.set_cons_zero, List.set_cons_succ, i64_w, i32_w]
                      rfl
                    refine one_ (i := 6) (N := some 88) #[true, true, true, true, true, true, true, false, false, false, false, false, false, false, false, false, false] rfl rfl (one_of HT_.out (by kernel_rfl)) (by decide) (fun K hK => ?_)
                    refine goes_ Try.func22 (by kernel_rfl) rfl #[.int .i64 a0_10, .int .i64 t154, .int .i64 1048576] (by rfl) rfl rfl (by (try simp only [List.map_toArray, List.map_cons, List.map_nil]); first | done | rfl | (simp only [List.length_drop, List.length_take]; rfl)) ?_
                    with_reducible refine (signalmanref15_within.calls a0_10 t154 1048576 true _ A50.out).mono ?_
                    rintro e w' ⟨rfl, ⟨nd, rfl⟩⟩
                    refine ⟨_, rfl, ?_⟩
                    refine hK.out _ _ ⟨(blk_cell BK142.out 0).trans rfl, (blk_cell BK142.out 1).trans rfl, (blk_cell BK142.out 2).trans rfl, (blk_cell BK142.out 3).trans rfl, (blk_cell BK142.out 4).trans rfl, (blk_cell BK142.out 5).trans rfl, (blk_cell BK142.out 6).trans rfl, (blk_cell BK142.out 7).trans rfl, (blk_cell BK142.out 8).trans rfl, (blk_cell BK142.out 9).trans rfl, (blk_cell BK142.out 10).trans rfl, (blk_cell BK142.out 11).trans rfl, (blk_cell BK142.out 12).trans rfl, (blk_cell BK142.out 13).trans rfl, (blk_cell BK142.out 14).trans rfl, (blk_cell BK142.out 15).trans rfl⟩ (fun hHeld => ?_)
                    clear hK K
                    refine norm_ (a' := ?_) ?_ ?_
                    rotate_left
                    · show Act.put _ (some 88) _ = _
                      simp only [Act.put, List.setIfInBounds_toArray, List.set_cons_zero, List.set_cons_succ, i64_w, i32_w]
                      rfl
                    refine pure_ (i := 7) (N := some 89) (v := ?_) (a' := ?_) #[true, true, true, true, true, true, true, true, false, false, false, false, false, false, false, false, false] rfl rfl (any_of HT_.out (by kernel_rfl)) (fun _ _ _ h => h) (Or.inl ⟨by rfl, ?_⟩) ?_ ?_
                    rotate_left
                    · intro w'
                      go_simp
                      with_reducible rfl
                    rotate_left
                    · simp only [Act.put, List.setIfInBounds_toArray, List.set_cons_zero, List.set_cons_succ, i64_w, i32_w]
                      rfl
                    refine pure_ (i := 8) (N := some 90) (v := ?_) (a' := ?_) #[true, true, true, true, true, true, true, true, true, false, false, false, false, false, false, false, false] rfl rfl (any_of HT_.out (by kernel_rfl)) (fun _ _ _ h => h) (Or.inl ⟨by rfl, ?_⟩) ?_ ?_
                    rotate_left
                    · intro w'
                      go_simp
                      with_reducible rfl
                    rotate_left
                    · simp only [Act.put, List.setIfInBounds_toArray, List.set_cons_zero, List.set_cons_succ, i64_w, i32_w]
                      rfl
                    refine pure_ (i := 9) (N := some 91) (v := ?_) (a' := ?_) #[true, true, true, true, true, true, true, true, true, true, false, false, false, false, false, false, false] rfl rfl (any_of HT_.out (by kernel_rfl)) (fun _ _ _ h => h) (Or.inl ⟨by rfl, ?_⟩) ?_ ?_
                    rotate_left
                    · intro w'
                      go_simp
                      with_reducible rfl
                    rotate_left
                    · simp only [Act.put, List.setIfInBounds_toArray, List.set_cons_zero, List.set_cons_succ, i64_w, i32_w]
                      rfl
                    refine pure_ (i := 11) (N := some 93) (v := ?_) (a' := ?_) #[true, true, true, true, true, true, true, true, true, true, false, true, false, false, false, false, false] rfl rfl (any_of HT_.out (by kernel_rfl)) (fun _ _ _ h => h) (Or.inl ⟨by rfl, ?_⟩) ?_ ?_
                    rotate_left
                    · intro w'
                      go_simp
                      with_reducible rfl
                    rotate_left
                    · simp only [Act.put, List.setIfInBounds_toArray, List.set_cons_zero, List.set_cons_succ, i64_w, i32_w]
                      rfl
                    refine take_ (i := 10) (N := some 92) (v := ?_) (a' := ?_) #[true, true, true, true, true, true, true, true, true, true, true, true, false, false, false, false, false] rfl rfl (take_ofW HT_.out HW_.out (by kernel_rfl)) (fun _ _ _ h => h) (Or.inl ⟨by rfl, ?_⟩) hHeld ?_ ?_
                    rotate_left
                    · rintro w' ⟨s0, s1, s2, s3, s4, s5, s6, s7, s8, s9, s10, s11, s12, s13, s14, s15⟩
                      go_simp
                      with_reducible rfl
                    rotate_left
                    · simp only [Act.put, List.setIfInBounds_toArray, List.set_cons_zero, List.set_cons_succ, i64_w, i32_w]
                      rfl
                    refine take_ (i := 12) (N := some 94) (v := ?_) (a' := ?_) #[true, true, true, true, true, true, true, true, true, true, true, true, true, false, false, false, false] rfl rfl (take_ofW HT_.out HW_.out (by kernel_rfl)) (fun _ _ _ h => h) (Or.inl ⟨by rfl, ?_⟩) hHeld ?_ ?_
                    rotate_left
                    · rintro w' ⟨s0, s1, s2, s3, s4, s5, s6, s7, s8, s9, s10, s11, s12, s13, s14, s15⟩
                      go_simp
                      with_reducible rfl
                    rotate_left
                    · simp only [Act.put, List.setIfInBounds_toArray, List.set_cons_zero, List.set_cons_succ, i64_w, i32_w]
                      rfl
                    refine pure_ (i := 13) (N := some 95) (v := ?_) (a' := ?_) #[true, true, true, true, true, true, true, true, true, true, true, true, true, true, false, false, false] rfl rfl (any_of HT_.out (by kernel_rfl)) (fun _ _ _ h => h) (Or.inl ⟨by rfl, ?_⟩) ?_ ?_
                    rotate_left
                    · intro w'
                      go_simp
                      with_reducible rfl
                    rotate_left
                    · simp only [Act.put, List.setIfInBounds_toArray, List.set_cons_zero, List.set_cons_succ, i64_w, i32_w]
                      rfl
                    refine pure_ (i := 14) (N := some 96) (v := ?_) (a' := ?_) #[true, true, true, true, true, true, true, true, true, true, true, true, true, true, true, false, false] rfl rfl (any_of HT_.out (by kernel_rfl)) (fun _ _ _ h => h) (Or.inl ⟨by rfl, ?_⟩) ?_ ?_
                    rotate_left
                    · intro w'
                      go_simp
                      with_reducible rfl
                    rotate_left
                    · simp only [Act.put, List.setIfInBounds_toArray, List.set_cons_zero, List.set_cons_succ, i64_w, i32_w]
                      rfl
                    refine pure_ (i := 15) (N := some 97) (v := ?_) (a' := ?_) #[true, true, true, true, true, true, true, true, true, true, true, true, true, true, true, true, false] rfl rfl (any_of HT_.out (by kernel_rfl)) (fun _ _ _ h => h) (Or.inl ⟨by rfl, ?_⟩) ?_ ?_
                    rotate_left
                    · intro w'
                      go_simp
                      with_reducible rfl
                    rotate_left
                    · simp only [Act.put, List.setIfInBounds_toArray, List.set_cons_zero, List.set_cons_succ, i64_w, i32_w]
                      rfl
                    refine pure_ (i := 16) (N := some 3) (v := ?_) (a' := ?_) #[true, true, true, true, true, true, true, true, true, true, true, true, true, true, true, true, true] rfl rfl (any_of HT_.out (by kernel_rfl)) (fun _ _ _ h => h) (Or.inl ⟨by rfl, ?_⟩) ?_ ?_
                    rotate_left
                    · intro w'
                      go_simp
                      with_reducible rfl
                    rotate_left
                    · simp only [Act.put, List.setIfInBounds_toArray, List.set_cons_zero, List.set_cons_succ, i64_w, i32_w]
                      rfl
                    refine done_ (done_of HT_.out (by kernel_rfl)) ?_
                    try go_wp2
                    go_ret
                    exact ⟨by first | rfl | (simp [errW_none, errW_some] <;> rfl) | (simp [*, errW_none, errW_some] <;> rfl), by repeat (first | (with_reducible first | exact HB.out | apply below_alloc | apply pw_below_drewN | apply below_drew1 | refine below_set ?_ GE142.out) | exact HB.out)⟩
                · replace c51 := Bool.eq_false_iff.mpr c51
                  subst c51
                  have H1 : (some 1) = some r := by rw [if_neg (show ¬ (false = true) by decide)] at H; exact H
                  clear H
                  have H := H1
                  clear H1
                  obtain rfl := Option.some.inj H
                  try go_wp2
                  have n0_ := Aside0.mk (blk_drew BK142.out)
                  have n1_ := Aside0.mk (below_drew1 HB.out)
                  clear BK142
                  clear HB
                  have BK142 := n0_
                  have HB := n1_
                  clear n0_ n1_
                  refine start_ (n := 17) (S := fun w' => w'.cell? ⟨gb142, 0, none⟩ = some (.int .i64 a0_0) ∧ w'.cell? ⟨gb142, 1, none⟩ = some (.int .i64 a0_1) ∧ w'.cell? ⟨gb142, 2, none⟩ = some (.int .i64 a0_2) ∧ w'.cell? ⟨gb142, 3, none⟩ = some (.int .i64 a0_3) ∧ w'.cell? ⟨gb142, 4, none⟩ = some (.int .i64 a0_4) ∧ w'.cell? ⟨gb142, 5, none⟩ = some (.int .i64 a0_5) ∧ w'.cell? ⟨gb142, 6, none⟩ = some (.int .i64 a0_6) ∧ w'.cell? ⟨gb142, 7, none⟩ = some (.int .i64 a0_7) ∧ w'.cell? ⟨gb142, 8, none⟩ = some (.int .i64 a0_8) ∧ w'.cell? ⟨gb142, 9, none⟩ = some (.int .i64 a0_9) ∧ w'.cell? ⟨gb142, 10, none⟩ = some (.int .i64 a0_10) ∧ w'.cell? ⟨gb142, 11, none⟩ = some (.int .i64 a0_11) ∧ w'.cell? ⟨gb142, 12, none⟩ = some (.int .i64 a0_12) ∧ w'.cell? ⟨gb142, 13, none⟩ = some (.int .i64 a0_13) ∧ w'.cell? ⟨gb142, 14, none⟩ = some (.bool a0_14) ∧ w'.cell? ⟨gb142, 15, none⟩ = some (.bool a0_15)) (ds := []) #[false, false, false, false, false, false, false, false, false, false, false, false, false, false, false, false, false] (by kernel_rfl) rfl rfl ⟨(blk_cell BK142.out 0).trans rfl, (blk_cell BK142.out 1).trans rfl, (blk_cell BK142.out 2).trans rfl, (blk_cell BK142.out 3).trans rfl, (blk_cell BK142.out 4).trans rfl, (blk_cell BK142.out 5).trans rfl, (blk_cell BK142.out 6).trans rfl, (blk_cell BK142.out 7).trans rfl, (blk_cell BK142.out 8).trans rfl, (blk_cell BK142.out 9).trans rfl, (blk_cell BK142.out 10).trans rfl, (blk_cell BK142.out 11).trans rfl, (blk_cell BK142.out 12).trans rfl, (blk_cell BK142.out 13).trans rfl, (blk_cell BK142.out 14).trans rfl, (blk_cell BK142.out 15).trans rfl⟩ (fun hHeld => ?_); refine with_tabW signalmanref15_Check.tab4 signalmanref15_Check.bits4 (fun HT_ HW_ => ?_)
                  generalize wc.drew = w57 at BK142 HB hHeld ⊢
                  refine pure_ (i := 0) (N := some 82) (v := ?_) (a' := ?_) #[true, false, false, false, false, false, false, false, false, false, false, false, false, false, false, false, false] rfl rfl (any_of HT_.out (by kernel_rfl)) (fun _ _ _ h => h) (Or.inl ⟨by rfl, ?_⟩) ?_ ?_
                  rotate_left
                  · intro w'
                    go_simp
                    with_reducible rfl
                  rotate_left
                  · simp only [Act.put, List.setIfInBounds_toArray, List.set_cons_zero, List.set_cons_succ, i64_w, i32_w]
                    rfl
                  refine pure_ (i := 1) (N := some 83) (v := ?_) (a' := ?_) #[true, true, false, false, false, false, false, false, false, false, false, false, false, false, false, false, false] rfl rfl (any_of HT_.out (by kernel_rfl)) (fun _ _ _ h => h) (Or.inl ⟨by rfl, ?_⟩) ?_ ?_
                  rotate_left
                  · intro w'
                    go_simp
                    with_reducible rfl
                  rotate_left
                  · simp only [Act.put, List.setIfInBounds_toArray, List.set_cons_zero, List.set_cons_succ, i64_w, i32_w]
                    rfl
                  refine pure_ (i := 2) (N := some 84) (v := ?_) (a' := ?_) #[true, true, true, false, false, false, false, false, false, false, false, false, false, false, false, false, false] rfl rfl (any_of HT_.out (by kernel_rfl)) (fun _ _ _ h => h) (Or.inl ⟨by rfl, ?_⟩) ?_ ?_
                  rotate_left
                  · intro w'
                    go_simp
                    with_reducible rfl
                  rotate_left
                  · simp only [Act.put, List.setIfInBounds_toArray, List.set_cons_zero, List.set_cons_succ, i64_w, i32_w]
                    rfl
                  refine take_ (i := 3) (N := some 85) (v := ?_) (a' := ?_) #[true, true, true, true, false, false, false, false, false, false, false, false, false, false, false, false, false] rfl rfl (take_ofW HT_.out HW_.out (by kernel_rfl)) (fun _ _ _ h => h) (Or.inl ⟨by rfl, ?_⟩) hHeld ?_ ?_
                  rotate_left
                  · rintro w' ⟨s0, s1, s2, s3, s4, s5, s6, s7, s8, s9, s10, s11, s12, s13, s14, s15⟩
                    go_simp
                    with_reducible rfl
                  rotate_left
                  · simp only [Act.put, List.setIfInBounds_toArray, List.set_cons_zero, List.set_cons_succ, i64_w, i32_w]
                    rfl
                  refine take_ (i := 4) (N := some 86) (v := ?_) (a' := ?_) #[true, true, true, true, true, false, false, false, false, false, false, false, false, false, false, false, false] rfl rfl (take_ofW HT_.out HW_.out (by kernel_rfl)) (fun _ _ _ h => h) (Or.inl ⟨by rfl, ?_⟩) hHeld ?_ ?_
                  rotate_left
                  · rintro w' ⟨s0, s1, s2, s3, s4, s5, s6, s7, s8, s9, s10, s11, s12, s13, s14, s15⟩
                    go_simp
                    with_reducible rfl
                  rotate_left
                  · simp only [Act.put, List.setIfInBounds_toArray, List.set_cons_zero, List.set_cons_succ, i64_w, i32_w]
                    rfl
                  refine one_ (i := 5) (N := some 87) #[true, true, true, true, true, true, false, false, false, false, false, false, false, false, false, false, false] rfl rfl (one_of HT_.out (by kernel_rfl)) (by decide) (fun K hK => ?_)
                  refine goes_ Try.func12 (by kernel_rfl) rfl #[.agg #[.int .i64 a0_0, .int .i64 a0_1, .int .i64 a0_2, .int .i64 a0_3, .int .i64 a0_4, .int .i64 a0_5, .int .i64 a0_6, .int .i64 a0_7, .int .i64 a0_8, .int .i64 a0_9, .int .i64 a0_10, .int .i64 a0_11, .int .i64 a0_12, .int .i64 a0_13, .bool a0_14, .bool a0_15]] (by rfl) rfl rfl (by (try simp only [List.map_toArray, List.map_cons, List.map_nil]); first | done | rfl | (simp only [List.length_drop, List.length_take]; rfl)) ?_
                  with_reducible refine (signalmanref15_Most.calls a0_0 a0_1 a0_2 a0_3 a0_4 a0_5 a0_6 a0_7 a0_8 a0_9 a0_10 a0_11 a0_12 a0_13 a0_14 a0_15 t154 _ A49.out).mono ?_
                  rintro e w58 ⟨rfl, hb⟩
                  refine ⟨_, rfl, ?_⟩
                  have n0_ := Aside0.mk (blk_below (g := gb142) (o := .cells #[.int .i64 a0_0, .int .i64 a0_1, .int .i64 a0_2, .int .i64 a0_3, .int .i64 a0_4, .int .i64 a0_5, .int .i64 a0_6, .int .i64 a0_7, .int .i64 a0_8, .int .i64 a0_9, .int .i64 a0_10, .int .i64 a0_11, .int .i64 a0_12, .int .i64 a0_13, .bool a0_14, .bool a0_15] 23 (0, 0)) (by (with_reducible repeat (first | refine blk_drewN ?_ _ | refine blk_drew ?_ | refine blk_alloc ?_ _)); exact BK142.out) hb)
                  have n1_ := Aside0.mk (below_step (by repeat (first | (with_reducible first | exact HB.out | apply below_alloc | apply pw_below_drewN | apply below_drew1 | refine below_set ?_ GE142.out) | exact HB.out)) hb)
                  clear BK142
                  clear HB
                  have BK142 := n0_
                  have HB := n1_
                  clear n0_ n1_
                  (try clear hb)
                  (try clear hb2)
                  (try clear hk)
                  (try clear hi)
                  refine hK.out _ _ ⟨(blk_cell BK142.out 0).trans rfl, (blk_cell BK142.out 1).trans rfl, (blk_cell BK142.out 2).trans rfl, (blk_cell BK142.out 3).trans rfl, (blk_cell BK142.out 4).trans rfl, (blk_cell BK142.out 5).trans rfl, (blk_cell BK142.out 6).trans rfl, (blk_cell BK142.out 7).trans rfl, (blk_cell BK142.out 8).trans rfl, (blk_cell BK142.out 9).trans rfl, (blk_cell BK142.out 10).trans rfl, (blk_cell BK142.out 11).trans rfl, (blk_cell BK142.out 12).trans rfl, (blk_cell BK142.out 13).trans rfl, (blk_cell BK142.out 14).trans rfl, (blk_cell BK142.out 15).trans rfl⟩ (fun hHeld => ?_)
                  clear hK K
                  refine norm_ (a' := ?_) ?_ ?_
                  rotate_left
                  · show Act.put _ (some 87) _ = _
                    simp only [Act.put, List.setIfInBounds_toArray, List.set_cons_zero, List.set_cons_succ, i64_w, i32_w]
                    rfl
                  refine one_ (i := 6) (N := some 88) #[true, true, true, true, true, true, true, false, false, false, false, false, false, false, false, false, false] rfl rfl (one_of HT_.out (by kernel_rfl)) (by decide) (fun K hK => ?_)
                  refine goes_ Try.func22 (by kernel_rfl) rfl #[.int .i64 a0_10, .int .i64 t154, .int .i64 1048576] (by rfl) rfl rfl (by (try simp only [List.map_toArray, List.map_cons, List.map_nil]); first | done | rfl | (simp only [List.length_drop, List.length_take]; rfl)) ?_
                  with_reducible refine (signalmanref15_within.calls a0_10 t154 1048576 false _ A50.out).mono ?_
                  rintro e w' ⟨rfl, ⟨nd, rfl⟩⟩
                  refine ⟨_, rfl, ?_⟩
                  refine hK.out _ _ ⟨(blk_cell BK142.out 0).trans rfl, (blk_cell BK142.out 1).trans rfl, (blk_cell BK142.out 2).trans rfl, (blk_cell BK142.out 3).trans rfl, (blk_cell BK142.out 4).trans rfl, (blk_cell BK142.out 5).trans rfl, (blk_cell BK142.out 6).trans rfl, (blk_cell BK142.out 7).trans rfl, (blk_cell BK142.out 8).trans rfl, (blk_cell BK142.out 9).trans rfl, (blk_cell BK142.out 10).trans rfl, (blk_cell BK142.out 11).trans rfl, (blk_cell BK142.out 12).trans rfl, (blk_cell BK142.out 13).trans rfl, (blk_cell BK142.out 14).trans rfl, (blk_cell BK142.out 15).trans rfl⟩ (fun hHeld => ?_)
                  clear hK K
                  refine norm_ (a' := ?_) ?_ ?_
                  rotate_left
                  · show Act.put _ (some 88) _ = _
                    simp only [Act.put, List.setIfInBounds_toArray, List.set_cons_zero, List.set_cons_succ, i64_w, i32_w]
                    rfl
                  refine pure_ (i := 7) (N := some 89) (v := ?_) (a' := ?_) #[true, true, true, true, true, true, true, true, false, false, false, false, false, false, false, false, false] rfl rfl (any_of HT_.out (by kernel_rfl)) (fun _ _ _ h => h) (Or.inl ⟨by rfl, ?_⟩) ?_ ?_
                  rotate_left
                  · intro w'
                    go_simp
                    with_reducible rfl
                  rotate_left
                  · simp only [Act.put, List.setIfInBounds_toArray, List.set_cons_zero, List.set_cons_succ, i64_w, i32_w]
                    rfl
                  refine pure_ (i := 8) (N := some 90) (v := ?_) (a' := ?_) #[true, true, true, true, true, true, true, true, true, false, false, false, false, false, false, false, false] rfl rfl (any_of HT_.out (by kernel_rfl)) (fun _ _ _ h => h) (Or.inl ⟨by rfl, ?_⟩) ?_ ?_
                  rotate_left
                  · intro w'
                    go_simp
                    with_reducible rfl
                  rotate_left
                  · simp only [Act.put, List.setIfInBounds_toArray, List.set_cons_zero, List.set_cons_succ, i64_w, i32_w]
                    rfl
                  refine pure_ (i := 9) (N := some 91) (v := undef) (a' := ?_) #[true, true, true, true, true, true, true, true, true, true, false, false, false, false, false, false, false] rfl rfl (any_of HT_.out (by kernel_rfl)) (fun _ _ _ h => h) (Or.inr ⟨by rfl, rfl⟩) ?_ ?_
                  rotate_left
                  · simp only [Act.put, List.setIfInBounds_toArray, List.set_cons_zero, List.set_cons_succ, i64_w, i32_w]
                    rfl
                  refine pure_ (i := 10) (N := some 92) (v := undef) (a' := ?_) #[true, true, true, true, true, true, true, true, true, true, true, false, false, false, false, false, false] rfl rfl (any_of HT_.out (by kernel_rfl)) (fun _ _ _ h => h) (Or.inr ⟨by rfl, rfl⟩) ?_ ?_
                  rotate_left
                  · simp only [Act.put, List.setIfInBounds_toArray, List.set_cons_zero, List.set_cons_succ, i64_w, i32_w]
                    rfl
                  refine pure_ (i := 11) (N := some 93) (v := undef) (a' := ?_) #[true, true, true, true, true, true, true, true, true, true, true, true, false, false, false, false, false] rfl rfl (any_of HT_.out (by kernel_rfl)) (fun _ _ _ h => h) (Or.inr ⟨by rfl, rfl⟩) ?_ ?_
                  rotate_left
                  · simp only [Act.put, List.setIfInBounds_toArray, List.set_cons_zero, List.set_cons_succ, i64_w, i32_w]
                    rfl
                  refine pure_ (i := 12) (N := some 94) (v := undef) (a' := ?_) #[true, true, true, true, true, true, true, true, true, true, true, true, true, false, false, false, false] rfl rfl (any_of HT_.out (by kernel_rfl)) (fun _ _ _ h => h) (Or.inr ⟨by rfl, rfl⟩) ?_ ?_
                  rotate_left
                  · simp only [Act.put, List.setIfInBounds_toArray, List.set_cons_zero, List.set_cons_succ, i64_w, i32_w]
                    rfl
                  refine pure_ (i := 13) (N := some 95) (v := undef) (a' := ?_) #[true, true, true, true, true, true, true, true, true, true, true, true, true, true, false, false, false] rfl rfl (any_of HT_.out (by kernel_rfl)) (fun _ _ _ h => h) (Or.inr ⟨by rfl, rfl⟩) ?_ ?_
                  rotate_left
                  · simp only [Act.put, List.setIfInBounds_toArray, List.set_cons_zero, List.set_cons_succ, i64_w, i32_w]
                    rfl
                  refine pure_ (i := 14) (N := some 96) (v := undef) (a' := ?_) #[true, true, true, true, true, true, true, true, true, true, true, true, true, true, true, false, false] rfl rfl (any_of HT_.out (by kernel_rfl)) (fun _ _ _ h => h) (Or.inr ⟨by rfl, rfl⟩) ?_ ?_
                  rotate_left
                  · simp only [Act.put, List.setIfInBounds_toArray, List.set_cons_zero, List.set_cons_succ, i64_w, i32_w]
                    rfl
                  refine pure_ (i := 15) (N := some 97) (v := ?_) (a' := ?_) #[true, true, true, true, true, true, true, true, true, true, true, true, true, true, true, true, false] rfl rfl (any_of HT_.out (by kernel_rfl)) (fun _ _ _ h => h) (Or.inl ⟨by rfl, ?_⟩) ?_ ?_
                  rotate_left
                  · intro w'
                    go_simp
                    with_reducible rfl
                  rotate_left
                  · simp only [Act.put, List.setIfInBounds_toArray, List.set_cons_zero, List.set_cons_succ, i64_w, i32_w]
                    rfl
                  refine pure_ (i := 16) (N := some 3) (v := ?_) (a' := ?_) #[true, true, true, true, true, true, true, true, true, true, true, true, true, true, true, true, true] rfl rfl (any_of HT_.out (by kernel_rfl)) (fun _ _ _ h => h) (Or.inl ⟨by rfl, ?_⟩) ?_ ?_
                  rotate_left
                  · intro w'
                    go_simp
                    with_reducible rfl
                  rotate_left
                  · simp only [Act.put, List.setIfInBounds_toArray, List.set_cons_zero, List.set_cons_succ, i64_w, i32_w]
                    rfl
                  refine done_ (done_of HT_.out (by kernel_rfl)) ?_
                  try go_wp2
                  go_ret
                  exact ⟨by first | rfl | (simp [errW_none, errW_some] <;> rfl) | (simp [*, errW_none, errW_some] <;> rfl), by repeat (first | (with_reducible first | exact HB.out | apply below_alloc | apply pw_below_drewN | apply below_drew1 | refine below_set ?_ GE142.out) | exact HB.out)⟩
              · replace c48 := Bool.eq_false_iff.mpr c48
                subst c48
                have H1 : (some 1) = some r := by rw [if_neg (show ¬ (false = true) by decide)] at H; exact H
                clear H
                have H := H1
                clear H1
                obtain rfl := Option.some.inj H
                try go_wp2
                have n0_ := Aside0.mk (blk_drew BK142.out)
                have n1_ := Aside0.mk (below_drew1 HB.out)
                clear BK142
                clear HB
                have BK142 := n0_
                have HB := n1_
                clear n0_ n1_
                refine start_ (n := 17) (S := fun w' => True) (ds := []) #[false, false, false, false, false, false, false, false, false, false, false, false, false, false, false, false, false] (by kernel_rfl) rfl rfl trivial (fun hHeld => ?_); refine with_tabW signalmanref15_Check.tab4 signalmanref15_Check.bits4 (fun HT_ HW_ => ?_)
                generalize wc.drew = w59 at BK142 HB hHeld ⊢
                refine pure_ (i := 0) (N := some 82) (v := ?_) (a' := ?_) #[true, false, false, false, false, false, false, false, false, false, false, false, false, false, false, false, false] rfl rfl (any_of HT_.out (by kernel_rfl)) (fun _ _ _ h => h) (Or.inl ⟨by rfl, ?_⟩) ?_ ?_
                rotate_left
                · intro w'
                  go_simp
                  with_reducible rfl
                rotate_left
                · simp only [Act.put, List.setIfInBounds_toArray, List.set_cons_zero, List.set_cons_succ, i64_w, i32_w]
                  rfl
                refine pure_ (i := 1) (N := some 83) (v := ?_) (a' := ?_) #[true, true, false, false, false, false, false, false, false, false, false, false, false, false, false, false, false] rfl rfl (any_of HT_.out (by kernel_rfl)) (fun _ _ _ h => h) (Or.inl ⟨by rfl, ?_⟩) ?_ ?_
                rotate_left
                · intro w'
                  go_simp
                  with_reducible rfl
                rotate_left
                · simp only [Act.put, List.setIfInBounds_toArray, List.set_cons_zero, List.set_cons_succ, i64_w, i32_w]
                  rfl
                refine pure_ (i := 2) (N := some 84) (v := undef) (a' := ?_) #[true, true, true, false, false, false, false, false, false, false, false, false, false, false, false, false, false] rfl rfl (any_of HT_.out (by kernel_rfl)) (fun _ _ _ h => h) (Or.inr ⟨by rfl, rfl⟩) ?_ ?_
                rotate_left
                · simp only [Act.put, List.setIfInBounds_toArray, List.set_cons_zero, List.set_cons_succ, i64_w, i32_w]
                  rfl
                refine pure_ (i := 3) (N := some 85) (v := undef) (a' := ?_) #[true, true, true, true, false, false, false, false, false, false, false, false, false, false, false, false, false] rfl rfl (any_of HT_.out (by kernel_rfl)) (fun _ _ _ h => h) (Or.inr ⟨by rfl, rfl⟩) ?_ ?_
                rotate_left
                · simp only [Act.put, List.setIfInBounds_toArray, List.set_cons_zero, List.set_cons_succ, i64_w, i32_w]
                  rfl
                refine pure_ (i := 4) (N := some 86) (v := undef) (a' := ?_) #[true, true, true, true, true, false, false, false, false, false, false, false, false, false, false, false, false] rfl rfl (any_of HT_.out (by kernel_rfl)) (fun _ _ _ h => h) (Or.inr ⟨by rfl, rfl⟩) ?_ ?_
                rotate_left
                · simp only [Act.put, List.setIfInBounds_toArray, List.set_cons_zero, List.set_cons_succ, i64_w, i32_w]
                  rfl
                refine pure_ (i := 5) (N := some 87) (v := undef) (a' := ?_) #[true, true, true, true, true, true, false, false, false, false, false, false, false, false, false, false, false] rfl rfl (any_of HT_.out (by kernel_rfl)) (fun _ _ _ h => h) (Or.inr ⟨by rfl, rfl⟩) ?_ ?_
                rotate_left
                · simp only [Act.put, List.setIfInBounds_toArray, List.set_cons_zero, List.set_cons_succ, i64_w, i32_w]
                  rfl
                refine pure_ (i := 6) (N := some 88) (v := undef) (a' := ?_) #[true, true, true, true, true, true, true, false, false, false, false, false, false, false, false, false, false] rfl rfl (any_of HT_.out (by kernel_rfl)) (fun _ _ _ h => h) (Or.inr ⟨by rfl, rfl⟩) ?_ ?_
                rotate_left
                · simp only [Act.put, List.setIfInBounds_toArray, List.set_cons_zero, List.set_cons_succ, i64_w, i32_w]
                  rfl
                refine pure_ (i := 7) (N := some 89) (v := ?_) (a' := ?_) #[true, true, true, true, true, true, true, true, false, false, false, false, false, false, false, false, false] rfl rfl (any_of HT_.out (by kernel_rfl)) (fun _ _ _ h => h) (Or.inl ⟨by rfl, ?_⟩) ?_ ?_
                rotate_left
                · intro w'
                  go_simp
                  with_reducible rfl
                rotate_left
                · simp only [Act.put, List.setIfInBounds_toArray, List.set_cons_zero, List.set_cons_succ, i64_w, i32_w]
                  rfl
                refine pure_ (i := 8) (N := some 90) (v := ?_) (a' := ?_) #[true, true, true, true, true, true, true, true, true, false, false, false, false, false, false, false, false] rfl rfl (any_of HT_.out (by kernel_rfl)) (fun _ _ _ h => h) (Or.inl ⟨by rfl, ?_⟩) ?_ ?_
                rotate_left
                · intro w'
                  go_simp
                  with_reducible rfl
                rotate_left
                · simp only [Act.put, List.setIfInBounds_toArray, List.set_cons_zero, List.set_cons_succ, i64_w, i32_w]
                  rfl
                refine pure_ (i := 9) (N := some 91) (v := undef) (a' := ?_) #[true, true, true, true, true, true, true, true, true, true, false, false, false, false, false, false, false] rfl rfl (any_of HT_.out (by kernel_rfl)) (fun _ _ _ h => h) (Or.inr ⟨by rfl, rfl⟩) ?_ ?_
                rotate_left
                · simp only [Act.put, List.setIfInBounds_toArray, List.set_cons_zero, List.set_cons_succ, i64_w, i32_w]
                  rfl
                refine pure_ (i := 10) (N := some 92) (v := undef) (a' := ?_) #[true, true, true, true, true, true, true, true, true, true, true, false, false, false, false, false, false] rfl rfl (any_of HT_.out (by kernel_rfl)) (fun _ _ _ h => h) (Or.inr ⟨by rfl, rfl⟩) ?_ ?_
                rotate_left
                · simp only [Act.put, List.setIfInBounds_toArray, List.set_cons_zero, List.set_cons_succ, i64_w, i32_w]
                  rfl
                refine pure_ (i := 11) (N := some 93) (v := undef) (a' := ?_) #[true, true, true, true, true, true, true, true, true, true, true, true, false, false, false, false, false] rfl rfl (any_of HT_.out (by kernel_rfl)) (fun _ _ _ h => h) (Or.inr ⟨by rfl, rfl⟩) ?_ ?_
                rotate_left
                · simp only [Act.put, List.setIfInBounds_toArray, List.set_cons_zero, List.set_cons_succ, i64_w, i32_w]
                  rfl
                refine pure_ (i := 12) (N := some 94) (v := undef) (a' := ?_) #[true, true, true, true, true, true, true, true, true, true, true, true, true, false, false, false, false] rfl rfl (any_of HT_.out (by kernel_rfl)) (fun _ _ _ h => h) (Or.inr ⟨by rfl, rfl⟩) ?_ ?_
                rotate_left
                · simp only [Act.put, List.setIfInBounds_toArray, List.set_cons_zero, List.set_cons_succ, i64_w, i32_w]
                  rfl
                refine pure_ (i := 13) (N := some 95) (v := undef) (a' := ?_) #[true, true, true, true, true, true, true, true, true, true, true, true, true, true, false, false, false] rfl rfl (any_of HT_.out (by kernel_rfl)) (fun _ _ _ h => h) (Or.inr ⟨by rfl, rfl⟩) ?_ ?_
                rotate_left
                · simp only [Act.put, List.setIfInBounds_toArray, List.set_cons_zero, List.set_cons_succ, i64_w, i32_w]
                  rfl
                refine pure_ (i := 14) (N := some 96) (v := undef) (a' := ?_) #[true, true, true, true, true, true, true, true, true, true, true, true, true, true, true, false, false] rfl rfl (any_of HT_.out (by kernel_rfl)) (fun _ _ _ h => h) (Or.inr ⟨by rfl, rfl⟩) ?_ ?_
                rotate_left
                · simp only [Act.put, List.setIfInBounds_toArray, List.set_cons_zero, List.set_cons_succ, i64_w, i32_w]
                  rfl
                refine pure_ (i := 15) (N := some 97) (v := ?_) (a' := ?_) #[true, true, true, true, true, true, true, true, true, true, true, true, true, true, true, true, false] rfl rfl (any_of HT_.out (by kernel_rfl)) (fun _ _ _ h => h) (Or.inl ⟨by rfl, ?_⟩) ?_ ?_
                rotate_left
                · intro w'
                  go_simp
                  with_reducible rfl
                rotate_left
                · simp only [Act.put, List.setIfInBounds_toArray, List.set_cons_zero, List.set_cons_succ, i64_w, i32_w]
                  rfl
                refine pure_ (i := 16) (N := some 3) (v := ?_) (a' := ?_) #[true, true, true, true, true, true, true, true, true, true, true, true, true, true, true, true, true] rfl rfl (any_of HT_.out (by kernel_rfl)) (fun _ _ _ h => h) (Or.inl ⟨by rfl, ?_⟩) ?_ ?_
                rotate_left
                · intro w'
                  go_simp
                  with_reducible rfl
                rotate_left
                · simp only [Act.put, List.setIfInBounds_toArray, List.set_cons_zero, List.set_cons_succ, i64_w, i32_w]
                  rfl
                refine done_ (done_of HT_.out (by kernel_rfl)) ?_
                try go_wp2
                go_ret
                exact ⟨by first | rfl | (simp [errW_none, errW_some] <;> rfl) | (simp [*, errW_none, errW_some] <;> rfl), by repeat (first | (with_reducible first | exact HB.out | apply below_alloc | apply pw_below_drewN | apply below_drew1 | refine below_set ?_ GE142.out) | exact HB.out)⟩

end Go.Proofs.Ytbcgihkmgmbomaa.PBoundTells
