/- Every limit of a link that can be is looked at: a number that is one too small or too great is told. No condition. -/
import Derived.Test.YtckfkmgfilfgfaaPShapeLimitsx3
import Derived.Test.YtckfkmgfilfgfaaK
namespace Go.Proofs.Ytckfkmgfilfgfaa.Limits4
open Go.RowKit Go.Proofs.YtckfkmgfilfgfaaW.PrintWords Go.Proofs.YtckfkmgfilfgfaaW.PrintLast Go.Proofs.YtckfkmgfilfgfaaW.PrintMore Go.Proofs.Ytckfkmgfilfgfaa.K 
set_option linter.unusedVariables false
set_option linter.unusedSimpArgs false
open Go.Proofs.Ytckfkmgfilfgfaa.PShapeLimits
theorem num_ok (x : Int) (w : World) : Calls Try.prog 7 #[.int .i64 x] w fun e w' => e = .returned (.int .i64 x) ∧ w' = w := by
  go_enter Try.func7, Try.ntmps7
  go_wp2
  go_ret
  exact ⟨rfl, rfl⟩
theorem alloc_lt (w : World) (o : Obj) : w.heap.size < (w.alloc o).heap.size := by simp
theorem S23_keep {w0 W W' : World} {g g1 : Nat} {f0 f1 f2 f3 f4 f5 f6 f7 f8 f9 f10 f11 f12 f13 : Int} {f14 f15 : Bool} (h : IsS23 w0 W g f0 f1 f2 f3 f4 f5 f6 f7 f8 f9 f10 f11 f12 f13 f14 f15) (hk : KeepBut W W' g1 none) (hne : g ≠ g1) : IsS23 w0 W' g f0 f1 f2 f3 f4 f5 f6 f7 f8 f9 f10 f11 f12 f13 f14 f15 := ⟨(hk.2 g (blk_lt h.1) hne (by simp)).trans h.1, h.2⟩
theorem lit8 (w : World) : Own (Kd.int .i64) 3 0 (w.alloc (.cells #[.int .i64 0, .int .i64 1, .int .i64 1, .int .i64 1, .int .i64 0, .int .i64 1, .int .i64 4, .int .i64 0, .int .i64 1, .int .i64 74, .int .i64 2, .int .i64 1, .int .i64 1] 3)) (.slice (some ⟨w.heap.size, 0, none⟩) 13 13) [0, 1, 1, 1, 0, 1, 4, 0, 1, 74, 2, 1, 1] :=
  lit_own (enc := Value.int .i64) (h1 := fun _ => rfl) 3 0 w [0, 1, 1, 1, 0, 1, 4, 0, 1, 74, 2, 1, 1] (Nat.zero_le _) (Nat.le_of_ble_eq_true rfl)
theorem lit9 (w : World) : Own (Kd.int .i64) 3 0 (w.alloc (.cells #[.int .i64 1, .int .i64 16, .int .i64 1048576, .int .i64 100, .int .i64 1048576, .int .i64 1048576, .int .i64 65536, .int .i64 1000, .int .i64 1000, .int .i64 1048576, .int .i64 4096, .int .i64 16, .int .i64 16] 3)) (.slice (some ⟨w.heap.size, 0, none⟩) 13 13) [1, 16, 1048576, 100, 1048576, 1048576, 65536, 1000, 1000, 1048576, 4096, 16, 16] :=
  lit_own (enc := Value.int .i64) (h1 := fun _ => rfl) 3 0 w [1, 16, 1048576, 100, 1048576, 1048576, 65536, 1000, 1000, 1048576, 4096, 16, 16] (Nat.zero_le _) (Nat.le_of_ble_eq_true rfl)
theorem at8 (b b' : Nat) (w : World) (xs : List Int) (e B : Nat) (k : Nat) (x : Int) (h : Own (Kd.int .i64) e B w (.slice (some ⟨b, 0, none⟩) 13 13) xs) (hk : k < 13) (hx : rd xs (k : Int) = x) (hb : b = b') : w.cell? ⟨b', k, none⟩ = some (.int .i64 x) := by
  subst hb hx
  have := h.rds.cell_int (Below.refl _ _) k hk
  rwa [add_plain] at this
variable {lo hi : Int}
set_option maxHeartbeats 8000000 in
set_option maxRecDepth 100000 in
theorem lim_low (K : Nat) (hK : K < 13) (x : Int) (hx0 : 0 ≤ x) (hx1 : x ≤ 1048576) (hlo : rd [0, 1, 1, 1, 0, 1, 4, 0, 1, 74, 2, 1, 1] (K : Int) = lo) (hhi : rd [1, 16, 1048576, 100, 1048576, 1048576, 65536, 1000, 1000, 1048576, 4096, 16, 16] (K : Int) = hi) (hl0 : 0 ≤ lo) (hl1 : lo ≤ 1048576) (hxx : lo = x) (c0 c1 c2 c3 c4 c5 c6 c7 c8 c9 c10 c11 c12 c13 d0 d1 d2 d3 d4 d5 d6 d7 d8 d9 d10 d11 d12 d13 : Int)
    (HS : signalmanlaw19_set.f 0 128 4 10 3 0 5 20 4 20 500 10 3 3 false false K x = some (c0, c1, c2, c3, c4, c5, c6, c7, c8, c9, c10, c11, c12, c13, false, false)) (HT : signalmanlaw19_set.f 0 128 4 10 3 0 5 20 4 20 500 10 3 3 false false K (x - 1) = some (d0, d1, d2, d3, d4, d5, d6, d7, d8, d9, d10, d11, d12, d13, false, false)) (HC : shape_Check.f 8 c0 c1 c2 c3 c4 c5 c6 c7 c8 c9 c10 c11 c12 c13 false false = some 0) (HD : shape_Check.f 8 d0 d1 d2 d3 d4 d5 d6 d7 d8 d9 d10 d11 d12 d13 false false = some 1) (w : World) :
    Calls Try.prog 4 #[.int .i64 K, .bool false] w fun e w' => e = .returned (.bool true) ∧ Below w.heap.size w w' := by
  have hu23 := Try.underlying23
  have HA := Aside0.mk (show signalmanlaw19_alive.f 8 = some true by decide +kernel)
  have HM := Aside0.mk (show shape_Most.f 0 128 4 10 3 0 5 20 4 20 500 10 3 3 false false = some 74 by decide +kernel)
  have HS := Aside0.mk HS
  have HT := Aside0.mk HT
  have HC := Aside0.mk HC
  have HD := Aside0.mk HD
  have HLO := Aside0.mk hlo
  have HHI := Aside0.mk hhi
  clear hlo hhi
  subst hxx
  have k0 : ¬ (K : Int) < 0 := by omega
  have k1 : ¬ (12 : Int) < (K : Int) := by omega
  have k2 : (K : Int) < 13 := by omega
  go_enter Try.func4, Try.ntmps4
  go_wp2_with (first
    | (go_at_call 6; (with_reducible refine (signalmanlaw19_alive.calls 8 true _ HA.out).mono ?_); rintro e w1 ⟨rfl, HB1⟩)
    | (go_at_call 12; (with_reducible refine (signalmanlaw19_good.calls 0 128 4 10 3 0 5 20 4 20 500 10 3 3 false false _ rfl).mono ?_); rintro e w2 ⟨rfl, hn⟩; have HB2 := below_step HB1 hn; clear hn)
    | (go_at_call 12; (with_reducible refine (signalmanlaw19_good.calls 0 128 4 10 3 0 5 20 4 20 500 10 3 3 false false _ rfl).mono ?_); rintro e w3 ⟨rfl, hn⟩; have HB3 := below_step (below_alloc HB2 (.cells #[.int .i64 0, .int .i64 128, .int .i64 4, .int .i64 10, .int .i64 3, .int .i64 0, .int .i64 5, .int .i64 20, .int .i64 4, .int .i64 20, .int .i64 500, .int .i64 10, .int .i64 3, .int .i64 3, .bool false, .bool false] 23)) hn; have HP := Aside0.mk (((IsS23.new w w2 0 128 4 10 3 0 5 20 4 20 500 10 3 3 false false HB2).below hn).alloc (.cells #[.int .i64 0, .int .i64 128, .int .i64 4, .int .i64 10, .int .i64 3, .int .i64 0, .int .i64 5, .int .i64 20, .int .i64 4, .int .i64 20, .int .i64 500, .int .i64 10, .int .i64 3, .int .i64 3, .bool false, .bool false] 23)); have HQ := Aside0.mk (IsS23.new w w3 0 128 4 10 3 0 5 20 4 20 500 10 3 3 false false HB3); have HL := Aside0.mk (show w2.heap.size < w3.heap.size from Nat.lt_of_lt_of_le (alloc_lt w2 (.cells #[.int .i64 0, .int .i64 128, .int .i64 4, .int .i64 10, .int .i64 3, .int .i64 0, .int .i64 5, .int .i64 20, .int .i64 4, .int .i64 20, .int .i64 500, .int .i64 10, .int .i64 3, .int .i64 3, .bool false, .bool false] 23)) hn.size); have HBA := below_alloc HB3 (.cells #[.int .i64 0, .int .i64 128, .int .i64 4, .int .i64 10, .int .i64 3, .int .i64 0, .int .i64 5, .int .i64 20, .int .i64 4, .int .i64 20, .int .i64 500, .int .i64 10, .int .i64 3, .int .i64 3, .bool false, .bool false] 23); clear hn; have p0 := cellS23_0 HP.out.1; have p1 := cellS23_1 HP.out.1; have p2 := cellS23_2 HP.out.1; have p3 := cellS23_3 HP.out.1; have p4 := cellS23_4 HP.out.1; have p5 := cellS23_5 HP.out.1; have p6 := cellS23_6 HP.out.1; have p7 := cellS23_7 HP.out.1; have p8 := cellS23_8 HP.out.1; have p9 := cellS23_9 HP.out.1; have p10 := cellS23_10 HP.out.1; have p11 := cellS23_11 HP.out.1; have p12 := cellS23_12 HP.out.1; have p13 := cellS23_13 HP.out.1; have p14 := cellS23_14 HP.out.1; have p15 := cellS23_15 HP.out.1)
    | (go_at_call 10; (with_reducible refine (shape_Most.calls 0 128 4 10 3 0 5 20 4 20 500 10 3 3 false false 74 _ HM.out).mono ?_); rintro e w4 ⟨rfl, hn⟩; clear p0 p1 p2 p3 p4 p5 p6 p7 p8 p9 p10 p11 p12 p13 p14 p15; have HB4 := below_step HBA hn; have HP := Aside0.mk (((HP.out.below hn).alloc (.cells #[.int .i64 0, .int .i64 1, .int .i64 1, .int .i64 1, .int .i64 0, .int .i64 1, .int .i64 4, .int .i64 0, .int .i64 1, .int .i64 74, .int .i64 2, .int .i64 1, .int .i64 1] 3)).alloc (.cells #[.int .i64 1, .int .i64 16, .int .i64 1048576, .int .i64 100, .int .i64 1048576, .int .i64 1048576, .int .i64 65536, .int .i64 1000, .int .i64 1000, .int .i64 1048576, .int .i64 4096, .int .i64 16, .int .i64 16] 3)); have HQ := Aside0.mk (((HQ.out.below hn).alloc (.cells #[.int .i64 0, .int .i64 1, .int .i64 1, .int .i64 1, .int .i64 0, .int .i64 1, .int .i64 4, .int .i64 0, .int .i64 1, .int .i64 74, .int .i64 2, .int .i64 1, .int .i64 1] 3)).alloc (.cells #[.int .i64 1, .int .i64 16, .int .i64 1048576, .int .i64 100, .int .i64 1048576, .int .i64 1048576, .int .i64 65536, .int .i64 1000, .int .i64 1000, .int .i64 1048576, .int .i64 4096, .int .i64 16, .int .i64 16] 3)); clear hn; have T8 := (lit8 w4).alloc (.cells #[.int .i64 1, .int .i64 16, .int .i64 1048576, .int .i64 100, .int .i64 1048576, .int .i64 1048576, .int .i64 65536, .int .i64 1000, .int .i64 1000, .int .i64 1048576, .int .i64 4096, .int .i64 16, .int .i64 16] 3); have T9 := lit9 (w4.alloc (.cells #[.int .i64 0, .int .i64 1, .int .i64 1, .int .i64 1, .int .i64 0, .int .i64 1, .int .i64 4, .int .i64 0, .int .i64 1, .int .i64 74, .int .i64 2, .int .i64 1, .int .i64 1] 3)); have HB6 := below_alloc (below_alloc HB4 (.cells #[.int .i64 0, .int .i64 1, .int .i64 1, .int .i64 1, .int .i64 0, .int .i64 1, .int .i64 4, .int .i64 0, .int .i64 1, .int .i64 74, .int .i64 2, .int .i64 1, .int .i64 1] 3)) (.cells #[.int .i64 1, .int .i64 16, .int .i64 1048576, .int .i64 100, .int .i64 1048576, .int .i64 1048576, .int .i64 65536, .int .i64 1000, .int .i64 1000, .int .i64 1048576, .int .i64 4096, .int .i64 16, .int .i64 16] 3); have y8 := at8 (w4.heap.size) (w4.heap.size) ((w4.alloc (.cells #[.int .i64 0, .int .i64 1, .int .i64 1, .int .i64 1, .int .i64 0, .int .i64 1, .int .i64 4, .int .i64 0, .int .i64 1, .int .i64 74, .int .i64 2, .int .i64 1, .int .i64 1] 3)).alloc (.cells #[.int .i64 1, .int .i64 16, .int .i64 1048576, .int .i64 100, .int .i64 1048576, .int .i64 1048576, .int .i64 65536, .int .i64 1000, .int .i64 1000, .int .i64 1048576, .int .i64 4096, .int .i64 16, .int .i64 16] 3)) _ 3 0 K lo T8 hK HLO.out rfl; have y9 := at8 ((w4.alloc (.cells #[.int .i64 0, .int .i64 1, .int .i64 1, .int .i64 1, .int .i64 0, .int .i64 1, .int .i64 4, .int .i64 0, .int .i64 1, .int .i64 74, .int .i64 2, .int .i64 1, .int .i64 1] 3)).heap.size) (w4.heap.size + 1) ((w4.alloc (.cells #[.int .i64 0, .int .i64 1, .int .i64 1, .int .i64 1, .int .i64 0, .int .i64 1, .int .i64 4, .int .i64 0, .int .i64 1, .int .i64 74, .int .i64 2, .int .i64 1, .int .i64 1] 3)).alloc (.cells #[.int .i64 1, .int .i64 16, .int .i64 1048576, .int .i64 100, .int .i64 1048576, .int .i64 1048576, .int .i64 65536, .int .i64 1000, .int .i64 1000, .int .i64 1048576, .int .i64 4096, .int .i64 16, .int .i64 16] 3)) _ 3 0 K hi T9 hK HHI.out (by simp); clear T8 T9)
    | (go_at_call 13; (with_reducible refine (signalmanlaw19_set.calls _ 0 128 4 10 3 0 5 20 4 20 500 10 3 3 false false _ _ c0 c1 c2 c3 c4 c5 c6 c7 c8 c9 c10 c11 c12 c13 false false w _ HP.out HB6 HS.out).mono ?_); rintro e w7 ⟨rfl, HP7, HB7, hk⟩; have HP := Aside0.mk HP7; have HQ7 := S23_keep HQ.out hk (Nat.ne_of_gt HL.out); clear HP7 hk; refine Aside0.out ?_))
  refine Aside0.mk ?_
  as_aux_lemma =>
  go_wp2_with (first
    | (go_at_call 13; (with_reducible refine (signalmanlaw19_set.calls _ 0 128 4 10 3 0 5 20 4 20 500 10 3 3 false false _ _ d0 d1 d2 d3 d4 d5 d6 d7 d8 d9 d10 d11 d12 d13 false false w _ HQ7 HB7 HT.out).mono ?_); rintro e w8 ⟨rfl, HQ8, HB8, hk⟩; have HQ := Aside0.mk HQ8; have HP := Aside0.mk (S23_keep HP.out hk (Nat.ne_of_lt HL.out)); clear HQ8 hk HQ7; have p0 := cellS23_0 HP.out.1; have p1 := cellS23_1 HP.out.1; have p2 := cellS23_2 HP.out.1; have p3 := cellS23_3 HP.out.1; have p4 := cellS23_4 HP.out.1; have p5 := cellS23_5 HP.out.1; have p6 := cellS23_6 HP.out.1; have p7 := cellS23_7 HP.out.1; have p8 := cellS23_8 HP.out.1; have p9 := cellS23_9 HP.out.1; have p10 := cellS23_10 HP.out.1; have p11 := cellS23_11 HP.out.1; have p12 := cellS23_12 HP.out.1; have p13 := cellS23_13 HP.out.1; have p14 := cellS23_14 HP.out.1; have p15 := cellS23_15 HP.out.1; refine Aside0.out ?_))
  refine Aside0.mk ?_
  as_aux_lemma =>
  go_wp2_with (first
    | (go_at_call 8; (with_reducible refine (shape_Check.calls 8 c0 c1 c2 c3 c4 c5 c6 c7 c8 c9 c10 c11 c12 c13 false false 0 _ HC.out).mono ?_); rintro e w9 ⟨rfl, hn⟩; clear p0 p1 p2 p3 p4 p5 p6 p7 p8 p9 p10 p11 p12 p13 p14 p15; have HB9 := below_step HB8 hn; have HQ := Aside0.mk (HQ.out.below hn); clear hn; have p0 := cellS23_0 HQ.out.1; have p1 := cellS23_1 HQ.out.1; have p2 := cellS23_2 HQ.out.1; have p3 := cellS23_3 HQ.out.1; have p4 := cellS23_4 HQ.out.1; have p5 := cellS23_5 HQ.out.1; have p6 := cellS23_6 HQ.out.1; have p7 := cellS23_7 HQ.out.1; have p8 := cellS23_8 HQ.out.1; have p9 := cellS23_9 HQ.out.1; have p10 := cellS23_10 HQ.out.1; have p11 := cellS23_11 HQ.out.1; have p12 := cellS23_12 HQ.out.1; have p13 := cellS23_13 HQ.out.1; have p14 := cellS23_14 HQ.out.1; have p15 := cellS23_15 HQ.out.1)
    | (go_at_call 8; (with_reducible refine (shape_Check.calls 8 d0 d1 d2 d3 d4 d5 d6 d7 d8 d9 d10 d11 d12 d13 false false 1 _ HD.out).mono ?_); rintro e w10 ⟨rfl, hn⟩; clear p0 p1 p2 p3 p4 p5 p6 p7 p8 p9 p10 p11 p12 p13 p14 p15; have HB10 := below_step HB9 hn; clear hn)
    | (go_at_call 7; (with_reducible refine (num_ok _ _).mono ?_); rintro e w' ⟨rfl, rfl⟩))
  go_ret
  exact ⟨rfl, HB10⟩

end Go.Proofs.Ytckfkmgfilfgfaa.Limits4
