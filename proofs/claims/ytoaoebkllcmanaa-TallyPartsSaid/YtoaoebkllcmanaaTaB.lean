/- Contracts of tallies: New, Clear, Parts, Of. -/
import Derived.Test.YtoaoebkllcmanaaTaA
import Derived.Laws.Cover3
import Derived.Lib.SliceRun
namespace Go.Proofs.Ytoaoebkllcmanaa.TaB
open Go.RowKit Go.Proofs.YtoaoebkllcmanaaW.PrintWords Go.Proofs.YtoaoebkllcmanaaW.PrintLast Go.Proofs.YtoaoebkllcmanaaW.PrintMore Go.Proofs.Ytoaoebkllcmanaa.K Go.Proofs.Ytoaoebkllcmanaa.TaP Go.Proofs.Ytoaoebkllcmanaa.TaA
set_option linter.unusedVariables false
set_option linter.unusedSimpArgs false
attribute [local go_sem] max2_int min2_int max_two min_two

attribute [local go_sem] run_store_complex
def cutQ (n l h : Int) : Int := if n < l then l else if n > h then h else n
theorem cutQ_b (n l h : Int) (hlh : l ≤ h) : l ≤ cutQ n l h ∧ cutQ n l h ≤ h := by
  unfold cutQ
  (repeat' split) <;> omega
theorem cutQ_id (n l h : Int) (h0 : l ≤ n) (h1 : n ≤ h) : cutQ n l h = n := by
  unfold cutQ
  rw [if_neg (by omega), if_neg (by omega)]
theorem sizeW_cut (n : Int) : cutQ n 1 1000 = (sizeW n : Int) := by
  unfold cutQ sizeW
  (repeat' split) <;> omega
theorem ret_eq {x y : Int} (h : x = y) : Ending.returned (Value.int .i64 x) = Ending.returned (Value.int .i64 y) := by rw [h]
theorem foi (n : Nat) : floatOfInt .f64 (n : Int) = fl n := rfl

set_option maxHeartbeats 8000000 in
set_option maxRecDepth 100000 in
theorem cut_ok (n l h : Int) (hlh : l < h) (w : World) : Calls Try.prog 19 #[.int .i64 n, .int .i64 l, .int .i64 h] w fun e w' => e = .returned (.int .i64 (cutQ n l h)) ∧ w = w' := by
  have key : (n < l ∧ n < h ∧ ¬ n > h ∧ cutQ n l h = l) ∨ (¬ n < l ∧ n > h ∧ ¬ n ≤ l ∧ cutQ n l h = h) ∨ (¬ n < l ∧ ¬ n > h ∧ cutQ n l h = n) := by
    unfold cutQ
    (repeat' split) <;> omega
  rcases key with ⟨h1, h3, h2, e⟩ | ⟨h1, h2, h3, e⟩ | ⟨h1, h2, e⟩
  all_goals
    rw [e]
    clear e
    go_enter Try.func19, Try.ntmps19
    go_wp2
    all_goals (go_ret; exact ⟨by first | rfl | exact ret_eq (by omega), rfl⟩)

theorem clear_ret {w : World} {g c : Nat} {W : Wn} (h : IsW w g c W) : True := trivial
set_option maxHeartbeats 8000000 in
set_option maxRecDepth 100000 in
theorem count_ok (n : Nat) (hn : n ≤ 201) (w : World) : Calls Try.prog 24 #[.float .f64 (fl n)] w fun e w' => e = .returned (.tuple #[.int .i64 n, .bool true]) ∧ w = w' := by
  have og := ordG n hn
  have ol := ordL n hn
  have oe : (FloatKind.f64.format.order (fl n) (fl n) == some .eq) = true := by rw [ordE n hn]; rfl
  have ci : ∀ W, (convert 39 3 (.float .f64 (fl n))).run Try.prog W = .ok (.int .i64 n) W := fun W => run_convert_float_int W 39 3 .f64 .i64 (fl n) n (by kernel_rfl) (by kernel_rfl) (toI n hn)
  have ci := ci w
  have fo := foi n
  clear hn
  go_enter Try.func24, Try.ntmps24
  go_wp2_with fail
  first | go_ret | go_ret2 | ((try simp only [Exit.inBlock, Exit.then]); refine bodyPost_ret (results_tmp3 rfl _ _ _) rfl ?_) | go_end0 | refine bodyPost_ret0 rfl rfl ?_
  exact ⟨rfl, rfl⟩
theorem count_s (n : Nat) (hn : n ≤ 201) (w : World) : Calls Try.prog 24 #[.float .f64 (fl n)] w fun e w' => e = .returned (.tuple #[.int .i64 n, .bool true]) ∧ w' = w := (count_ok n hn w).mono fun _ _ h => ⟨h.1, h.2.symm⟩
set_option maxHeartbeats 8000000 in
set_option maxRecDepth 100000 in
theorem parts_ok (a b : Nat) (ha : a ≤ 201) (hb : b ≤ 201) (w : World) : Calls Try.prog 16 #[.complex .f64 (fl a) (fl b)] w fun e w' => e = .returned (.tuple #[.int .i64 a, .int .i64 b, .bool true]) ∧ w = w' := by
  go_enter Try.func16, Try.ntmps16
  go_wp2_with (first | (go_at_call 24; (with_reducible refine (count_s a ha _).mono ?_); rintro e wK ⟨rfl, rfl⟩) | (go_at_call 24; (with_reducible refine (count_s b hb _).mono ?_); rintro e wK ⟨rfl, rfl⟩))
  first | go_ret | go_ret2 | ((try simp only [Exit.inBlock, Exit.then]); refine bodyPost_ret (results_tmp3 rfl _ _ _) rfl ?_) | go_end0 | refine bodyPost_ret0 rfl rfl ?_
  exact ⟨rfl, rfl⟩
theorem isw_new (w : World) (m : Nat) (h : 1 ≤ m) : IsW ((w.alloc (.cells (Array.replicate m (.bool false)) 4)).alloc (.cells (Array.mk ((newW m).cells w.heap.size)) 43)) (w.heap.size + 1) w.heap.size (newW m) := by
  have h1 := Ob.new w 4 ((List.replicate m false).map Value.bool)
  have e1 : ((List.replicate m false).map Value.bool).toArray = Array.replicate m (.bool false) := by simp
  rw [e1] at h1
  have h2 := Ob.new (w.alloc (.cells (Array.replicate m (.bool false)) 4)) 43 ((newW m).cells w.heap.size)
  have e2 : (w.alloc (.cells (Array.replicate m (.bool false)) 4)).heap.size = w.heap.size + 1 := World.size_alloc _ _
  rw [e2] at h2
  exact ⟨h2, h1.alloc _⟩
theorem mkB (m : Nat) (hm : m ≤ 4096) (W : World) : (Instr.makeSlice 22 (.int .i64 (m : Int)) (.int .i64 (m : Int))).run Try.prog W = .ok (.slice (some ⟨W.heap.size, 0, none⟩) m m) (W.alloc (.cells (Array.replicate m (.bool false)) 4)) := by
  have h := print_make_of (P := Try.prog) 22 4 (.bool false) 1 (by kernel_rfl) rfl rfl (by decide) m (by omega) W
  have e : madeCells #[.bool false] m = Array.replicate m (.bool false) := by
    apply Array.ext
    · simp [madeCells]
    · intro i h1 h2
      simp [madeCells, Nat.mod_one]
  rwa [e] at h

set_option maxHeartbeats 8000000 in
set_option maxRecDepth 100000 in
theorem new_ok (n : Int) (w : World) : Calls Try.prog 7 #[.int .i64 n] w fun e w' => ∃ g c, e = .returned (.pointer (some ⟨g, 0, none⟩)) ∧ w.heap.size ≤ g ∧ w.heap.size ≤ c ∧ IsW w' g c (newW (sizeW n)) ∧ Below w.heap.size w w' := by
  obtain ⟨h1, h2⟩ := sizeW_b n
  have EC := Aside0.mk (sizeW_cut n)
  obtain ⟨m, hm⟩ : ∃ m, m = sizeW n := ⟨_, rfl⟩
  rw [← hm] at h1 h2 EC ⊢
  have mk := mkB m (by omega) w
  have NW := Aside0.mk (isw_new w m h1)
  clear hm
  go_enter Try.func7, Try.ntmps7
  go_wp2_with (first | (go_at_call 19; (with_reducible refine (cut_ok n 1 1000 (by decide) _).mono ?_); rintro e wK ⟨rfl, rfl⟩; rw [EC.out]))
  first | go_ret | go_ret2 | ((try simp only [Exit.inBlock, Exit.then]); refine bodyPost_ret (results_tmp3 rfl _ _ _) rfl ?_) | go_end0 | refine bodyPost_ret0 rfl rfl ?_
  refine ⟨w.heap.size + 1, w.heap.size, by first | rfl | (rw [World.size_alloc]), by omega, by omega, ?_, below_alloc (below_alloc (Below.refl _ _) _) _⟩
  have := NW.out
  simpa [Wn.cells, newW, fl0] using this

set_option maxHeartbeats 8000000 in
set_option maxRecDepth 100000 in
theorem clear_ok (g c : Nat) (W : Wn) (w : World) (h : IsW w g c W) : Calls Try.prog 12 #[.pointer (some ⟨g, 0, none⟩)] w fun e w' => e = .returned (.tuple #[]) ∧ IsW w' g c (clearW W) ∧ Fr (fun k => k = g ∨ k = c) w w' := by
  have R0 := h
  obtain ⟨n, hn⟩ : ∃ n, n = W.l.length := ⟨_, rfl⟩
  have c0 := h.tab.at_ 0 (v := .slice (some ⟨c, 0, none⟩) n n) (by rw [hn]; rfl)
  have c1 := h.tab.at_ 1 (v := .int .i64 W.at_) rfl
  have c2 := h.tab.at_ 2 (v := .int .i64 W.kept) rfl
  have c3 := h.tab.at_ 3 (v := .complex .f64 (fl W.good) (fl W.bad)) rfl
  have f0 := h.tab.frozen 0
  have f1 := h.tab.frozen 1
  have f2 := h.tab.frozen 2
  have f3 := h.tab.frozen 3
  have I0 := Aside0.mk h
  have HN := Aside0.mk hn
  clear h R0 hn
  go_enter Try.func12, Try.ntmps12
  go_wp2_with fail
  first | go_ret | go_ret2 | ((try simp only [Exit.inBlock, Exit.then]); refine bodyPost_ret (results_tmp3 rfl _ _ _) rfl ?_) | go_end0 | refine bodyPost_ret0 rfl rfl ?_
  refine ⟨rfl, ?_, fr_g (fr_g (fr_g (fr_g (Fr.refl _ _) _) _) _) _⟩
  have hr := I0.out.row
  have hne := I0.out.ne
  refine ⟨?_, ?_⟩
  · have := (((I0.out.tab.set 0 (.slice (some ⟨c, 0, none⟩) n n)).set 1 (.int .i64 0)).set 2 (.int .i64 0)).set 3 (.complex .f64 0 0)
    simpa [Wn.cells, clearW, fl0, HN.out] using this
  · exact (((hr.far (p := ⟨g, 0, none⟩) (Ne.symm hne) _).far (p := ⟨g, 1, none⟩) (Ne.symm hne) _).far (p := ⟨g, 2, none⟩) (Ne.symm hne) _).far (p := ⟨g, 3, none⟩) (Ne.symm hne) _

set_option maxHeartbeats 8000000 in
set_option maxRecDepth 100000 in
theorem of_ok (a b : Nat) (ha : a ≤ 4294967295) (hb : b ≤ 4294967295) (w : World) : Calls Try.prog 10 #[.int .i64 a, .int .i64 b] w fun e w' => e = .returned (.complex .f64 (fl a) (fl b)) ∧ w = w' := by
  have EA := Aside0.mk (cutQ_id a 0 4294967295 (by omega) (by omega))
  have EB := Aside0.mk (cutQ_id b 0 4294967295 (by omega) (by omega))
  have fa := foi a
  have fb := foi b
  clear ha hb
  go_enter Try.func10, Try.ntmps10
  go_wp2_with (first | (go_at_call 19; (with_reducible refine (cut_ok a 0 4294967295 (by decide) _).mono ?_); rintro e wK ⟨rfl, rfl⟩; rw [EA.out]) | (go_at_call 19; (with_reducible refine (cut_ok b 0 4294967295 (by decide) _).mono ?_); rintro e wK ⟨rfl, rfl⟩; rw [EB.out]))
  first | go_ret | go_ret2 | ((try simp only [Exit.inBlock, Exit.then]); refine bodyPost_ret (results_tmp3 rfl _ _ _) rfl ?_) | go_end0 | refine bodyPost_ret0 rfl rfl ?_
  exact ⟨rfl, rfl⟩

end Go.Proofs.Ytoaoebkllcmanaa.TaB
