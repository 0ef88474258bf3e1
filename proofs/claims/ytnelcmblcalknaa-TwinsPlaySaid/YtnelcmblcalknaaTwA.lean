/- Contracts of a table: first, raise, New, Clear. -/
import Derived.Test.YtnelcmblcalknaaTwP
import Derived.Lib.SliceRun
namespace Go.Proofs.Ytnelcmblcalknaa.TwA
open Go.RowKit Go.Proofs.YtnelcmblcalknaaW.PrintWords Go.Proofs.YtnelcmblcalknaaW.PrintLast Go.Proofs.YtnelcmblcalknaaW.PrintMore Go.Proofs.Ytnelcmblcalknaa.K Go.Proofs.Ytnelcmblcalknaa.TwP
set_option linter.unusedVariables false
set_option linter.unusedSimpArgs false
attribute [local go_sem] max2_int min2_int max_two min_two

theorem fr_g {w w' : World} {g c i : Nat} (h : Fr (fun k => k = g ∨ k = c) w w') (u : Value) : Fr (fun k => k = g ∨ k = c) w (w'.setCell ⟨g, i, none⟩ u) := h.set (p := ⟨g, i, none⟩) (Or.inl rfl) u
theorem fr_c {w w' : World} {g c i : Nat} (h : Fr (fun k => k = g ∨ k = c) w w') (u : Value) : Fr (fun k => k = g ∨ k = c) w (w'.setCell ⟨c, i, none⟩ u) := h.set (p := ⟨c, i, none⟩) (Or.inr rfl) u
theorem put_row {w : World} {g c : Nat} {T : Tb} (h : Is w g c T) (i : Nat) (x : Bool) : Is (w.setCell ⟨c, i, none⟩ (.bool x)) g c { T with came := T.came.set i x } :=
  ⟨by have := h.tab.far (p := ⟨c, i, none⟩) h.ne (.bool x); simpa [Tb.cells] using this, by have := h.row.set i (.bool x); rwa [map_set] at this, h.ne⟩
theorem row_at {w : World} {g c : Nat} {T : Tb} (h : Is w g c T) (i : Nat) (hi : i < T.came.length) : w.cell? ⟨c, i, none⟩ = some (.bool (T.came.getD i false)) ∧ w.frozen? ⟨c, i, none⟩ = false :=
  ⟨h.row.at_ i (map_at _ i hi), h.row.frozen i⟩
set_option maxHeartbeats 8000000 in
set_option maxRecDepth 100000 in
theorem first_ok (g c : Nat) (T : Tb) (ok : Ok T) (b : Nat) (hb : b < T.came.length) (w : World) (h : Is w g c T) :
    Calls Try.prog 15 #[.pointer (some ⟨g, 0, none⟩), .int .i64 b] w fun e w' => e = .returned (.bool (firstB T b)) ∧ Is w' g c (firstT T b) ∧ Fr (fun k => k = g ∨ k = c) w w' := by
  have hi := idx_lt ok b
  have q1 := ok.at_lt
  have q2 := ok.len
  have he : ((T.at_ : Int) + (T.came.length : Int) - (b : Int)).tmod (T.came.length : Int) = (idx T b : Int) := by
    unfold idx
    rw [← Int.natCast_add, ← Int.natCast_sub (by omega), Int.tmod_eq_emod_of_nonneg (by omega), ← Int.natCast_emod]
  have e1 : IntKind.i64.wrap ((T.at_ : Int) + (T.came.length : Int)) = (T.at_ : Int) + (T.came.length : Int) := by rw [i64_w]; unfold wrap64; omega
  have e2 : IntKind.i64.wrap ((T.at_ : Int) + (T.came.length : Int) - (b : Int)) = (T.at_ : Int) + (T.came.length : Int) - (b : Int) := by rw [i64_w]; unfold wrap64; omega
  have I0 := Aside0.mk h
  have F0 := Aside0.mk (Fr.refl (fun k => k = g ∨ k = c) w)
  have c2 := h.tab.at_ 2 (v := .int .i64 T.at_) rfl
  have c3 := h.tab.at_ 3 (v := .slice (some ⟨c, 0, none⟩) T.came.length T.came.length) rfl
  obtain ⟨r0, f0⟩ := row_at h (idx T b) hi
  clear h
  unfold firstB firstT
  generalize idx T b = i at *
  obtain ⟨n, hn⟩ : ∃ n, n = T.came.length := ⟨_, rfl⟩
  rw [← hn] at hi q1 q2 he e1 e2 c3 hb
  have HN := Aside0.mk hn
  clear hn
  have n0 : ¬ n = 0 := by omega
  go_enter Try.func15, Try.ntmps15
  go_wp2
  refine region_still (by kernel_rfl) (by kernel_rfl) ?_
  intro w1 hb1 hc1 hf1 hh1
  replace c2 := (hc1 _).trans c2
  replace c3 := (hc1 _).trans c3
  replace r0 := (hc1 _).trans r0
  replace f0 := (hf1 _).trans f0
  have I1 := Aside0.mk (I0.out.heap hh1)
  have F1 := Aside0.mk (F0.out.comp (Fr.of_below hb1))
  clear hb1 hc1 hf1 hh1
  repeat still_step
  refine wpStill_nil ?_
  go_wp2_with fail
  first | go_ret | go_ret2 | go_end0
  exact ⟨rfl, put_row I1.out i true, fr_c F1.out _⟩
theorem put_at {w : World} {g c : Nat} {T : Tb} (h : Is w g c T) (k : Nat) : Is (w.setCell ⟨g, 2, none⟩ (.int .i64 k)) g c { T with at_ := k } :=
  ⟨h.tab.set 2 (.int .i64 k), h.row.far (p := ⟨g, 2, none⟩) (Ne.symm h.ne) _, h.ne⟩
set_option maxHeartbeats 8000000 in
set_option maxRecDepth 100000 in
theorem raise_ok (g c : Nat) (T : Tb) (ok : Ok T) (w : World) (h : Is w g c T) :
    Calls Try.prog 16 #[.pointer (some ⟨g, 0, none⟩)] w fun e w' => e = .returned (.tuple #[]) ∧ Is w' g c (raiseT T) ∧ Fr (fun k => k = g ∨ k = c) w w' := by
  have q1 := ok.at_lt
  have q2 := ok.len
  have he : ((T.at_ : Int) + 1).tmod (T.came.length : Int) = (((T.at_ + 1) % T.came.length : Nat) : Int) := by
    rw [Int.tmod_eq_emod_of_nonneg (by omega), Int.natCast_emod]
    rfl
  have hi : (T.at_ + 1) % T.came.length < T.came.length := Nat.mod_lt _ (by omega)
  have e1 : IntKind.i64.wrap ((T.at_ : Int) + 1) = (T.at_ : Int) + 1 := by rw [i64_w]; unfold wrap64; omega
  have I0 := Aside0.mk h
  have F0 := Aside0.mk (Fr.refl (fun k => k = g ∨ k = c) w)
  have c2 := h.tab.at_ 2 (v := .int .i64 T.at_) rfl
  have f2 := h.tab.frozen 2
  have c3 := h.tab.at_ 3 (v := .slice (some ⟨c, 0, none⟩) T.came.length T.came.length) rfl
  clear h
  unfold raiseT
  generalize (T.at_ + 1) % T.came.length = i at *
  obtain ⟨n, hn⟩ : ∃ n, n = T.came.length := ⟨_, rfl⟩
  rw [← hn] at hi q1 q2 he c3
  have HN := Aside0.mk hn
  clear hn
  have n0 : ¬ n = 0 := by omega
  go_enter Try.func16, Try.ntmps16
  go_wp2
  refine region_tail 14 (by kernel_rfl) (by kernel_rfl) ?_
  intro w1 hb1 hc1 hf1 hh1
  replace c2 := (hc1 _).trans c2
  replace f2 := (hf1 _).trans f2
  replace c3 := (hc1 _).trans c3
  have I1 := Aside0.mk (I0.out.heap hh1)
  have F1 := Aside0.mk (F0.out.comp (Fr.of_below hb1))
  clear hb1 hc1 hf1 hh1
  simp only [List.take_succ_cons, List.take_zero, List.drop_succ_cons, List.drop_zero]
  repeat still_step
  refine wpStill_nil ?_
  go_wp2_with fail
  have I2' := put_at I1.out i
  have F2' := fr_g (i := 2) F1.out (.int .i64 i)
  generalize w1.setCell ⟨g, 2, none⟩ (.int .i64 i) = w2 at I2' F2' ⊢
  clear c2 f2 c3
  have c2 := I2'.tab.at_ 2 (v := .int .i64 i) rfl
  have c3 := I2'.tab.at_ 3 (v := .slice (some ⟨c, 0, none⟩) T.came.length T.came.length) rfl
  obtain ⟨r0, f0⟩ := row_at I2' i (by show i < T.came.length; rw [← HN.out]; exact hi)
  rw [← HN.out] at c3
  have I2 := Aside0.mk I2'
  have F2 := Aside0.mk F2'
  clear I2' F2'
  refine region_tail 9 (by kernel_rfl) (by kernel_rfl) ?_
  intro w3 hb3 hc3 hf3 hh3
  replace c2 := (hc3 _).trans c2
  replace c3 := (hc3 _).trans c3
  replace r0 := (hc3 _).trans r0
  replace f0 := (hf3 _).trans f0
  have I3 := Aside0.mk (I2.out.heap hh3)
  have F3 := Aside0.mk (F2.out.comp (Fr.of_below hb3))
  clear hb3 hc3 hf3 hh3
  simp only [List.take_succ_cons, List.take_zero, List.drop_succ_cons, List.drop_zero]
  repeat still_step
  refine wpStill_nil ?_
  go_wp2_with fail
  first | go_ret | go_ret2 | go_end0
  exact ⟨rfl, put_row I3.out i false, fr_c F3.out _⟩
theorem sets (t : TypeId) (g : Nat) : ∀ (vs pre old post : List Value) (w : World), old.length = vs.length → Ob w g t (pre ++ (old ++ post)) → Ob (w.setCells g pre.length vs) g t (pre ++ (vs ++ post)) := by
  intro vs
  induction vs with
  | nil =>
    intro pre old post w hl h
    obtain rfl : old = [] := List.eq_nil_of_length_eq_zero hl
    exact h
  | cons v vs ih =>
    intro pre old post w hl h
    cases old with
    | nil => simp at hl
    | cons x old =>
      have h2 := h.set pre.length v
      rw [List.set_append_right _ _ (Nat.le_refl _), Nat.sub_self, List.cons_append, List.set_cons_zero] at h2
      have h3 := ih (pre ++ [v]) old post (w.setCell ⟨g, pre.length, none⟩ v) (by simpa using hl) (by simpa using h2)
      simpa [World.setCells] using h3
theorem sets_far (t : TypeId) (g c : Nat) (hne : g ≠ c) (l : List Value) : ∀ (vs : List Value) (o : Nat) (w : World), Ob w g t l → Ob (w.setCells c o vs) g t l := by
  intro vs
  induction vs with
  | nil => intro o w h; exact h
  | cons v vs ih => intro o w h; exact ih _ _ (h.far (p := ⟨c, o, none⟩) hne v)
theorem fr_sets (g c : Nat) (w0 : World) : ∀ (vs : List Value) (o : Nat) (w : World), Fr (fun k => k = g ∨ k = c) w0 w → Fr (fun k => k = g ∨ k = c) w0 (w.setCells c o vs) := by
  intro vs
  induction vs with
  | nil => intro o w h; exact h
  | cons v vs ih => intro o w h; exact ih _ _ (fr_c h v)
theorem put_known {w : World} {g c : Nat} {T : Tb} (h : Is w g c T) (k : Bool) : Is (w.setCell ⟨g, 0, none⟩ (.bool k)) g c { T with known := k } :=
  ⟨h.tab.set 0 (.bool k), h.row.far (p := ⟨g, 0, none⟩) (Ne.symm h.ne) _, h.ne⟩
theorem put_high {w : World} {g c : Nat} {T : Tb} (h : Is w g c T) (k : Int) : Is (w.setCell ⟨g, 1, none⟩ (.int .u32 k)) g c { T with high := k } :=
  ⟨h.tab.set 1 (.int .u32 k), h.row.far (p := ⟨g, 1, none⟩) (Ne.symm h.ne) _, h.ne⟩
theorem zero4 (w : World) : (zeroValue 4).run Try.prog w = .ok (.bool false) w := by first | rfl | (unfold zeroValue; simp; rfl) | kernel_rfl
set_option maxHeartbeats 8000000 in
set_option maxRecDepth 100000 in
theorem clear_ok (g c : Nat) (T : Tb) (ok : Ok T) (w : World) (h : Is w g c T) :
    Calls Try.prog 12 #[.pointer (some ⟨g, 0, none⟩)] w fun e w' => e = .returned (.tuple #[]) ∧ Is w' g c (clearT T) ∧ Fr (fun k => k = g ∨ k = c) w w' := by
  have q1 := ok.at_lt
  have c3 := h.tab.at_ 3 (v := .slice (some ⟨c, 0, none⟩) T.came.length T.came.length) rfl
  have hrun := Go.Lib.run_clear_slice (P := Try.prog) w 33 4 0 (.bool false) Try.underlying33 zero4 rfl rfl c 0 T.came.length T.came.length (by omega) (fun j hj => by rw [Nat.zero_add, (row_at h j hj).1]; rfl) (fun j hj => by rw [Nat.zero_add]; exact (row_at h j hj).2)
  have I1' : Is (w.setCells c 0 (List.replicate T.came.length (.bool false))) g c { T with came := List.replicate T.came.length false } := by
    refine ⟨?_, ?_, h.ne⟩
    · have := sets_far 38 g c h.ne _ (List.replicate T.came.length (.bool false)) 0 w h.tab
      simpa [Tb.cells] using this
    · have := sets 4 c (List.replicate T.came.length (.bool false)) [] (T.came.map Value.bool) [] w (by simp) (by simpa using h.row)
      simpa using this
  have F1' := fr_sets g c w (List.replicate T.came.length (.bool false)) 0 w (Fr.refl _ w)
  generalize w.setCells c 0 (List.replicate T.came.length (.bool false)) = w1 at hrun I1' F1'
  have c0 := I1'.tab.at_ 0 (v := .bool T.known) rfl
  have f0 := I1'.tab.frozen 0
  have I1 := Aside0.mk I1'
  have F1 := Aside0.mk F1'
  clear h I1' F1'
  go_enter Try.func12, Try.ntmps12
  go_wp2
  first | go_ret | go_ret2 | go_end0
  exact ⟨rfl, put_known I1.out false, fr_g F1.out _⟩
theorem mk33 (m : Nat) (hm : m ≤ 4096) (W : World) : (Instr.makeSlice 33 (.int .i64 (m : Int)) (.int .i64 (m : Int))).run Try.prog W = .ok (.slice (some ⟨W.heap.size, 0, none⟩) m m) (W.alloc (.cells (List.replicate m (.bool false)).toArray 4)) := by
  have h := print_make_of (P := Try.prog) 33 4 (.bool false) 1 Try.underlying33 rfl rfl (by decide) m (by omega) W
  have e : madeCells #[.bool false] m = (List.replicate m (.bool false)).toArray := by
    apply Array.ext
    · simp [madeCells]
    · intro i h1 h2
      simp [madeCells, Nat.mod_one]
  rwa [e] at h
theorem new_is (w : World) (m : Nat) (h1 : 1 ≤ m) : Is ((w.alloc (.cells (List.replicate m (.bool false)).toArray 4)).alloc (.cells (Tb.cells ⟨false, 0, 0, List.replicate m false⟩ w.heap.size).toArray 38)) (w.heap.size + 1) w.heap.size ⟨false, 0, 0, List.replicate m false⟩ := by
  refine ⟨?_, ?_, by omega⟩
  · have := Ob.new (w.alloc (.cells (List.replicate m (.bool false)).toArray 4)) 38 (Tb.cells ⟨false, 0, 0, List.replicate m false⟩ w.heap.size)
    rwa [show (w.alloc (.cells (List.replicate m (.bool false)).toArray 4)).heap.size = w.heap.size + 1 by simp] at this
  · have := (Ob.new w 4 (List.replicate m (.bool false))).alloc (.cells (Tb.cells ⟨false, 0, 0, List.replicate m false⟩ w.heap.size).toArray 38)
    simpa using this
set_option maxHeartbeats 8000000 in
set_option maxRecDepth 100000 in
theorem new_ok (size : Int) (w : World) : Calls Try.prog 9 #[.int .i64 size] w fun e w' => ∃ g c, e = .returned (.pointer (some ⟨g, 0, none⟩)) ∧ w.heap.size ≤ g ∧ w.heap.size ≤ c ∧ Is w' g c (newT size) ∧ Below w.heap.size w w' := by
  have key : ∀ m : Nat, 1 ≤ m → m ≤ 4096 → sizeQ size = m → (size > 4096 ∧ m = 4096 ∨ size < 1 ∧ m = 1 ∨ size = m) → Calls Try.prog 9 #[.int .i64 size] w fun e w' => ∃ g c, e = .returned (.pointer (some ⟨g, 0, none⟩)) ∧ w.heap.size ≤ g ∧ w.heap.size ≤ c ∧ Is w' g c ⟨false, 0, 0, List.replicate m false⟩ ∧ Below w.heap.size w w' := by
    intro m h1 h2 hs hm
    have I := Aside0.mk (new_is w m h1)
    have hmk := mk33 m h2 w
    clear hs
    obtain ⟨x, hx⟩ : ∃ x : Int, x = (m : Int) := ⟨_, rfl⟩
    rw [← hx] at hmk
    have hmx : size > 4096 ∧ x = 4096 ∨ size ≤ 1 ∧ x = 1 ∨ 1 < size ∧ size = x := by omega
    have hx1 : 1 ≤ x := by omega
    have hx2 : x ≤ 4096 := by omega
    clear hm hx
    rcases hmx with ⟨h3, rfl⟩ | ⟨h3, rfl⟩ | ⟨h3, rfl⟩
    all_goals
      go_enter Try.func9, Try.ntmps9
      go_wp2
      go_ret
      exact ⟨w.heap.size + 1, w.heap.size, by simp, by simp, by simp, by simpa [Tb.cells] using I.out, below_alloc (below_alloc (Below.refl _ _) _) _⟩
  have hb := sizeQ_b size
  exact key (sizeQ size) hb.1 hb.2 rfl (by unfold sizeQ; split <;> (try split) <;> omega)

end Go.Proofs.Ytnelcmblcalknaa.TwA
