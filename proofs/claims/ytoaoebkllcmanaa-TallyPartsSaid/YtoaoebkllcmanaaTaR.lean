/- Contracts of the window of the reference. -/
import Derived.Test.YtoaoebkllcmanaaTaB
import Derived.Deep.RegionLaw
namespace Go.Proofs.Ytoaoebkllcmanaa.TaR
open Go.RowKit Go.Proofs.YtoaoebkllcmanaaW.PrintWords Go.Proofs.YtoaoebkllcmanaaW.PrintLast Go.Proofs.YtoaoebkllcmanaaW.PrintMore Go.Proofs.Ytoaoebkllcmanaa.K Go.Proofs.Ytoaoebkllcmanaa.TaP Go.Proofs.Ytoaoebkllcmanaa.TaA Go.Proofs.Ytoaoebkllcmanaa.TaB
set_option linter.unusedVariables false
set_option linter.unusedSimpArgs false
attribute [local go_sem] max2_int min2_int max_two min_two

theorem cell_blk {w w' : World} {p : Addr} (h : w'.heap[p.block]? = w.heap[p.block]?) : w'.cell? p = w.cell? p := by simp [World.cell?, h]
/-- A row of notes that lies from block B on. -/
structure RowB (B : Nat) (w : World) (A : Option Addr) (n k : Nat) (h : List Bool) : Prop where
  len : h.length = n
  cap : n ≤ k
  blk : 0 < n → ∃ b off, A = some ⟨b, off, none⟩ ∧ B ≤ b ∧ b < w.heap.size ∧ ∀ i, i < n → w.cell? ⟨b, off + i, none⟩ = some (.bool (h.getD i false))
theorem RowB.nil (B : Nat) (w : World) : RowB B w none 0 0 [] := ⟨rfl, Nat.le_refl _, fun h => absurd h (by omega)⟩
theorem RowB.fr {B n k : Nat} {w w' : World} {A : Option Addr} {h : List Bool} {S : Nat → Prop} (r : RowB B w A n k h) (hf : Fr S w w') (hS : ∀ j, B ≤ j → j < w.heap.size → ¬ S j) : RowB B w' A n k h :=
  ⟨r.len, r.cap, fun h0 => by
    obtain ⟨b, off, e, h1, h2, h3⟩ := r.blk h0
    exact ⟨b, off, e, h1, Nat.lt_of_lt_of_le h2 hf.size, fun i hi => (cell_blk (hf.block b h2 (hS b h1 h2))).trans (h3 i hi)⟩⟩
theorem RowB.below {B n k : Nat} {w w' : World} {A : Option Addr} {h : List Bool} (r : RowB B w A n k h) (hb : Below w.heap.size w w') : RowB B w' A n k h :=
  r.fr (S := fun _ => False) (Fr.of_below hb) (fun _ _ _ h => h)
theorem RowB.rds {B n k : Nat} {w : World} {A : Option Addr} {h : List Bool} (r : RowB B w A n k h) (hm : n ≤ 9223372036854775807) : Rds Kd.bool w A n k h := by
  have hl := r.len
  subst hl
  refine ⟨⟨rfl, hm, fun h0 => ?_⟩, rfl, r.cap⟩
  obtain ⟨b, off, e, h1, h2, h3⟩ := r.blk h0
  refine ⟨_, e, fun j p hj => ⟨[.bool p], rfl, rfl, fun i u hu => ?_⟩⟩
  have hj2 : j < h.length := (List.getElem?_eq_some_iff.1 hj).1
  cases i with
  | zero =>
    simp at hu
    subst hu
    have := h3 j hj2
    rw [List.getD_eq_getElem?_getD, hj] at this
    rw [add_at, show j * Kd.bool.sz + 0 = j from Nat.mul_one j]
    exact this
  | succ i => simp at hu
/-- The reference's window: of n notes, the last ones h. -/
structure IsR (B : Nat) (w : World) (r n : Nat) (h : List Bool) : Prop where
  out : ∃ A k, Ob w r 46 [.int .i64 n, .slice A h.length k] ∧ RowB B w A h.length k h
section
variable {B r n : Nat} {w w' : World} {h : List Bool} {S : Nat → Prop}
theorem IsR.fr (i : IsR B w r n h) (hf : Fr S w w') (hr : ¬ S r) (hS : ∀ j, B ≤ j → j < w.heap.size → ¬ S j) : IsR B w' r n h := by
  obtain ⟨A, k, h1, h2⟩ := i.out
  exact ⟨A, k, h1.fr hf hr, h2.fr hf hS⟩
theorem IsR.below (i : IsR B w r n h) (hb : Below w.heap.size w w') : IsR B w' r n h := by
  obtain ⟨A, k, h1, h2⟩ := i.out
  exact ⟨A, k, h1.below hb, h2.below hb⟩
theorem IsR.lt (i : IsR B w r n h) : r < w.heap.size := by
  obtain ⟨A, k, h1, h2⟩ := i.out
  exact h1.lt
end
theorem own_some {B n : Nat} {w : World} {v : Value} {xs : List Bool} (h : Own Kd.bool 4 B w v xs) (hn : xs.length = n) (h0 : 0 < n) :
    ∃ b cp, v = .slice (some ⟨b, 0, none⟩) n cp ∧ B ≤ b ∧ b < w.heap.size ∧ n ≤ cp ∧ ∀ i, i < n → w.cell? ⟨b, i, none⟩ = some (.bool (xs.getD i false)) := by
  obtain ⟨A, c, rfl, hc⟩ := h.sliceN hn
  obtain ⟨g, hA, h1, h2, _⟩ := Own.elem (enc := Value.bool) (h1 := fun _ => rfl) false h 0 h0
  subst hA
  refine ⟨g, c, rfl, h1, h2, hc, fun i hi => ?_⟩
  obtain ⟨g2, hA, _, _, h3, _⟩ := Own.elem (enc := Value.bool) (h1 := fun _ => rfl) false h i hi
  cases hA
  simpa [rdOf] using h3
theorem row_far {B n k r i : Nat} {w : World} {A : Option Addr} {h : List Bool} (x : RowB B w A n k h) (hr : r < B) (u : Value) : RowB B (w.setCell ⟨r, i, none⟩ u) A n k h :=
  x.fr (Fr.put (Fr.refl (fun x => x = r) w) i u) (fun j hj _ e => by omega)
theorem row_own {B0 B n : Nat} {w : World} {b cp : Nat} {xs : List Bool} (hB : B0 ≤ B) (hn : xs.length = n) (h1 : B ≤ b) (h2 : b < w.heap.size) (h3 : n ≤ cp) (h4 : ∀ i, i < n → w.cell? ⟨b, i, none⟩ = some (.bool (xs.getD i false))) : RowB B0 w (some ⟨b, 0, none⟩) n cp xs :=
  ⟨hn, h3, fun _ => ⟨b, 0, rfl, Nat.le_trans hB h1, h2, fun i hi => by rw [Nat.zero_add]; exact h4 i hi⟩⟩
theorem row_tail {B n k b off : Nat} {w : World} {h : List Bool} (x : RowB B w (some ⟨b, off, none⟩) (n + 1) k h) : RowB B w (some ⟨b, off + 1, none⟩) n (k - 1) h.tail := by
  have hl := x.len
  have hc := x.cap
  refine ⟨by simp [hl], by omega, fun h0 => ?_⟩
  obtain ⟨b', off', e, h1, h2, h3⟩ := x.blk (by omega)
  cases e
  refine ⟨b, off + 1, rfl, h1, h2, fun i hi => ?_⟩
  have := h3 (i + 1) (by omega)
  rw [show off + 1 + i = off + (i + 1) by omega, this]
  simp [List.getD]
theorem infoB : (Try.prog.info? 4).map (fun i => (i.zero, i.size, i.bytes)) = some (some (.bool false), 1, 1) := by kernel_rfl
section
variable {ops : Array Oper} {rest : List Oper} {o : Oper} {a : Act} {Q : Exit → Act → World → Prop}
theorem app_bool {w0 W : World} {B : Nat} {v : Value} {xs : List Bool} {p : Bool}
    (s x : Operand) (hgd : o.guard = none) (ho : o.op = .call { callee := .builtin .append, args := #[s, x], argTypes := #[22, 22] })
    (hs : a.eval s = v) (hx : a.eval x = .slice (some ⟨W.heap.size, 0, none⟩) 1 1)
    (HO : Own Kd.bool 4 B W v xs) (HB : Below B w0 W) (hB : B ≤ W.heap.size) (hl : (xs.length + 1) * 1 ≤ 140737488355328)
    (h : ∀ v1 w1, Own Kd.bool 4 B w1 v1 (xs ++ [p]) → Below B w0 w1 → B ≤ w1.heap.size → wpList Try.prog ops Q rest (a.put o.dst v1) w1) :
    wpList Try.prog ops Q (o :: rest) a (W.alloc (.cells #[.bool p] 4)) := by
  refine Kd.R_append Kd.bool (w0 := w0) B hgd s x 22 4 (.bool false) 1 ho (by kernel_rfl) infoB rfl Nat.zero_lt_one (by decide) v xs p [.bool p] (fun _ => True) (fun _ => False) hs hx rfl (fun _ h => h.elim) (fun _ _ => trivial) HO.out HB hB hl ?_
  intro v1 w1 h1 h2 h3 _
  exact h v1 w1 ⟨h1⟩ h2 (Nat.le_trans hB h3.size)
end
theorem cutr_ok (n l h : Int) (hlh : l < h) (w : World) : Calls Try.prog 21 #[.int .i64 n, .int .i64 l, .int .i64 h] w fun e w' => e = .returned (.int .i64 (cutQ n l h)) ∧ w = w' := by
  by_cases h0 : n < l
  · rw [cutQ, if_pos h0]
    go_enter Try.func21, Try.ntmps21
    go_wp2
    go_ret
    exact ⟨rfl, rfl⟩
  · by_cases h1 : n > h
    · rw [cutQ, if_neg h0, if_pos h1]
      go_enter Try.func21, Try.ntmps21
      go_wp2
      go_ret
      exact ⟨rfl, rfl⟩
    · rw [cutQ, if_neg h0, if_neg h1]
      go_enter Try.func21, Try.ntmps21
      go_wp2
      go_ret
      exact ⟨rfl, rfl⟩
set_option maxHeartbeats 8000000 in
set_option maxRecDepth 100000 in
theorem newr_ok (n : Int) (B : Nat) (w : World) : Calls Try.prog 11 #[.int .i64 n] w fun e w' => ∃ r, e = .returned (.pointer (some ⟨r, 0, none⟩)) ∧ w.heap.size ≤ r ∧ IsR B w' r (sizeW n) [] ∧ Below w.heap.size w w' := by
  have EC := Aside0.mk (sizeW_cut n)
  go_enter Try.func11, Try.ntmps11
  go_wp2_with (first | (go_at_call 21; (with_reducible refine (cutr_ok n 1 1000 (by decide) _).mono ?_); rintro e wK ⟨rfl, rfl⟩; rw [EC.out]))
  first | go_ret | go_ret2 | ((try simp only [Exit.inBlock, Exit.then]); refine bodyPost_ret (results_tmp3 rfl _ _ _) rfl ?_) | go_end0 | refine bodyPost_ret0 rfl rfl ?_
  exact ⟨_, rfl, Nat.le_refl _, ⟨none, 0, Ob.new _ 46 _, RowB.nil _ _⟩, below_alloc (Below.refl _ _) _⟩
set_option maxHeartbeats 8000000 in
set_option maxRecDepth 100000 in
theorem clearr_ok (B r n : Nat) (h : List Bool) (w : World) (i : IsR B w r n h) : Calls Try.prog 13 #[.pointer (some ⟨r, 0, none⟩)] w fun e w' => e = .returned (.tuple #[]) ∧ IsR B w' r n [] ∧ Fr (fun k => k = r) w w' := by
  obtain ⟨A, k, I, R⟩ := i.out
  have c1 := I.at_ 1 (v := .slice A h.length k) rfl
  have f1 := I.frozen 1
  have I0 := Aside0.mk I
  clear i I R
  go_enter Try.func13, Try.ntmps13
  go_wp2_with fail
  first | go_ret | go_ret2 | ((try simp only [Exit.inBlock, Exit.then]); refine bodyPost_ret (results_tmp3 rfl _ _ _) rfl ?_) | go_end0 | refine bodyPost_ret0 rfl rfl ?_
  exact ⟨rfl, ⟨none, 0, I0.out.set 1 (.slice none 0 0), RowB.nil _ _⟩, Fr.put (Fr.refl _ _) 1 _⟩

set_option maxHeartbeats 8000000 in
set_option maxRecDepth 100000 in
theorem noter_ok (B r n : Nat) (h : List Bool) (ok : Bool) (hn : h.length ≤ n) (hn1 : 1 ≤ n) (hn2 : n ≤ 1000) (w : World) (hB : B ≤ w.heap.size) (hrB : r < B) (i : IsR B w r n h) :
    Calls Try.prog 14 #[.pointer (some ⟨r, 0, none⟩), .bool ok] w fun e w' => e = .returned (.tuple #[]) ∧ IsR B w' r n (keep n h ok) ∧ Fr (fun k => k = r) w w' := by
  obtain ⟨A, k, I, R⟩ := i.out
  obtain ⟨m, hm⟩ : ∃ m, m = h.length := ⟨_, rfl⟩
  rw [← hm] at I R hn
  have c0 := I.at_ 0 (v := .int .i64 n) rfl
  have c1 := I.at_ 1 (v := .slice A m k) rfl
  have I0 := Aside0.mk I
  have R0 := Aside0.mk R
  have HR := Aside0.mk (R.rds (by omega))
  have HM := Aside0.mk hm
  have HB := Aside0.mk hB
  have HRB := Aside0.mk hrB
  have HL1 : Aside0 ((([] : List Bool).length + m) * 1 ≤ 140737488355328) := ⟨by simp; omega⟩
  have HL2 : Aside0 ((h.length + 1) * 1 ≤ 140737488355328) := ⟨by rw [← hm]; omega⟩
  by_cases hk : m = n
  · have EK : Aside0 (keep n h ok = (h ++ [ok]).tail) := ⟨by
      unfold keep
      rw [if_pos (by omega)]
      rcases h with _ | ⟨x, h⟩
      · simp at hm
        omega
      · rfl⟩
    clear i I R hm hB hrB
    subst hk
    go_enter Try.func14, Try.ntmps14
    go_wp2_with (first
      | (at_builtin; refine app_row (enc := Value.bool) (h1 := fun _ => rfl) false Try.underlying22 infoB rfl (by decide) (.const (.slice none 0 0)) (.tmp 8) rfl rfl rfl rfl (Own.nil Kd.bool 4 w.heap.size w) HR.out (Below.refl _ _) (Nat.le_refl _) HL1.out ?_; intro v1 w1 ho hb _; have O1 := Aside0.mk (show Own Kd.bool 4 w.heap.size w1 v1 h from ho); have B1 := Aside0.mk hb; clear ho hb)
      | (at_builtin; refine app_bool (.tmp 9) (.tmp 11) rfl rfl rfl rfl O1.out B1.out B1.out.size HL2.out ?_; intro v2 w2 ho hb _; obtain ⟨b, cp, hv, hb1, hb2, hcp, hce⟩ := own_some (n := m + 1) ho (by simp [HM.out]) (by omega); subst hv; have RW := Aside0.mk (row_own (n := m + 1) HB.out (by simp [HM.out]) hb1 hb2 hcp hce); have B2 := Aside0.mk hb; have c0 := (I0.out.below hb).at_ 0 (v := .int .i64 m) rfl; have c1 := (I0.out.below hb).at_ 1 (v := .slice A m k) rfl; have f1 := (I0.out.below hb).frozen 1; have BG := Aside0.mk hb1; clear ho hb hce hb1 hb2))
    have I2' := (I0.out.below B2.out).set 1 (.slice (some ⟨b, 0, none⟩) (m + 1) cp)
    have F2' := Fr.put (Fr.of_below (S := (fun k => k = r)) B2.out) 1 (.slice (some ⟨b, 0, none⟩) (m + 1) cp)
    have R2' := row_far (r := r) (i := 1) RW.out HRB.out (.slice (some ⟨b, 0, none⟩) (m + 1) cp)
    clear B2 RW c0 c1 f1 O1 B1
    generalize w2.setCell ⟨r, 1, none⟩ (.slice (some ⟨b, 0, none⟩) (m + 1) cp) = w3 at I2' F2' R2' ⊢
    have c0 := I2'.at_ 0 (v := .int .i64 m) rfl
    have c1 := I2'.at_ 1 (v := .slice (some ⟨b, 0, none⟩) (m + 1) cp) rfl
    have f1 := I2'.frozen 1
    have I2 := Aside0.mk I2'
    have F2 := Aside0.mk F2'
    have R2 := Aside0.mk R2'
    clear I2' F2' R2'
    refine region_still (by kernel_rfl) (by kernel_rfl) ?_
    intro w4 hb4 hc4 hf4 hh4
    replace c0 := (hc4 _).trans c0
    replace c1 := (hc4 _).trans c1
    replace f1 := (hf4 _).trans f1
    have I4 := Aside0.mk (I2.out.below hb4)
    have F4 := Aside0.mk (F2.out.comp (Fr.of_below hb4))
    have R4 := Aside0.mk (R2.out.below hb4)
    clear I2 F2 R2
    clear hb4 hc4 hf4 hh4
    repeat still_step
    refine wpStill_nil ?_
    go_wp2_with fail
    first | go_ret | go_ret2 | ((try simp only [Exit.inBlock, Exit.then]); refine bodyPost_ret (results_tmp3 rfl _ _ _) rfl ?_) | go_end0 | refine bodyPost_ret0 rfl rfl ?_
    have R5 := row_far (r := r) (i := 1) (row_tail R4.out) HRB.out (.slice (some ⟨b, 1, none⟩) m (cp - 1))
    have I5 := I4.out.set 1 (.slice (some ⟨b, 1, none⟩) m (cp - 1))
    have hl : (h ++ [ok]).tail.length = m := by simp [HM.out]
    exact ⟨rfl, by rw [EK.out]; exact ⟨some ⟨b, 1, none⟩, cp - 1, by rw [hl]; exact I5, by rw [hl]; exact R5⟩, Fr.put F4.out 1 _⟩
  · have EK : Aside0 (keep n h ok = h ++ [ok]) := ⟨by unfold keep; rw [if_neg (by omega)]⟩
    have hk2 : m + 1 ≤ n := by omega
    clear i I R hm hB hrB hk
    go_enter Try.func14, Try.ntmps14
    go_wp2_with (first
      | (at_builtin; refine app_row (enc := Value.bool) (h1 := fun _ => rfl) false Try.underlying22 infoB rfl (by decide) (.const (.slice none 0 0)) (.tmp 8) rfl rfl rfl rfl (Own.nil Kd.bool 4 w.heap.size w) HR.out (Below.refl _ _) (Nat.le_refl _) HL1.out ?_; intro v1 w1 ho hb _; have O1 := Aside0.mk (show Own Kd.bool 4 w.heap.size w1 v1 h from ho); have B1 := Aside0.mk hb; clear ho hb)
      | (at_builtin; refine app_bool (.tmp 9) (.tmp 11) rfl rfl rfl rfl O1.out B1.out B1.out.size HL2.out ?_; intro v2 w2 ho hb _; obtain ⟨b, cp, hv, hb1, hb2, hcp, hce⟩ := own_some (n := m + 1) ho (by simp [HM.out]) (by omega); subst hv; have RW := Aside0.mk (row_own (n := m + 1) HB.out (by simp [HM.out]) hb1 hb2 hcp hce); have B2 := Aside0.mk hb; have c0 := (I0.out.below hb).at_ 0 (v := .int .i64 n) rfl; have c1 := (I0.out.below hb).at_ 1 (v := .slice A m k) rfl; have f1 := (I0.out.below hb).frozen 1; have BG := Aside0.mk hb1; clear ho hb hce hb1 hb2))
    have I2' := (I0.out.below B2.out).set 1 (.slice (some ⟨b, 0, none⟩) (m + 1) cp)
    have F2' := Fr.put (Fr.of_below (S := (fun k => k = r)) B2.out) 1 (.slice (some ⟨b, 0, none⟩) (m + 1) cp)
    have R2' := row_far (r := r) (i := 1) RW.out HRB.out (.slice (some ⟨b, 0, none⟩) (m + 1) cp)
    clear B2 RW c0 c1 f1 O1 B1
    generalize w2.setCell ⟨r, 1, none⟩ (.slice (some ⟨b, 0, none⟩) (m + 1) cp) = w3 at I2' F2' R2' ⊢
    have c0 := I2'.at_ 0 (v := .int .i64 n) rfl
    have c1 := I2'.at_ 1 (v := .slice (some ⟨b, 0, none⟩) (m + 1) cp) rfl
    have f1 := I2'.frozen 1
    have I2 := Aside0.mk I2'
    have F2 := Aside0.mk F2'
    have R2 := Aside0.mk R2'
    clear I2' F2' R2'
    refine region_still (by kernel_rfl) (by kernel_rfl) ?_
    intro w4 hb4 hc4 hf4 hh4
    replace c0 := (hc4 _).trans c0
    replace c1 := (hc4 _).trans c1
    replace f1 := (hf4 _).trans f1
    have I4 := Aside0.mk (I2.out.below hb4)
    have F4 := Aside0.mk (F2.out.comp (Fr.of_below hb4))
    have R4 := Aside0.mk (R2.out.below hb4)
    clear I2 F2 R2
    clear hb4 hc4 hf4 hh4
    repeat still_step
    refine wpStill_nil ?_
    go_wp2_with fail
    first | go_ret | go_ret2 | ((try simp only [Exit.inBlock, Exit.then]); refine bodyPost_ret (results_tmp3 rfl _ _ _) rfl ?_) | go_end0 | refine bodyPost_ret0 rfl rfl ?_
    exact ⟨rfl, by rw [EK.out]; exact ⟨some ⟨b, 0, none⟩, cp, by simpa [HM.out] using I4.out, by simpa [HM.out] using R4.out⟩, F4.out⟩

theorem count_take_succ (h : List Bool) (j : Nat) (hj : j < h.length) : (h.take (j + 1)).count false = (h.take j).count false + if h.getD j false = true then 0 else 1 := by
  rw [List.take_succ_eq_append_getElem hj, List.count_append]
  have : h.getD j false = h[j] := by simp [List.getD, hj]
  rw [this]
  cases h[j] <;> simp
set_option maxHeartbeats 8000000 in
set_option maxRecDepth 100000 in
theorem badr_ok (B r n : Nat) (h : List Bool) (hl : h.length ≤ 1000) (w : World) (i : IsR B w r n h) :
    Calls Try.prog 23 #[.pointer (some ⟨r, 0, none⟩)] w fun e w' => e = .returned (.int .i64 (h.count false : Nat)) ∧ w' = w := by
  obtain ⟨A, k, I, R⟩ := i.out
  obtain ⟨m, hm⟩ : ∃ m, m = h.length := ⟨_, rfl⟩
  rw [← hm] at I R hl
  have HM := Aside0.mk hm
  have I0 := Aside0.mk I
  have R0 := Aside0.mk R
  have c1 := I.at_ 1 (v := .slice A m k) rfl
  clear i I R hm
  go_enter Try.func23, Try.ntmps23
  go_wp2_with fail
  go_loopg [3, 4] (m + 1) (fun kq v3 v4 w' => ∃ j z : Nat, v4 = .int .i64 j ∧ v3 = .int .i64 z ∧ j ≤ m ∧ z ≤ j ∧ kq = m + 1 - j ∧ Aside0 (z = (h.take j).count false) ∧ w' = w)
  case atStart => exact ⟨0, 0, rfl, rfl, by omega, by omega, by omega, ⟨by simp⟩, rfl⟩
  case round =>
    obtain ⟨j, z, rfl, rfl, hj, hz, hkq, Z, rfl⟩ := hrel
    by_cases hlt : j < m
    · obtain ⟨b, off, rfl, _, _, hc⟩ := R0.out.blk (by omega)
      have x0 := hc j hlt
      obtain ⟨x, hx⟩ : ∃ x, x = h.getD j false := ⟨_, rfl⟩
      have Z2 := count_take_succ h j (by rw [← HM.out]; exact hlt)
      rw [← hx] at x0 Z2
      have e1 : IntKind.i64.wrap ((j : Int) + 1) = (j : Int) + 1 := w64 (by omega) (by omega)
      have e2 : IntKind.i64.wrap ((z : Int) + 1) = (z : Int) + 1 := w64 (by omega) (by omega)
      have Z2 := Aside0.mk Z2
      clear hc hx
      cases x
      · go_wp2_with fail
        go_roundg (m - j)
        case measure => omega
        case rel => exact ⟨j + 1, z + 1, by go_num, by go_num, by omega, by omega, by omega, ⟨by rw [Z2.out, Z.out]; rfl⟩, rfl⟩
      · go_wp2_with fail
        go_roundg (m - j)
        case measure => omega
        case rel => exact ⟨j + 1, z, by go_num, by simp, by omega, by omega, by omega, ⟨by rw [Z2.out, Z.out]; rfl⟩, rfl⟩
    · obtain rfl : j = m := by omega
      have hz2 : z = h.count false := by rw [Z.out, HM.out, List.take_length]
      go_wp2_with fail
      first | go_ret | go_ret2 | ((try simp only [Exit.inBlock, Exit.then]); refine bodyPost_ret (results_tmp3 rfl _ _ _) rfl ?_) | go_end0 | refine bodyPost_ret0 rfl rfl ?_
      exact ⟨by rw [hz2]; rfl, rfl⟩
set_option maxHeartbeats 8000000 in
set_option maxRecDepth 100000 in
theorem tally_ok (a b : Nat) (ha : a ≤ 4294967295) (hb : b ≤ 4294967295) (w : World) : Calls Try.prog 22 #[.int .i64 a, .int .i64 b] w fun e w' => e = .returned (.complex .f64 (fl a) (fl b)) ∧ w = w' := by
  have EA := Aside0.mk (cutQ_id a 0 4294967295 (by omega) (by omega))
  have EB := Aside0.mk (cutQ_id b 0 4294967295 (by omega) (by omega))
  have fa := foi a
  have fb := foi b
  clear ha hb
  go_enter Try.func22, Try.ntmps22
  go_wp2_with (first | (go_at_call 21; (with_reducible refine (cutr_ok a 0 4294967295 (by decide) _).mono ?_); rintro e wK ⟨rfl, rfl⟩; rw [EA.out]) | (go_at_call 21; (with_reducible refine (cutr_ok b 0 4294967295 (by decide) _).mono ?_); rintro e wK ⟨rfl, rfl⟩; rw [EB.out]))
  first | go_ret | go_ret2 | ((try simp only [Exit.inBlock, Exit.then]); refine bodyPost_ret (results_tmp3 rfl _ _ _) rfl ?_) | go_end0 | refine bodyPost_ret0 rfl rfl ?_
  exact ⟨rfl, rfl⟩
theorem tally_s (a b : Nat) (ha : a ≤ 4294967295) (hb : b ≤ 4294967295) (w : World) : Calls Try.prog 22 #[.int .i64 a, .int .i64 b] w fun e w' => e = .returned (.complex .f64 (fl a) (fl b)) ∧ w' = w := (tally_ok a b ha hb w).mono fun _ _ h => ⟨h.1, h.2.symm⟩
set_option maxHeartbeats 8000000 in
set_option maxRecDepth 100000 in
theorem sumr_ok (B r n : Nat) (h : List Bool) (hl : h.length ≤ 1000) (w : World) (i : IsR B w r n h) :
    Calls Try.prog 15 #[.pointer (some ⟨r, 0, none⟩)] w fun e w' => e = .returned (.complex .f64 (fl (h.count true)) (fl (h.count false))) ∧ w'.heap = w.heap ∧ Below w.heap.size w w' := by
  obtain ⟨A, k, I, R⟩ := i.out
  obtain ⟨m, hm⟩ : ∃ m, m = h.length := ⟨_, rfl⟩
  have cb := count_both h
  rw [← hm] at I R hl cb
  have HM := Aside0.mk hm
  have hI := i
  obtain ⟨z, hz⟩ : ∃ z, z = h.count false := ⟨_, rfl⟩
  obtain ⟨y, hy⟩ : ∃ y, y = h.count true := ⟨_, rfl⟩
  rw [← hz, ← hy] at cb ⊢
  have HZ := Aside0.mk hz
  have c1 := I.at_ 1 (v := .slice A m k) rfl
  have e1 : IntKind.i64.wrap ((m : Int) - (z : Int)) = (y : Int) := by rw [w64 (by omega) (by omega)]; omega
  have II := Aside0.mk i
  have HL := Aside0.mk (show h.length ≤ 1000 by rw [← HM.out]; exact hl)
  clear i I R hm hI hz hy
  go_enter Try.func15, Try.ntmps15
  go_wp2_with fail
  refine region_still (by kernel_rfl) (by kernel_rfl) ?_
  intro w1 hb1 hc1 hf1 hh1
  replace c1 := (hc1 _).trans c1
  have I1 := Aside0.mk (II.out.below hb1)
  have B1 := Aside0.mk hb1
  have H1 := Aside0.mk hh1
  clear hb1 hc1 hf1 hh1
  repeat still_step
  still_call (badr_ok B r n h HL.out _ I1.out)
  repeat still_step
  still_call (badr_ok B r n h HL.out _ I1.out)
  rw [← HZ.out]
  repeat still_step
  still_call (tally_s y z (by omega) (by omega) _)
  repeat still_step
  refine wpStill_nil ?_
  go_wp2_with fail
  first | go_ret | go_ret2 | ((try simp only [Exit.inBlock, Exit.then]); refine bodyPost_ret (results_tmp3 rfl _ _ _) rfl ?_) | go_end0 | refine bodyPost_ret0 rfl rfl ?_
  exact ⟨rfl, H1.out, B1.out⟩

end Go.Proofs.Ytoaoebkllcmanaa.TaR
