/- Contracts of Equal, Clone, small. -/
import Derived.Test.YtcgdnkgnknceiaaK2
import Derived.Test.YtcgdnkgnknceiaaOpenC
import Derived.Lib.LazyBuf
namespace Go.Proofs.Ytcgdnkgnknceiaa.HnA
open Go.RowKit Go.Proofs.YtcgdnkgnknceiaaW.PrintWords Go.Proofs.YtcgdnkgnknceiaaW.PrintLast Go.Proofs.YtcgdnkgnknceiaaW.PrintMore Go.Proofs.Ytcgdnkgnknceiaa.K Go.Proofs.Ytcgdnkgnknceiaa.OpenC
set_option linter.unusedVariables false
set_option linter.unusedSimpArgs false
attribute [local go_sem] max2_int min2_int max_two min_two
theorem map_inj_b (f : Int → UInt8) (hf : ∀ x y : Int, 0 ≤ x ∧ x ≤ 255 → 0 ≤ y ∧ y ≤ 255 → f x = f y → x = y) : ∀ {a b : List Int}, (∀ x ∈ a, 0 ≤ x ∧ x ≤ 255) → (∀ x ∈ b, 0 ≤ x ∧ x ≤ 255) → a.map f = b.map f → a = b := by
  intro a
  induction a with
  | nil => intro b _ _ h; cases b with
    | nil => rfl
    | cons => simp at h
  | cons x a ih =>
    intro b ha hb h
    cases b with
    | nil => simp at h
    | cons y b =>
      simp only [List.map_cons, List.cons.injEq] at h
      rw [hf x y (ha x (by simp)) (hb y (by simp)) h.1, ih (fun z hz => ha z (by simp [hz])) (fun z hz => hb z (by simp [hz])) h.2]
theorem str_inj {a b : List Int} (ha : ∀ x ∈ a, 0 ≤ x ∧ x ≤ 255) (hb : ∀ x ∈ b, 0 ≤ x ∧ x ≤ 255) (h : (strOfNums a).toList = (strOfNums b).toList) : a = b := by
  rw [ByteArray.toList_eq, ByteArray.toList_eq] at h
  simp only [strOfNums] at h
  refine map_inj_b _ ?_ ha hb (by simpa using h)
  intro x y hx hy he
  have := congrArg UInt8.toNat he
  simp at this
  omega

theorem info5 : (Try.prog.info? 5).map (fun i => (i.zero, i.size, i.bytes)) = some (some (.int .u8 0), 1, 1) := by kernel_rfl
theorem lit8 (B : Nat) (w : World) (xs : List Int) (hB : B ≤ w.heap.size) (hm : xs.length ≤ 100) : Own (Kd.int .u8) 5 B (w.alloc (.cells (xs.map (Value.int .u8)).toArray 5)) (.slice (some ⟨w.heap.size, 0, none⟩) xs.length xs.length) xs :=
  lit_own (enc := Value.int .u8) (h1 := fun _ => rfl) 5 B w xs hB (by omega)
theorem lit08 (B : Nat) (w : World) (hB : B ≤ w.heap.size) : Own (Kd.int .u8) 5 B (w.alloc (.cells #[] 5)) (.slice (some ⟨w.heap.size, 0, none⟩) 0 0) [] := lit8 B w [] hB (by simp)
set_option maxHeartbeats 8000000 in
set_option maxRecDepth 100000 in
theorem clone_ok (A : Option Addr) (n c : Nat) (xs : List Int) (w : World) (h : Rds (Kd.int .u8) w A n c xs) (hl : n * 1 ≤ 140737488355328) :
    Calls Try.prog 17 #[.slice A n c] w fun e w' => ∃ v', e = .returned v' ∧ Own (Kd.int .u8) 5 w.heap.size w' v' xs ∧ Below w.heap.size w w' := by
  have HR := Aside0.mk h
  have HL : Aside0 ((([] : List Int).length + n) * 1 ≤ 140737488355328) := ⟨by simpa using hl⟩
  cases A with
  | none =>
    have hn : n = 0 := by
      rcases Nat.eq_zero_or_pos n with h0 | h0
      · exact h0
      · obtain ⟨ad, ha⟩ := h.some_at 0 h0
        cases ha
    subst hn
    obtain rfl : xs = [] := List.eq_nil_of_length_eq_zero h.len.symm
    clear h hl
    have hb : (binOp .eql 26 (.slice none 0 c) (.slice none 0 0)).run Try.prog w = .ok (.bool true) w := Go.run_eql_slice_nil (P := Try.prog) w 26 5 none 0 c Try.underlying26
    go_enter Try.func17, Try.ntmps17
    go_wp2
    go_ret
    exact ⟨_, rfl, Own.nil _ _ _ _, Below.refl _ _⟩
  | some ad =>
    clear h hl
    have hb : (binOp .eql 26 (.slice (some ad) n c) (.slice none 0 0)).run Try.prog w = .ok (.bool false) w := Go.run_eql_slice_nil (P := Try.prog) w 26 5 (some ad) n c Try.underlying26
    go_enter Try.func17, Try.ntmps17
    go_wp2_with (first | (at_builtin; refine app_rowi Try.underlying26 info5 rfl (by decide) (.tmp 5) (.tmp 6) rfl rfl rfl rfl (lit08 w.heap.size w (Nat.le_refl _)) (HR.out.alloc _) (below_alloc (Below.refl _ _) _) (by simp) HL.out ?_; intro v2 w2 ho hb2 _; obtain ⟨A2, c2, hv2, _⟩ := ho.sliceN (n := n) (by simp [HR.out.len]); subst hv2; have O2 := Aside0.mk (show Own (Kd.int .u8) 5 w.heap.size w2 (.slice A2 n c2) xs by simpa using ho); have B2 := Aside0.mk hb2; clear ho hb2))
    go_ret
    exact ⟨_, rfl, O2.out, B2.out⟩


theorem conv26 (A : Option Addr) (n c : Nat) (xs : List Int) (w : World) (h : Rds (Kd.int .u8) w A n c xs) : (convert 26 9 (.slice A n c)).run Try.prog w = .ok (.string (strOfNums xs)) w := Kd.C_string Try.underlying26 Try.underlying5 Try.underlying9 h.row
def oct (l : List Int) : Prop := ∀ x ∈ l, 0 ≤ x ∧ x ≤ 255
set_option maxHeartbeats 8000000 in
set_option maxRecDepth 100000 in
theorem equal_ok (A1 A2 : Option Addr) (n1 n2 c1 c2 : Nat) (a b : List Int) (w : World) (r1 : Rds (Kd.int .u8) w A1 n1 c1 a) (r2 : Rds (Kd.int .u8) w A2 n2 c2 b) (o1 : oct a) (o2 : oct b) :
    Calls Try.prog 16 #[.slice A1 n1 c1, .slice A2 n2 c2] w fun e w' => e = .returned (.bool (decide (a = b))) ∧ w' = w := by
  have h1 := conv26 A1 n1 c1 a w r1
  have h2 := conv26 A2 n2 c2 b w r2
  by_cases h : a = b
  · subst h
    have e : decide (a = a) = true := by simp
    rw [e]
    clear r1 r2 o1 o2 e
    go_enter Try.func16, Try.ntmps16
    go_wp2
    first | go_ret | go_ret2 | ((try simp only [Exit.inBlock, Exit.then]); refine bodyPost_ret (results_tmp3 rfl _ _ _) rfl ?_) | go_end0
    exact ⟨rfl, rfl⟩
  · have e : decide (a = b) = false := by simp [h]
    rw [e]
    have HB : ((strOfNums a).toList == (strOfNums b).toList) = false := beq_eq_false_iff_ne.mpr (fun q => h (str_inj o1 o2 q))
    clear r1 r2 o1 o2 e h
    go_enter Try.func16, Try.ntmps16
    go_wp2
    first | go_ret | go_ret2 | ((try simp only [Exit.inBlock, Exit.then]); refine bodyPost_ret (results_tmp3 rfl _ _ _) rfl ?_) | go_end0
    exact ⟨rfl, rfl⟩
/-- Are the rows short? -/
def smallB (l : List (List Int)) : Bool := l.all (fun x => decide (x.length ≤ 100)) && decide (l.length ≤ 60)
theorem take_sg {α : Type} (l : List α) (i : Nat) (x : α) (h : l[i]? = some x) : l.take (i + 1) = l.take i ++ [x] := by
  have hi := (List.getElem?_eq_some_iff.1 h)
  obtain ⟨hi, e⟩ := hi
  rw [List.take_succ_eq_append_getElem hi, e]
theorem gget {w : World} {A : Option Addr} {n c : Nat} {l : List (List Int)} (h : Grid w A n c l) (i : Nat) (hi : i < n) : ∃ x ad A1 n1 c1, l[i]? = some x ∧ A = some ad ∧ w.cell? (ad.add i) = some (.slice A1 n1 c1) ∧ Rds (Kd.int .u8) w A1 n1 c1 x ∧ oct x ∧ n1 ≤ 9223372036854775807 := by
  have hx : l[i]? = some (l[i]'(by have := h.len; omega)) := by simp
  obtain ⟨ad, v, hA, hc, hv⟩ := h.at_ i _ hx
  obtain ⟨⟨A1, n1, c1, rfl, r, m⟩, o⟩ := hv
  exact ⟨_, ad, A1, n1, c1, hx, hA, hc, r, o, m⟩
set_option maxHeartbeats 8000000 in
set_option maxRecDepth 100000 in
theorem small_ok (A : Option Addr) (n c : Nat) (l : List (List Int)) (w : World) (hr : Grid w A n c l) :
    Calls Try.prog 8 #[.slice A n c] w fun e w' => e = .returned (.bool (smallB l)) ∧ w' = w := by
  have HR := Aside0.mk hr
  have HN := Aside0.mk hr.len
  have hcn := hr.cap
  have hmn := hr.max
  clear hr
  go_enter Try.func8, Try.ntmps8
  go_wp2
  go_loopg [3] (n + 1) (fun kq v3 w' => ∃ (i : Nat), v3 = .int .i64 i ∧ i ≤ n ∧ kq = n + 1 - i ∧ Aside0 (∀ x ∈ l.take i, x.length ≤ 100) ∧ w = w')
  case atStart => exact ⟨0, rfl, by omega, by omega, ⟨fun x hx => by simp at hx⟩, rfl⟩
  case round =>
    obtain ⟨i, rfl, hi, hkq, HG, rfl⟩ := hrel
    by_cases hlt : i < n
    · obtain ⟨x, ad, A1, n1, c1, hx, hA, hc, hr, ho, hm⟩ := gget HR.out i hlt
      cases hA
      have TS := Aside0.mk (take_sg l i x hx)
      have L1 := Aside0.mk hr.len
      have MX := Aside0.mk (List.mem_of_getElem? hx)
      clear hr ho hx
      by_cases hg : (100 : Int) < ((n1 : Nat) : Int)
      · have e : smallB l = false := by
          unfold smallB
          rw [Bool.and_eq_false_iff]
          refine Or.inl (Bool.eq_false_iff.2 (fun h => ?_))
          have := List.all_eq_true.1 h x MX.out
          rw [decide_eq_true_eq] at this
          have := L1.out
          omega
        have HE := Aside0.mk e
        clear e
        go_wp2_with fail
        first | go_ret | go_ret2 | ((try simp only [Exit.inBlock, Exit.then]); refine bodyPost_ret (results_tmp3 rfl _ _ _) rfl ?_) | go_end0
        exact ⟨by rw [HE.out]; rfl, rfl⟩
      · have HX := Aside0.mk (show x.length ≤ 100 by have := L1.out; omega)
        go_wp2_with fail
        go_roundg (n - i)
        case measure => omega
        case rel => exact ⟨i + 1, by go_num, by omega, by omega, ⟨fun y hy => by
          rw [TS.out] at hy
          rcases List.mem_append.1 hy with hy | hy
          · exact HG.out y hy
          · simp at hy
            subst hy
            exact HX.out⟩, rfl⟩
    · have hi2 : i = n := by omega
      subst hi2
      rw [List.take_of_length_le (by have := HN.out; omega)] at HG
      have e : smallB l = decide (((i : Nat) : Int) ≤ 60) := by
        unfold smallB
        rw [List.all_eq_true.2 (fun x hx => by rw [decide_eq_true_eq]; exact HG.out x hx), Bool.true_and, ← HN.out]
        congr 1
        simp only [eq_iff_iff]
        omega
      have HE := Aside0.mk e
      clear e
      go_wp2_with fail
      first | go_ret | go_ret2 | ((try simp only [Exit.inBlock, Exit.then]); refine bodyPost_ret (results_tmp3 rfl _ _ _) rfl ?_) | go_end0
      exact ⟨by rw [HE.out]; rfl, rfl⟩

end Go.Proofs.Ytcgdnkgnknceiaa.HnA
