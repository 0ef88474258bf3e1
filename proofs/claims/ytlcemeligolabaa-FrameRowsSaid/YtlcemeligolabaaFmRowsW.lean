/- The law of frames one behind the other: the walk. -/
import Derived.Test.YtlcemeligolabaaFmH
import Derived.Test.YtlcemeligolabaaOpenC
namespace Go.Proofs.Ytlcemeligolabaa.FmRowsW
open Go.RowKit Go.Proofs.YtlcemeligolabaaW.PrintWords Go.Proofs.YtlcemeligolabaaW.PrintLast Go.Proofs.YtlcemeligolabaaW.PrintMore Go.Proofs.Ytlcemeligolabaa.K Go.Proofs.Ytlcemeligolabaa.FmP Go.Proofs.Ytlcemeligolabaa.FmA Go.Proofs.Ytlcemeligolabaa.FmB Go.Proofs.Ytlcemeligolabaa.FmC Go.Proofs.Ytlcemeligolabaa.FmF Go.Proofs.Ytlcemeligolabaa.FmG Go.Proofs.Ytlcemeligolabaa.FmH Go.Proofs.Ytlcemeligolabaa.FcP Go.Proofs.Ytlcemeligolabaa.FcA Go.Proofs.Ytlcemeligolabaa.FcB Go.Proofs.Ytlcemeligolabaa.FcC Go.Proofs.Ytlcemeligolabaa.FcR Go.Proofs.Ytlcemeligolabaa.FcD Go.Proofs.Ytlcemeligolabaa.FcE Go.Proofs.Ytlcemeligolabaa.FcF Go.Proofs.Ytlcemeligolabaa.OctPure Go.Proofs.Ytlcemeligolabaa.OpenC
set_option linter.unusedVariables false
set_option linter.unusedSimpArgs false
attribute [local go_sem] max2_int min2_int max_two min_two

def rB (wide : Bool) (F : Nat → Nat) : Nat → List (List Int) → List Int
  | _, [] => []
  | n, x :: l => frameL x wide ++ List.replicate (F n) 126 ++ rB wide F (n + 1) l
theorem rB_snoc (wide : Bool) (F : Nat → Nat) (x : List Int) : ∀ (l : List (List Int)) (n : Nat), rB wide F n (l ++ [x]) = rB wide F n l ++ (frameL x wide ++ List.replicate (F (n + l.length)) 126) := by
  intro l
  induction l with
  | nil => intro n; simp [rB]
  | cons y l ih =>
    intro n
    rw [List.cons_append, rB, ih (n + 1), rB, List.length_cons, show n + 1 + l.length = n + (l.length + 1) by omega]
    simp
theorem rB_oct (wide : Bool) (F : Nat → Nat) : ∀ (l : List (List Int)) (n : Nat), (∀ x ∈ l, octOk x) → octOk (rB wide F n l) := by
  intro l
  induction l with
  | nil => intro n _; exact octOk.nil
  | cons y l ih =>
    intro n h z hz
    rw [rB] at hz
    rcases List.mem_append.1 hz with hz | hz
    · rcases List.mem_append.1 hz with hz | hz
      · exact frameL_oct (h y (by simp)) wide z hz
      · have := List.eq_of_mem_replicate hz
        omega
    · exact ih (n + 1) (fun x hx => h x (by simp [hx])) z hz
theorem rB_len (wide : Bool) (F : Nat → Nat) (hF : ∀ i, F i ≤ 3) : ∀ (l : List (List Int)) (n : Nat), (∀ x ∈ l, x.length ≤ 300) → (rB wide F n l).length ≤ 613 * l.length := by
  intro l
  induction l with
  | nil => intro n _; simp [rB]
  | cons y l ih =>
    intro n h
    have h1 := ih (n + 1) (fun x hx => h x (by simp [hx]))
    have h2 := h y (by simp)
    have h3 := frameL_len y wide
    have h4 := hF n
    rw [rB, List.length_append, List.length_append, List.length_replicate, List.length_cons]
    omega
theorem after_reps (wide : Bool) (m : Int) (k : Nat) : after (beg wide m) (List.replicate k 126) = beg wide m ∧ hear (beg wide m) (List.replicate k 126) = [] := by
  induction k with
  | zero => exact ⟨rfl, rfl⟩
  | succ k ih =>
    rw [List.replicate_succ, hear_beg_flag, after_flag]
    exact ih
def keepL (most : Int) (l : List (List Int)) : List (List Int) := l.filter (fun x => decide (x ≠ [] ∧ (x.length : Int) ≤ most))
theorem after_frame (R : Re) (x : List Int) : after R (frameL x R.wide) = beg R.wide R.most := by
  rw [frameL, after_flag, after_last]
  rfl
theorem hear_rows (wide : Bool) (F : Nat → Nat) (most : Int) (h1 : 1 ≤ most) : ∀ (l : List (List Int)) (n : Nat) (R : Re), R.wide = wide → R.most = most + ((sizeT wide : Nat) : Int) → R.told.1 ≠ 1 → hear R (rB wide F n l) = keepL most l := by
  intro l
  induction l with
  | nil => intro n R _ _ _; rfl
  | cons x l ih =>
    intro n R hw hm ht
    subst hw
    rw [rB, hear_append, hear_append, after_append, hear_frame R x (by omega), if_neg ht, after_frame, (after_reps _ _ _).1, (after_reps _ _ _).2, ih (n + 1) (beg R.wide R.most) rfl hm (by simp [beg, Re.told])]
    unfold keepL
    rw [List.filter_cons, hm]
    by_cases hk : x ≠ [] ∧ (x.length : Int) ≤ most
    · rw [if_pos ⟨hk.1, by omega⟩, if_pos (by simpa using hk)]
      rfl
    · rw [if_neg (fun q => hk ⟨q.1, by omega⟩), if_neg (by simpa using hk)]
      rfl
theorem and3n (x : Int) : ∃ r : Nat, r ≤ 3 ∧ bits .and .i64 x 3 = (r : Int) := by
  simp only [bits]
  have h1 : (BitVec.ofInt IntKind.i64.bits x &&& BitVec.ofInt IntKind.i64.bits 3).toNat ≤ 3 := by
    rw [BitVec.toNat_and]
    exact Nat.and_le_right
  generalize (BitVec.ofInt IntKind.i64.bits x &&& BitVec.ofInt IntKind.i64.bits 3).toNat = m at *
  rw [IntKind.wrap_i64]
  exact ⟨m, h1, by omega⟩
theorem take_sg {α : Type} (l : List α) (i : Nat) (x : α) (h : l[i]? = some x) : l.take (i + 1) = l.take i ++ [x] := by
  have hi := (List.getElem?_eq_some_iff.1 h)
  obtain ⟨hi, e⟩ := hi
  rw [List.take_succ_eq_append_getElem hi, e]
/-- Octets and strings that the call puts together. -/
structure Two (w w' : World) (vb : Value) (B : List Int) (vs : Value) (S : List ByteArray) : Prop where
  b : Own (Kd.int .u8) 5 w.heap.size w' vb B
  s : Own Kd.string 9 w.heap.size w' vs S
  bl : Below w.heap.size w w'
section
variable {w w' w2 : World} {vb vb' vs vs' : Value} {B B' : List Int} {S S' : List ByteArray}
theorem Two.bytes (t : Two w w' vb B vs S) (ho : Own (Kd.int .u8) 5 w.heap.size w2 vb' B') (hf : Fr (fun k => some k = vb.ownBlock) w' w2) : Two w w2 vb' B' vs S :=
  ⟨ho, Own.fr (enc := Value.string) (h1 := fun _ => rfl) t.s hf (fun k hk h => str_int t.s t.b k hk h), Fr.above t.bl t.bl.size hf (fun i hi h => by have := (FmA.Own.lt t.b i h).1; omega)⟩
theorem Two.strs (t : Two w w' vb B vs S) (ho : Own Kd.string 9 w.heap.size w2 vs' S') (hf : Fr (fun k => some k = vs.ownBlock) w' w2) : Two w w2 vb B vs' S' :=
  ⟨Own.fr (enc := Value.int .u8) (h1 := fun _ => rfl) t.b hf (fun k hk h => str_int t.s t.b k h hk), ho, Fr.above t.bl t.bl.size hf (fun i hi h => by have := (str_typed t.s i h).1; omega)⟩
theorem Two.below (t : Two w w' vb B vs S) (hb : Below w'.heap.size w' w2) : Two w w2 vb B vs S := ⟨t.b.below hb, t.s.below hb, below_step t.bl hb⟩
end
section
variable {ops : Array Oper} {rest : List Oper} {o : Oper} {a : Act} {Q : Exit → Act → World → Prop}
theorem two_row {w W : World} {v vs : Value} {xs ys : List Int} {S : List ByteArray} {A : Option Addr} {m c : Nat}
    (s x : Operand) (hgd : o.guard = none) (ho : o.op = .call { callee := .builtin .append, args := #[s, x], argTypes := #[24, 24] })
    (hs : a.eval s = v) (hx : a.eval x = .slice A m c) (T : Two w W v xs vs S) (HR : Rds (Kd.int .u8) W A m c ys) (hl : (xs.length + m) * 1 ≤ 140737488355328)
    (h : ∀ v1 w1, Two w w1 v1 (xs ++ ys) vs S → wpList Try.prog ops Q rest (a.put o.dst v1) w1) : wpList Try.prog ops Q (o :: rest) a W := by
  refine Kd.R_append_row (w0 := W) (Value.int .u8) (0 : Int) (h1 := fun _ => rfl) w.heap.size hgd s x 24 5 (.int .u8 0) 1 ho Try.underlying24 info5 rfl (by decide) v xs ys A m c (fun _ => True) hs hx (fun _ _ => trivial) T.b.out HR.row ⟨rfl, rfl, rfl, Nat.le_refl _, fun _ _ => rfl⟩ T.bl.size hl ?_
  intro v1 w1 h1 h2 h3 _
  exact h v1 w1 (T.bytes ⟨h1⟩ ⟨h3.os, h3.tape, h3.output, h3.size, fun i hi hne => h3.block i hi hne⟩)
theorem two_int {w W : World} {v vs : Value} {xs : List Int} {y : Int} {S : List ByteArray}
    (s x : Operand) (hgd : o.guard = none) (ho : o.op = .call { callee := .builtin .append, args := #[s, x], argTypes := #[24, 24] })
    (hs : a.eval s = v) (hx : a.eval x = .slice (some ⟨W.heap.size, 0, none⟩) 1 1) (T : Two w W v xs vs S) (hl : (xs.length + 1) * 1 ≤ 140737488355328)
    (h : ∀ v1 w1, Two w w1 v1 (xs ++ [y]) vs S → wpList Try.prog ops Q rest (a.put o.dst v1) w1) : wpList Try.prog ops Q (o :: rest) a (W.alloc (.cells #[.int .u8 y] 5)) := by
  refine app_int2 (w0 := w) Try.underlying24 info5 rfl (by decide) s x hgd ho hs hx T.b T.bl T.bl.size hl ?_
  intro v1 w1 h1 h2 h3 h4
  exact h v1 w1 (T.bytes h1 h4)
theorem two_str {w W : World} {v vb : Value} {B : List Int} {xs : List ByteArray} {y : ByteArray}
    (s x : Operand) (hgd : o.guard = none) (ho : o.op = .call { callee := .builtin .append, args := #[s, x], argTypes := #[26, 26] })
    (hs : a.eval s = v) (hx : a.eval x = .slice (some ⟨W.heap.size, 0, none⟩) 1 1) (T : Two w W vb B v xs) (hl : (xs.length + 1) * 16 ≤ 140737488355328)
    (h : ∀ v1 w1, Two w w1 vb B v1 (xs ++ [y]) → wpList Try.prog ops Q rest (a.put o.dst v1) w1) : wpList Try.prog ops Q (o :: rest) a (W.alloc (.cells #[.string y] 9)) := by
  refine app_str s x hgd ho hs hx T.s T.bl.size hl ?_
  intro v1 w1 h1 h2
  exact h v1 w1 (T.strs h1 h2)
end
set_option maxHeartbeats 8000000 in
set_option maxRecDepth 100000 in
theorem rows_in (A : Option Addr) (n c : Nat) (l : List (List Int)) (A1 : Option Addr) (n1 c1 : Nat) (fl : List Int) (most : Int) (wide : Bool) (w : World) (hr : Grid w A n c l) (hr1 : Rds (Kd.int .i64) w A1 n1 c1 fl) (hn : n ≤ 20) (hn1 : n ≤ n1) (hm0 : 1 ≤ most) (hm1 : most ≤ 300) :
    Calls Try.prog 7 #[.slice A n c, .slice A1 n1 c1, .int .i64 most, .bool wide] w fun e w' => e = .returned (.bool true) ∧ Below w.heap.size w w' := by
  have HR := Aside0.mk hr
  have HR1 := Aside0.mk hr1
  have HN := Aside0.mk hr.len
  have HN1 := Aside0.mk hr1.len
  have hcn := hr.cap
  have hcn1 := hr1.cap
  have g1 : ¬ (20 : Int) < ((n : Nat) : Int) := by omega
  have g2 : ¬ ((n1 : Nat) : Int) < ((n : Nat) : Int) := by omega
  have g3 : ¬ most < 1 := by omega
  have g4 : ¬ (300 : Int) < most := by omega
  obtain ⟨F, hF⟩ : ∃ F : Nat → Nat, ∀ i, F i ≤ 3 ∧ bits .and .i64 (rd fl i) 3 = ((F i : Nat) : Int) := ⟨fun i => Classical.choose (and3n (rd fl i)), fun i => Classical.choose_spec (and3n (rd fl i))⟩
  have HF := Aside0.mk hF
  clear hr hr1 hF
  have HNN := Aside0.mk hn1
  go_enter Try.func7, Try.ntmps7
  go_wp2_with (first | (go_at_call 10; (with_reducible refine (alive_ok _).mono ?_); rintro e w1 ⟨rfl, hb1⟩; have HB1 := Aside0.mk hb1; clear hb1))
  clear hn1 g2
  generalize decide (n1 < n) = dd
  have T1 := Aside0.mk (show Two w w1 (.slice none 0 0) (rB wide F 0 (l.take 0)) (.slice none 0 0) ((keepL most (l.take 0)).map strOfNums) from ⟨Own.nil _ _ _ _, Own.nil _ _ _ _, HB1.out⟩)
  go_loopg [10, 11, 12, 13] (n + 1) (fun kq v10 v11 v12 v13 w' => ∃ (i : Nat), v12 = .int .i64 i ∧ i ≤ n ∧ kq = n + 1 - i ∧ Aside0 (∀ x ∈ l.take i, x.length ≤ 300 ∧ octOk x) ∧ Aside0 (Two w w' v10 (rB wide F 0 (l.take i)) v11 ((keepL most (l.take i)).map strOfNums)))
  case atStart => exact ⟨0, rfl, by omega, by omega, ⟨fun x hx => by simp at hx⟩, T1⟩
  case round =>
    clear T1 HB1
    obtain ⟨i, rfl, hi, hkq, HG, T2⟩ := hrel
    have B2 := Aside0.mk T2.out.bl
    by_cases hlt : i < n
    · obtain ⟨x, hx⟩ : ∃ x, l[i]? = some x := ⟨l[i]'(by have := HN.out; omega), by simp⟩
      obtain ⟨ad, v, hA, hc0, hv⟩ := HR.out.at_ i x hx
      cases hA
      obtain ⟨⟨A3, n3, c3, rfl, r3, m3⟩, o3⟩ := hv
      have FX := Aside0.mk (fun w' (hb : Below w.heap.size w w') => (hb.cell (World.block_lt_of_cell? w _ hc0)).trans hc0)
      have hc := FX.out _ B2.out
      have L3 := Aside0.mk r3.len
      have TS := Aside0.mk (take_sg l i x hx)
      have R3 := Aside0.mk r3
      have O3 := Aside0.mk (show octOk x from o3)
      have TL : Aside0 ((l.take i).length = i) := ⟨by rw [List.length_take]; have := HN.out; omega⟩
      have FLN := Aside0.mk (rB_len wide F (fun i => (HF.out i).1) (l.take i) 0 (fun y hy => (HG.out y hy).1))
      clear hc0 r3 o3 hx
      by_cases g5 : (300 : Int) < ((n3 : Nat) : Int)
      · go_wp2_with fail
        first | go_ret | go_ret2 | ((try simp only [Exit.inBlock, Exit.then]); refine bodyPost_ret (results_tmp3 rfl _ _ _) rfl ?_) | go_end0 | refine bodyPost_ret0 rfl rfl ?_
        exact ⟨rfl, B2.out⟩
      · obtain ⟨M, hM⟩ : ∃ M, M = frameL x wide := ⟨_, rfl⟩
        obtain ⟨q, hq⟩ : ∃ q, M.length = q := ⟨_, rfl⟩
        have hq2 : q ≤ 610 := by rw [← hq, hM]; have := frameL_len x wide; have := L3.out; omega
        have PX := Aside0.mk (fun w' (hb : Below w.heap.size w w') => (show Calls Try.prog 11 #[.slice A3 n3 c3, .bool wide] w' fun e w'' => ∃ v, e = .returned v ∧ Own (Kd.int .u8) 5 w'.heap.size w'' v M ∧ Below w'.heap.size w' w'' by rw [hM]; exact fput_ok A3 n3 c3 x wide w' (R3.out.below hb) O3.out (by omega)))
        have HM := Aside0.mk hM
        have HQ := Aside0.mk hq
        have HX := Aside0.mk (show x.length ≤ 300 by have := L3.out; omega)
        obtain ⟨nb, hnb⟩ : ∃ nb, (rB wide F 0 (l.take i)).length = nb := ⟨_, rfl⟩
        have hnb2 : nb ≤ 12300 := by rw [← hnb]; have := FLN.out; have := TL.out; omega
        obtain ⟨A2, c2, hv2, hc2⟩ := T2.out.b.sliceN hnb
        subst hv2
        have NB := Aside0.mk hnb
        obtain ⟨ns, hns⟩ : ∃ ns, ((keepL most (l.take i)).map strOfNums).length = ns := ⟨_, rfl⟩
        have hns2 : ns ≤ 20 := by rw [← hns, List.length_map]; have : (keepL most (l.take i)).length ≤ (l.take i).length := List.length_filter_le _ _; have := TL.out; omega
        obtain ⟨A8, c8, hv8, hc8⟩ := T2.out.s.sliceN hns
        subst hv8
        have NS := Aside0.mk hns
        obtain ⟨adf, hAf⟩ := HR1.out.some_at i (by have := HNN.out; omega)
        cases hAf
        have FY := Aside0.mk (fun w' (hb : Below w.heap.size w w') => HR1.out.cell_int hb i (by have := HNN.out; omega))
        have hand := (HF.out i).2
        have hf3 := (HF.out i).1
        obtain ⟨y, hy⟩ : ∃ y, y = rd fl i := ⟨_, rfl⟩
        obtain ⟨f, hf⟩ : ∃ f, f = F i := ⟨_, rfl⟩
        rw [← hy] at FY hand
        rw [← hf] at hand hf3
        have HFI := Aside0.mk hf
        have hii : ((i : Nat) : Int) < ((n1 : Nat) : Int) := by have := HNN.out; omega
        clear hM hq hnb hns hy hf
        go_wp2_with (first
          | (go_at_call 11; (with_reducible refine (PX.out _ B2.out).mono ?_); rintro e w4 ⟨v4, rfl, ho, hb⟩; obtain ⟨A4, c4, rfl, hc4⟩ := ho.sliceN HQ.out; have P4 := Aside0.mk ho.rds; have T4 := Aside0.mk (T2.out.below hb); clear ho hb T2)
          | (at_builtin; refine two_row (.tmp 52) (.tmp 58) rfl rfl rfl rfl T4.out P4.out (by have := NB.out; omega) ?_; intro v5 w5 T5; have T5 := Aside0.mk T5; obtain ⟨A5, c5, hv5, hc5⟩ := T5.out.b.sliceN (n := nb + q) (by rw [List.length_append, NB.out, HQ.out]); subst hv5; have hc := FX.out w5 T5.out.bl; have hfy := FY.out w5 T5.out.bl; clear T4))
        go_loopg [10, 13] (f + 1) (fun kq v10 v13 w' => ∃ (t : Nat), v13 = .int .i64 t ∧ t ≤ f ∧ kq = t + 1 ∧ Aside0 (Two w w' v10 (rB wide F 0 (l.take i) ++ M ++ List.replicate (f - t) 126) (.slice A8 ns c8) ((keepL most (l.take i)).map strOfNums)))
        case atStart => exact ⟨f, rfl, Nat.le_refl _, by omega, by rw [Nat.sub_self, List.replicate_zero, List.append_nil]; exact T5⟩
        case round =>
          clear T5
          obtain ⟨t, rfl, ht, hkq2, T6⟩ := hrel
          by_cases ht0 : t = 0
          · subst ht0
            have hc := FX.out _ T6.out.bl
            have CV := fun w' (hb : Below w.heap.size w w') => conv22 A3 n3 c3 x w' (R3.out.below hb)
            have CV := CV _ T6.out.bl
            have T7 := Aside0.mk (show Two w wr _ (rB wide F 0 (l.take (i + 1))) _ _ from by
              have := T6.out
              rw [Nat.sub_zero, HFI.out, HM.out, List.append_assoc] at this
              rw [TS.out, rB_snoc, TL.out, Nat.zero_add]
              exact this)
            have KP : Aside0 (keepL most (l.take (i + 1)) = keepL most (l.take i) ++ (if 1 ≤ n3 ∧ (n3 : Int) ≤ most then [x] else [])) := ⟨by
              rw [TS.out, keepL, keepL, List.filter_append]
              congr 1
              rw [List.filter_cons]
              have e : (x ≠ [] ∧ (x.length : Int) ≤ most) ↔ (1 ≤ n3 ∧ (n3 : Int) ≤ most) := by
                rw [← L3.out]
                refine and_congr_left (fun _ => ?_)
                rw [L3.out, ← List.length_pos_iff]
                exact Iff.rfl
              by_cases h : 1 ≤ n3 ∧ (n3 : Int) ≤ most
              · rw [if_pos h, if_pos (by rw [decide_eq_true_eq]; exact e.2 h)]
                rfl
              · rw [if_neg h, if_neg (by rw [decide_eq_true_eq]; exact fun q => h (e.1 q))]
                rfl⟩
            have GG := Aside0.mk (show ∀ y ∈ l.take (i + 1), y.length ≤ 300 ∧ octOk y from fun y hy => by
              rw [TS.out] at hy
              rcases List.mem_append.1 hy with hy | hy
              · exact HG.out y hy
              · simp at hy
                subst hy
                exact ⟨HX.out, O3.out⟩)
            clear T6
            by_cases h6 : (1 : Int) ≤ ((n3 : Nat) : Int)
            · by_cases h7 : ((n3 : Nat) : Int) ≤ most
              · go_wp2_with (first
                  | (at_builtin; refine two_str (.tmp 87) (.tmp 93) rfl rfl rfl rfl T7.out (by have := NS.out; omega) ?_; intro v8 w8 T8; have T8 := Aside0.mk T8; obtain ⟨A9, c9, hv9, hc9⟩ := T8.out.s.sliceN (n := ns + 1) (by rw [List.length_append, NS.out]; rfl); subst hv9; clear T7))
                go_roundg (n - i)
                case measure => omega
                case rel => exact ⟨i + 1, by go_num, by omega, by omega, GG, ⟨by have := T8.out; rw [KP.out, if_pos ⟨by omega, h7⟩, List.map_append]; exact this⟩⟩
              · go_wp2_with fail
                go_roundg (n - i)
                case measure => omega
                case rel => exact ⟨i + 1, by go_num, by omega, by omega, GG, ⟨by have := T7.out; rw [KP.out, if_neg (by omega), List.append_nil]; exact this⟩⟩
            · go_wp2_with fail
              go_roundg (n - i)
              case measure => omega
              case rel => exact ⟨i + 1, by go_num, by omega, by omega, GG, ⟨by have := T7.out; rw [KP.out, if_neg (by omega), List.append_nil]; exact this⟩⟩
          · have ht1 : (0 : Int) < ((t : Nat) : Int) := by omega
            have hlen : Aside0 ((rB wide F 0 (l.take i) ++ M ++ List.replicate (f - t) 126).length = nb + q + (f - t)) := ⟨by rw [List.length_append, List.length_append, List.length_replicate, NB.out, HQ.out]⟩
            obtain ⟨A6, c6, hv6, hc6⟩ := T6.out.b.sliceN hlen.out
            subst hv6
            go_wp2_with (first
              | (at_builtin; refine two_int (.tmp 69) (.tmp 70) rfl rfl rfl rfl T6.out (by rw [hlen.out]; omega) ?_; intro v7 w7 T7; have T7 := Aside0.mk T7; obtain ⟨A7, c7, hv7, hc7⟩ := T7.out.b.sliceN (n := nb + q + (f - t) + 1) (by rw [List.length_append, hlen.out]; rfl); subst hv7; clear T6))
            go_roundg t
            case measure => omega
            case rel => exact ⟨t - 1, by go_num, by omega, by omega, ⟨by
              have := T7.out
              rw [show f - (t - 1) = (f - t) + 1 by omega, List.replicate_succ', ← List.append_assoc]
              exact this⟩⟩
    · have hi2 : i = n := by omega
      subst hi2
      rw [List.take_of_length_le (by have := HN.out; omega)] at HG T2
      obtain ⟨W, hW⟩ : ∃ W, W = keepL most l := ⟨_, rfl⟩
      have hH : hear (newR most wide) (rB wide F 0 l) = W := by
        rw [hW]
        refine hear_rows wide F most hm0 l 0 (newR most wide) rfl ?_ ?_
        · show cut5 most + _ = _
          rw [show cut5 most = most by unfold cut5; rw [if_neg (by omega), if_neg (by omega)]]
        · show ((0 : Int), ([] : List Int)).1 ≠ 1
          decide
      have OT := rB_oct wide F l 0 (fun x hx => (HG.out x hx).2)
      obtain ⟨k, hk⟩ : ∃ k, (rB wide F 0 l).length = k := ⟨_, rfl⟩
      have hk2 : k ≤ 100000 := by rw [← hk]; have := rB_len wide F (fun i => (HF.out i).1) l 0 (fun y hy => (HG.out y hy).1); have := HN.out; omega
      obtain ⟨A2, c2, hv2, hc2⟩ := T2.out.b.sliceN hk
      subst hv2
      rw [← hW] at T2
      obtain ⟨m, hm⟩ : ∃ m, W.length = m := ⟨_, rfl⟩
      obtain ⟨A8, c8, hv8, hc8⟩ := T2.out.s.sliceN (n := m) (by rw [List.length_map]; exact hm)
      subst hv8
      have hmk : m ≤ 1000 := by
        rw [← hm, hW]
        have h1 : (keepL most l).length ≤ l.length := List.length_filter_le _ _
        have := HN.out
        omega
      have HE := Aside0.mk (heard_ok most wide A2 k c2 _ wr T2.out.b.rds OT (by omega))
      rw [hH, hm] at HE
      have HS := Aside0.mk T2.out.s
      clear hH hW OT hk hm T2
      go_wp2_with (first | (go_at_call 12; (with_reducible refine HE.out.mono ?_); rintro e w5 ⟨A5, c5, rfl, ho, hb⟩; have B5 := Aside0.mk (below_step B2.out hb); have P5 := Aside0.mk ho; have P8 := Aside0.mk (HS.out.below hb); clear ho hb))
      go_loopg [15] (m + 1) (fun kq v9 w' => ∃ (j : Nat), v9 = .int .i64 j ∧ j ≤ m ∧ kq = m + 1 - j ∧ Aside0 (Below w5.heap.size w5 w'))
      case atStart => exact ⟨0, rfl, by omega, by omega, ⟨Below.refl _ _⟩⟩
      case round =>
        obtain ⟨j, rfl, hj, hkq, B6⟩ := hrel
        by_cases hlt : j < m
        · obtain ⟨ad2, hA2, hcell⟩ := Kd.at_string P5.out.rds.row ((j : Nat) : Int) (by omega) (by omega)
          cases hA2
          obtain ⟨ad3, hA3, hcell3⟩ := Kd.at_string P8.out.rds.row ((j : Nat) : Int) (by omega) (by omega)
          cases hA3
          obtain ⟨y, hy⟩ : ∃ y, y = rdOf ByteArray.empty (W.map strOfNums) ((j : Nat) : Int) := ⟨_, rfl⟩
          rw [← hy, Int.toNat_natCast] at hcell hcell3
          have FG := Aside0.mk (fun w' (hb : Below wr.heap.size wr w') => (((below_step B6.out hb).cell (World.block_lt_of_cell? w5 _ hcell)).trans hcell))
          have FH := Aside0.mk (fun w' (hb : Below wr.heap.size wr w') => (((below_step B6.out hb).cell (World.block_lt_of_cell? w5 _ hcell3)).trans hcell3))
          have hji : ((j : Nat) : Int) < ((m : Nat) : Int) := by omega
          clear hcell hcell3 hy
          go_wp2_with fail
          refine region_known 9 9 [?rca24_0, ?rca24_1, ?rca24_2, .string y, ?rca24_4, ?rca24_5, ?rca24_6, .string y, .bool false] (fun _ _ w' => Below wr.heap.size wr w') (by kernel_rfl) (by kernel_rfl) (by kernel_rfl) (fun _ _ w1 w2 hb hj => below_step hj hb) (Below.refl _ _) ?rgoa24 ?rgra24
          case rgoa24 =>
            refine ⟨?_, ?_, ?_, ?_, ?_, ?_, ?_, ?_, ?_, trivial⟩
            · intro b1_ b2_ a_ w_ st x1_ x2_ y1_ y2_ hJ_
              have e14 : a_.eval (.tmp 14) = .slice (some ad2) m c5 := st.slot 14 (by kernel_rfl)
              try simp only [List.getD_cons_zero, List.getD_cons_succ] at e14
              refine op2_yield _ (by rfl) ?_ rfl (by decide) (by decide) hJ_
              simp only [execOp, e14]
              go_simp
              all_goals first | with_reducible rfl | omega
            · intro b1_ b2_ a_ w_ st x1_ x2_ y1_ y2_ hJ_
              have e15 : a_.eval (.tmp 15) = .int .i64 ((j : Nat) : Int) := st.slot 15 (by kernel_rfl)
              try simp only [List.getD_cons_zero, List.getD_cons_succ] at e15
              refine op2_yield _ (by rfl) ?_ rfl (by decide) (by decide) hJ_
              simp only [execOp, e15]
              go_simp
              all_goals first | with_reducible rfl | omega
            · intro b1_ b2_ a_ w_ st x1_ x2_ y1_ y2_ hJ_
              have e110 : a_.eval (.tmp 110) = _ := st.dep 0 _ 110 rfl rfl (by kernel_rfl)
              have e111 : a_.eval (.tmp 111) = _ := st.dep 1 _ 111 rfl rfl (by kernel_rfl)
              try simp only [List.getD_cons_zero, List.getD_cons_succ] at e110 e111
              refine op2_yield _ (by rfl) ?_ rfl (by decide) (by decide) hJ_
              simp only [execOp, e110, e111]
              go_simp
              all_goals first | with_reducible rfl | omega
            · intro b1_ b2_ a_ w_ st x1_ x2_ y1_ y2_ hJ_
              have e112 : a_.eval (.tmp 112) = _ := st.dep 2 _ 112 rfl rfl (by kernel_rfl)
              try simp only [List.getD_cons_zero, List.getD_cons_succ] at e112
              have hc_ := FG.out w_ hJ_
              refine op2_yield _ (by rfl) ?_ rfl (by decide) (by decide) hJ_
              simp only [execOp, e112]
              go_simp
              all_goals first | with_reducible rfl | omega
            · intro b1_ b2_ a_ w_ st x1_ x2_ y1_ y2_ hJ_
              have e11 : a_.eval (.tmp 11) = .slice (some ad3) m c8 := st.slot 11 (by kernel_rfl)
              try simp only [List.getD_cons_zero, List.getD_cons_succ] at e11
              refine op2_yield _ (by rfl) ?_ rfl (by decide) (by decide) hJ_
              simp only [execOp, e11]
              go_simp
              all_goals first | with_reducible rfl | omega
            · intro b1_ b2_ a_ w_ st x1_ x2_ y1_ y2_ hJ_
              have e15 : a_.eval (.tmp 15) = .int .i64 ((j : Nat) : Int) := st.slot 15 (by kernel_rfl)
              try simp only [List.getD_cons_zero, List.getD_cons_succ] at e15
              refine op2_yield _ (by rfl) ?_ rfl (by decide) (by decide) hJ_
              simp only [execOp, e15]
              go_simp
              all_goals first | with_reducible rfl | omega
            · intro b1_ b2_ a_ w_ st x1_ x2_ y1_ y2_ hJ_
              have e114 : a_.eval (.tmp 114) = _ := st.dep 4 _ 114 rfl rfl (by kernel_rfl)
              have e115 : a_.eval (.tmp 115) = _ := st.dep 5 _ 115 rfl rfl (by kernel_rfl)
              try simp only [List.getD_cons_zero, List.getD_cons_succ] at e114 e115
              refine op2_yield _ (by rfl) ?_ rfl (by decide) (by decide) hJ_
              simp only [execOp, e114, e115]
              go_simp
              all_goals first | with_reducible rfl | omega
            · intro b1_ b2_ a_ w_ st x1_ x2_ y1_ y2_ hJ_
              have e116 : a_.eval (.tmp 116) = _ := st.dep 6 _ 116 rfl rfl (by kernel_rfl)
              try simp only [List.getD_cons_zero, List.getD_cons_succ] at e116
              have hc_ := FH.out w_ hJ_
              refine op2_yield _ (by rfl) ?_ rfl (by decide) (by decide) hJ_
              simp only [execOp, e116]
              go_simp
              all_goals first | with_reducible rfl | omega
            · intro b1_ b2_ a_ w_ st x1_ x2_ y1_ y2_ hJ_
              have e113 : a_.eval (.tmp 113) = _ := st.dep 3 _ 113 rfl rfl (by kernel_rfl)
              have e117 : a_.eval (.tmp 117) = _ := st.dep 7 _ 117 rfl rfl (by kernel_rfl)
              try simp only [List.getD_cons_zero, List.getD_cons_succ] at e113 e117
              refine op2_yield _ (by rfl) ?_ rfl (by decide) (by decide) hJ_
              simp only [execOp, e113, e117]
              go_simp
              all_goals first | with_reducible rfl | omega
          case rgra24 =>
            intro w7 hj7
            have hj7 := (show Below wr.heap.size wr w7 from hj7)
            simp only [putL, Act.put, List.headD_cons, List.tail_cons, List.setIfInBounds_toArray, List.set_cons_zero, List.set_cons_succ]
            have B7 := Aside0.mk (below_step B6.out hj7)
            clear hj7
            go_wp2
            go_roundg (m - j)
            case measure => omega
            case rel => exact ⟨j + 1, by go_num, by omega, by omega, B7⟩
        · have hj2 : j = m := by omega
          subst hj2
          have BW := Aside0.mk (below_step B5.out B6.out)
          go_wp2_with fail
          first | go_ret | go_ret2 | ((try simp only [Exit.inBlock, Exit.then]); refine bodyPost_ret (results_tmp3 rfl _ _ _) rfl ?_) | go_end0 | refine bodyPost_ret0 rfl rfl ?_
          exact ⟨rfl, BW.out⟩

set_option maxHeartbeats 8000000 in
set_option maxRecDepth 100000 in
theorem rows_early (A : Option Addr) (n c : Nat) (A1 : Option Addr) (n1 c1 : Nat) (most : Int) (wide : Bool) (w : World) (h : 20 < n ∨ n1 < n ∨ most < 1 ∨ 300 < most) (m0 : n ≤ 9223372036854775807) (m1 : n1 ≤ 9223372036854775807) :
    Calls Try.prog 7 #[.slice A n c, .slice A1 n1 c1, .int .i64 most, .bool wide] w fun e w' => e = .returned (.bool true) ∧ Below w.heap.size w w' := by
  have key : (20 : Int) < (n : Int) ∨ (¬ (20 : Int) < (n : Int) ∧ (n1 : Int) < (n : Int)) ∨ (¬ (20 : Int) < (n : Int) ∧ ¬ (n1 : Int) < (n : Int) ∧ most < 1) ∨ (¬ (20 : Int) < (n : Int) ∧ ¬ (n1 : Int) < (n : Int) ∧ ¬ most < 1 ∧ (300 : Int) < most) := by omega
  clear h
  rcases key with h1 | ⟨h1, h2⟩ | ⟨h1, h2, h3⟩ | ⟨h1, h2, h3, h4⟩
  all_goals
    go_enter Try.func7, Try.ntmps7
    go_wp2_with (first | (go_at_call 10; (with_reducible refine (alive_ok _).mono ?_); rintro e w1 ⟨rfl, hb1⟩; have HB1 := Aside0.mk hb1; clear hb1))
    first | go_ret | go_ret2 | ((try simp only [Exit.inBlock, Exit.then]); refine bodyPost_ret (results_tmp3 rfl _ _ _) rfl ?_) | go_end0 | refine bodyPost_ret0 rfl rfl ?_
    exact ⟨rfl, HB1.out⟩
theorem walk (a0 : Option Addr) (len0 cap0 : Nat) (z0 : List (List Int)) (a1 : Option Addr) (len1 cap1 : Nat) (z1 : List Int) (a2 : Int) (a3 : Bool) (W : World) (w0 : Grid W a0 len0 cap0 z0) (w1 : IsRow .i64 W a1 len1 cap1 z1) (_y1 : len1 * 8 ≤ 140737488351232) (_w2 : (Lit.int .i64 a2).wf = true) :
    Calls Try.prog 7 #[.slice a0 len0 cap0, .slice a1 len1 cap1, .int .i64 a2, .bool a3] W fun e w' => e = .returned (.bool true) ∧ Below W.heap.size W w' := by
  obtain ⟨fl, hr, hm, hw⟩ := rds_of_row w1
  by_cases h : 20 < len0 ∨ len1 < len0 ∨ a2 < 1 ∨ 300 < a2
  · exact rows_early a0 len0 cap0 a1 len1 cap1 a2 a3 W h w0.max hm
  · exact rows_in a0 len0 cap0 z0 a1 len1 cap1 fl a2 a3 W w0 hr (by omega) (by omega) (by omega) (by omega)

end Go.Proofs.Ytlcemeligolabaa.FmRowsW
