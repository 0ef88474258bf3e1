/- A window of notes, and floats that are small whole numbers: plain law. -/
import Derived.Test.YtoaoebkllcmanaaK2
import Derived.Laws.FloatArith
import Derived.Laws.ComplexArith
import Derived.Laws.Cover2
namespace Go.Proofs.Ytoaoebkllcmanaa.TaP
open Go.RowKit Go.Proofs.Ytoaoebkllcmanaa.K
set_option linter.unusedVariables false
set_option linter.unusedSimpArgs false
def fl (n : Nat) : Nat := FloatKind.f64.nearest (n : Int)
theorem fl0 : fl 0 = 0 := by kernel_rfl
theorem fl1 : fl 1 = 4607182418800017408 := by kernel_rfl
theorem tabA : ((List.range 202).all fun n => floatBits .add .f64 (fl n) 4607182418800017408 == some (fl (n + 1))) = true := by decide +kernel
theorem tabS : ((List.range 202).all fun n => floatBits .sub .f64 (fl (n + 1)) 4607182418800017408 == some (fl n)) = true := by decide +kernel
theorem tabZ : ((List.range 202).all fun n => floatBits .sub .f64 (fl n) 0 == some (fl n)) = true := by decide +kernel
theorem tabY : ((List.range 202).all fun n => floatBits .add .f64 (fl n) 0 == some (fl n)) = true := by decide +kernel
theorem tabI : ((List.range 202).all fun n => floatToIntVal .f64 (fl n) .i64 == some (n : Int)) = true := by decide +kernel
theorem tabE : ((List.range 202).all fun n => FloatKind.f64.format.order (fl n) (fl n) == some .eq) = true := by decide +kernel
theorem tabG : ((List.range 202).all fun n => (FloatKind.f64.format.order (fl n) 0 == some .gt || FloatKind.f64.format.order (fl n) 0 == some .eq)) = true := by decide +kernel
theorem tabL : ((List.range 202).all fun n => (FloatKind.f64.format.order (fl n) 4751297606873776128 == some .lt || FloatKind.f64.format.order (fl n) 4751297606873776128 == some .eq)) = true := by decide +kernel
theorem tab {p : Nat → Bool} (h : ((List.range 202).all p) = true) (n : Nat) (hn : n ≤ 201) : p n = true := List.all_eq_true.1 h n (by simp; omega)
theorem add1 (n : Nat) (hn : n ≤ 201) : floatBits .add .f64 (fl n) 4607182418800017408 = some (fl (n + 1)) := by simpa using tab tabA n hn
theorem sub1 (n : Nat) (hn : n ≤ 201) : floatBits .sub .f64 (fl (n + 1)) 4607182418800017408 = some (fl n) := by simpa using tab tabS n hn
theorem sub0 (n : Nat) (hn : n ≤ 201) : floatBits .sub .f64 (fl n) 0 = some (fl n) := by simpa using tab tabZ n hn
theorem add0 (n : Nat) (hn : n ≤ 201) : floatBits .add .f64 (fl n) 0 = some (fl n) := by simpa using tab tabY n hn
theorem toI (n : Nat) (hn : n ≤ 201) : floatToIntVal .f64 (fl n) .i64 = some (n : Int) := by simpa using tab tabI n hn
theorem ordE (n : Nat) (hn : n ≤ 201) : FloatKind.f64.format.order (fl n) (fl n) = some .eq := by simpa using tab tabE n hn
theorem ordG (n : Nat) (hn : n ≤ 201) : (FloatKind.f64.format.order (fl n) 0 == some .gt || FloatKind.f64.format.order (fl n) 0 == some .eq) = true := tab tabG n hn
theorem ordL (n : Nat) (hn : n ≤ 201) : (FloatKind.f64.format.order (fl n) 4751297606873776128 == some .lt || FloatKind.f64.format.order (fl n) 4751297606873776128 == some .eq) = true := tab tabL n hn
/-- What one note adds. -/
def oneRe (ok : Bool) : Nat := if ok = true then 4607182418800017408 else 0
def oneIm (ok : Bool) : Nat := if ok = true then 0 else 4607182418800017408
theorem csub (a b : Nat) (ok : Bool) (ha : a ≤ 200) (hb : b ≤ 200) (h : if ok = true then 1 ≤ a else 1 ≤ b) : cSumBits .sub .f64 (fl a) (fl b) (oneRe ok) (oneIm ok) = some (fl (if ok = true then a - 1 else a), fl (if ok = true then b else b - 1)) := by
  cases ok
  · simp only [oneRe, oneIm] at *
    simp only [Bool.false_eq_true, if_false] at *
    obtain ⟨m, rfl⟩ : ∃ m, b = m + 1 := ⟨b - 1, by omega⟩
    unfold cSumBits
    rw [sub0 a (by omega), sub1 m (by omega)]
    rfl
  · simp only [oneRe, oneIm] at *
    simp only [if_true] at *
    obtain ⟨m, rfl⟩ : ∃ m, a = m + 1 := ⟨a - 1, by omega⟩
    unfold cSumBits
    rw [sub0 b (by omega), sub1 m (by omega)]
    rfl
theorem cadd (a b : Nat) (ok : Bool) (ha : a ≤ 200) (hb : b ≤ 200) : cSumBits .add .f64 (fl a) (fl b) (oneRe ok) (oneIm ok) = some (fl (if ok = true then a + 1 else a), fl (if ok = true then b else b + 1)) := by
  cases ok
  · simp only [oneRe, oneIm, Bool.false_eq_true, if_false]
    unfold cSumBits
    rw [add0 a (by omega), add1 b (by omega)]
    rfl
  · simp only [oneRe, oneIm, if_true]
    unfold cSumBits
    rw [add0 b (by omega), add1 a (by omega)]
    rfl
structure Wn where
  l : List Bool
  at_ : Nat
  kept : Nat
  good : Nat
  bad : Nat
def Wn.cells (W : Wn) (c : Nat) : List Value := [.slice (some ⟨c, 0, none⟩) W.l.length W.l.length, .int .i64 W.at_, .int .i64 W.kept, .complex .f64 (fl W.good) (fl W.bad)]
def oldB (W : Wn) : Bool := W.l.getD W.at_ false
def good1 (W : Wn) : Nat := if W.kept = W.l.length then (if oldB W = true then W.good - 1 else W.good) else W.good
def bad1 (W : Wn) : Nat := if W.kept = W.l.length then (if oldB W = true then W.bad else W.bad - 1) else W.bad
def noteW (W : Wn) (ok : Bool) : Wn :=
  ⟨W.l.set W.at_ ok, (W.at_ + 1) % W.l.length, if W.kept = W.l.length then W.kept else W.kept + 1, if ok = true then good1 W + 1 else good1 W, if ok = true then bad1 W else bad1 W + 1⟩
def clearW (W : Wn) : Wn := ⟨W.l, 0, 0, 0, 0⟩
def sizeW (n : Int) : Nat := (if n < 1 then 1 else if n > 1000 then 1000 else n).toNat
theorem sizeW_b (n : Int) : 1 ≤ sizeW n ∧ sizeW n ≤ 1000 := by
  unfold sizeW
  (repeat' split) <;> omega
def newW (m : Nat) : Wn := ⟨List.replicate m false, 0, 0, 0, 0⟩
/-- The notes that a window of n keeps, one more. -/
def keep (n : Nat) (h : List Bool) (ok : Bool) : List Bool := (if h.length = n then h.tail else h) ++ [ok]
theorem keep_len (n : Nat) (h : List Bool) (ok : Bool) (hn : 1 ≤ n) (hl : h.length ≤ n) : (keep n h ok).length = if h.length = n then n else h.length + 1 := by
  unfold keep
  split
  · simp; omega
  · simp
theorem keep_le (n : Nat) (h : List Bool) (ok : Bool) (hn : 1 ≤ n) (hl : h.length ≤ n) : (keep n h ok).length ≤ n ∧ (keep n h ok).length ≤ h.length + 1 := by
  rw [keep_len n h ok hn hl]
  split <;> omega
/-- The window keeps the notes h, the eldest first. -/
structure Keeps (W : Wn) (h : List Bool) : Prop where
  len : h.length = W.kept
  le : W.kept ≤ W.l.length
  one : 1 ≤ W.l.length
  most : W.l.length ≤ 1000
  at_ : W.at_ < W.l.length
  lies : (W.kept < W.l.length ∧ W.at_ = W.kept ∧ W.l.take W.kept = h) ∨ (W.kept = W.l.length ∧ W.l.drop W.at_ ++ W.l.take W.at_ = h)
  good : W.good = h.count true
  bad : W.bad = h.count false
theorem count_both (h : List Bool) : h.count true + h.count false = h.length := by
  induction h with
  | nil => rfl
  | cons x h ih => cases x <;> simp [List.count_cons] <;> omega
theorem Keeps.start (m : Nat) (h1 : 1 ≤ m) (h2 : m ≤ 1000) : Keeps (newW m) [] := by
  refine ⟨rfl, by simp [newW], by simpa [newW] using h1, by simpa [newW] using h2, by simp [newW]; omega, .inl ⟨by simp [newW]; omega, rfl, by simp [newW]⟩, rfl, rfl⟩
theorem Keeps.clear {W : Wn} {h : List Bool} (k : Keeps W h) : Keeps (clearW W) [] :=
  ⟨rfl, Nat.zero_le _, k.one, k.most, k.one, .inl ⟨k.one, rfl, rfl⟩, rfl, rfl⟩
theorem Keeps.sum {W : Wn} {h : List Bool} (k : Keeps W h) : W.good + W.bad = W.kept := by rw [k.good, k.bad, count_both, k.len]
/-- A full window's eldest note is the one under its place. -/
theorem Keeps.old {W : Wn} {h : List Bool} (k : Keeps W h) (hf : W.kept = W.l.length) : h = oldB W :: h.tail := by
  rcases k.lies with ⟨h1, _⟩ | ⟨_, h2⟩
  · omega
  · have ho : oldB W = W.l[W.at_]'k.at_ := by simp [oldB, List.getD, k.at_]
    rw [← h2, List.drop_eq_getElem_cons k.at_, List.cons_append, List.tail_cons, ho]
theorem Keeps.need {W : Wn} {h : List Bool} (k : Keeps W h) (hf : W.kept = W.l.length) : if oldB W = true then 1 ≤ W.good else 1 ≤ W.bad := by
  have := k.old hf
  rw [k.good, k.bad, this]
  cases oldB W <;> simp
theorem Keeps.note {W : Wn} {h : List Bool} (k : Keeps W h) (ok : Bool) : Keeps (noteW W ok) (keep W.l.length h ok) := by
  obtain ⟨k1, k2, k3, k4, k5, k6, k7, k8⟩ := k
  have kk : Keeps W h := ⟨k1, k2, k3, k4, k5, k6, k7, k8⟩
  have hlen := keep_len W.l.length h ok k3 (by omega)
  refine ⟨?_, ?_, by simpa [noteW] using k3, by simpa [noteW] using k4, by simp only [noteW, List.length_set]; exact Nat.mod_lt _ (by omega), ?_, ?_, ?_⟩
  · rw [hlen, k1]
    simp only [noteW]
    split <;> omega
  · simp only [noteW, List.length_set]
    split <;> omega
  · simp only [noteW, List.length_set]
    rcases k6 with ⟨h1, h2, h3⟩ | ⟨h1, h2⟩
    · have hne : ¬ W.kept = W.l.length := by omega
      rw [if_neg hne]
      have e1 : (W.l.set W.at_ ok).take (W.kept + 1) = h ++ [ok] := by
        rw [List.take_succ_eq_append_getElem (by simp; omega), List.take_set_of_le (by omega), h3]
        simp [h2]
      have e2 : keep W.l.length h ok = h ++ [ok] := by unfold keep; rw [if_neg (by omega)]
      by_cases hl : W.kept + 1 < W.l.length
      · exact .inl ⟨hl, by rw [h2, Nat.mod_eq_of_lt hl], by rw [e1, e2]⟩
      · have hk : W.kept + 1 = W.l.length := by omega
        refine .inr ⟨hk, ?_⟩
        rw [show (W.at_ + 1) % W.l.length = 0 by rw [h2, hk, Nat.mod_self]]
        rw [List.drop_zero, List.take_zero, List.append_nil, e2, ← e1]
        exact (List.take_of_length_le (by simp; omega)).symm
    · rw [if_pos h1]
      refine .inr ⟨h1, ?_⟩
      have hh := kk.old h1
      have ht : h.tail = W.l.drop (W.at_ + 1) ++ W.l.take W.at_ := by
        rw [← h2, List.drop_eq_getElem_cons k5]
        rfl
      have e2 : keep W.l.length h ok = W.l.drop (W.at_ + 1) ++ (W.l.take W.at_ ++ [ok]) := by
        unfold keep
        rw [if_pos (by omega), ht, List.append_assoc]
      have e1 : (W.l.set W.at_ ok).take (W.at_ + 1) = W.l.take W.at_ ++ [ok] := by
        rw [List.take_succ_eq_append_getElem (by simpa using k5), List.take_set_of_le (by omega)]
        simp
      by_cases hl : W.at_ + 1 < W.l.length
      · rw [Nat.mod_eq_of_lt hl, e1, e2, List.drop_set_of_lt (by omega)]
      · have hk : W.at_ + 1 = W.l.length := by omega
        rw [show (W.at_ + 1) % W.l.length = 0 by rw [hk, Nat.mod_self], List.drop_zero, List.take_zero, List.append_nil, e2, ← e1]
        rw [List.drop_of_length_le (by omega), List.nil_append]
        exact (List.take_of_length_le (by simp; omega)).symm
  · simp only [noteW, good1]
    unfold keep
    rw [k1]
    by_cases hf : W.kept = W.l.length
    · rw [if_pos hf, if_pos hf, List.count_append]
      have hh := kk.old hf
      have hg := k7
      rw [hh] at hg
      cases ok <;> cases ho : oldB W <;> simp [ho] at hg ⊢ <;> omega
    · rw [if_neg hf, if_neg hf, List.count_append, ← k7]
      cases ok <;> simp
  · simp only [noteW, bad1]
    unfold keep
    rw [k1]
    by_cases hf : W.kept = W.l.length
    · rw [if_pos hf, if_pos hf, List.count_append]
      have hh := kk.old hf
      have hg := k8
      rw [hh] at hg
      cases ok <;> cases ho : oldB W <;> simp [ho] at hg ⊢ <;> omega
    · rw [if_neg hf, if_neg hf, List.count_append, ← k8]
      cases ok <;> simp
end Go.Proofs.Ytoaoebkllcmanaa.TaP
