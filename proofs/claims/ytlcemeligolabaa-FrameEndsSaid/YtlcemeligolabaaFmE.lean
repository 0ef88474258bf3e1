/- Plain law: what a frame's end is told as. -/
import Derived.Test.YtlcemeligolabaaFmG
namespace Go.Proofs.Ytlcemeligolabaa.FmE
open Go.RowKit Go.Proofs.YtlcemeligolabaaW.PrintWords Go.Proofs.YtlcemeligolabaaW.PrintLast Go.Proofs.YtlcemeligolabaaW.PrintMore Go.Proofs.Ytlcemeligolabaa.K Go.Proofs.Ytlcemeligolabaa.FmP Go.Proofs.Ytlcemeligolabaa.FmA Go.Proofs.Ytlcemeligolabaa.FmG Go.Proofs.Ytlcemeligolabaa.FcP Go.Proofs.Ytlcemeligolabaa.FcA Go.Proofs.Ytlcemeligolabaa.FcB Go.Proofs.Ytlcemeligolabaa.FcC Go.Proofs.Ytlcemeligolabaa.FcD Go.Proofs.Ytlcemeligolabaa.OctPure
set_option linter.unusedVariables false
set_option linter.unusedSimpArgs false
attribute [local go_sem] max2_int min2_int max_two min_two

theorem val_zeros (m : Nat) : val (List.replicate m 0) = 0 := by
  induction m with
  | zero => rfl
  | succ m ih => rw [List.replicate_succ, val, ih]; rfl
theorem feed_zeros (p x m : Nat) : feed p x (List.replicate m 0) = it p (8 * m) x := by rw [feed_val, val_zeros, List.length_replicate, Nat.xor_zero]
theorem sum_turn (p w m : Nat) (hp : 2 ^ w ≤ p) (hq : p < 2 ^ (w + 1)) (hw : 7 ≤ w) : sumN p (w + 1) (1 :: List.replicate m 0) ≠ sumN p (w + 1) (0 :: List.replicate m 0) := by
  intro h
  have hx : 2 ^ (w + 1) - 1 < 2 ^ (w + 1) := by have := Nat.two_pow_pos (w + 1); omega
  have h1 : 1 < 2 ^ (w + 1) := Nat.lt_of_lt_of_le (by decide : 1 < 2 ^ 1) (Nat.pow_le_pow_right (by decide) (by omega))
  have l1 := feed_lt p (w + 1) (by omega) hq (1 :: List.replicate m 0) _ hx (by intro c hc; simp at hc; omega)
  have l2 := feed_lt p (w + 1) (by omega) hq (0 :: List.replicate m 0) _ hx (by intro c hc; simp at hc; omega)
  have e : feed p (2 ^ (w + 1) - 1) (1 :: List.replicate m 0) = feed p (2 ^ (w + 1) - 1) (0 :: List.replicate m 0) := by
    unfold sumN com at h
    omega
  have b1 := Nat.xor_lt_two_pow hx h1
  rw [feed_cons, feed_cons, feed_zeros, feed_zeros, Nat.xor_zero] at e
  have e2 := it_inj p w hp hq _ _ _ (it_lt p (w + 1) hq 8 _ b1) (it_lt p (w + 1) hq 8 _ hx) e
  have e3 := it_inj p w hp hq 8 _ _ b1 hx e2
  have e4 : (2 ^ (w + 1) - 1) ^^^ ((2 ^ (w + 1) - 1) ^^^ 1) = (2 ^ (w + 1) - 1) ^^^ (2 ^ (w + 1) - 1) := by rw [e3]
  rw [← Nat.xor_assoc, Nat.xor_self, Nat.zero_xor] at e4
  omega
def zs (n : Nat) : List Int := List.replicate n 0
theorem nat_zs (m : Nat) (c : Nat) : nat ((c : Int) :: zs m) = c :: List.replicate m 0 := by simp [nat, zs]
theorem byi_inj (n x y : Nat) (hx : x < 256 ^ n) (hy : y < 256 ^ n) (h : byi n x = byi n y) : x = y := by
  have h1 : bys n x = bys n y := by
    unfold byi at h
    have := congrArg (List.map Int.toNat) h
    simpa [List.map_map, Function.comp_def] using this
  rw [← val_bys n x hx, ← val_bys n y hy, h1]
theorem tail_turn (m : Nat) (wide : Bool) : tailL (1 :: zs m) wide ≠ tailL (zs (m + 1)) wide := by
  intro h
  have e : zs (m + 1) = ((0 : Nat) : Int) :: zs m := rfl
  rw [e] at h
  have e1 : (1 : Int) = ((1 : Nat) : Int) := rfl
  rw [e1] at h
  unfold tailL at h
  cases wide
  · simp only [Bool.false_eq_true, if_false] at h
    have := byi_inj 2 _ _ (shortN_lt _) (shortN_lt _) h
    unfold shortN at this
    rw [nat_zs, nat_zs] at this
    exact sum_turn 33800 15 m (by decide) (by decide) (by decide) this
  · simp only [if_true] at h
    have := byi_inj 4 _ _ (longN_lt _) (longN_lt _) h
    unfold longN at this
    rw [nat_zs, nat_zs] at this
    exact sum_turn 3988292384 31 m (by decide) (by decide) (by decide) this
theorem stuff_id (l : List Int) (h : ∀ c ∈ l, c ≠ 126 ∧ c ≠ 125) : stuffO l = l := by
  induction l with
  | nil => rfl
  | cons x xs ih =>
    have hx := h x (by simp)
    rw [stuffO, if_neg (by omega), ih (fun c hc => h c (by simp [hc]))]
theorem after_plain (wide : Bool) (m : Int) (l : List Int) (h : ∀ c ∈ l, c ≠ 126 ∧ c ≠ 125) (hne : l ≠ []) (hl : (l.length : Int) ≤ m) : after (beg wide m) l = ⟨wide, m, 2, l⟩ := by
  have := after_stuff l (beg wide m) (Or.inl rfl) (by simpa [beg] using hl) hne
  rw [stuff_id l h] at this
  simpa [beg] using this
theorem rd_of_mem {l : List Int} {c : Int} (h : c ∈ l) : ∃ j : Nat, j < l.length ∧ rd l j = c := by
  obtain ⟨j, hj, e⟩ := List.getElem_of_mem h
  exact ⟨j, hj, by simp [rd, List.getD_eq_getElem?_getD, hj, e]⟩
/-- Octet j is none that ends the law's look. -/
def Cl (which : Int) (B : List Int) (j : Nat) : Prop := rd B j ≠ 126 ∧ (rd B j = 125 → which = 2 ∧ ¬ (j : Int) < (B.length : Int) - 1)
def EndsR (which : Int) (wide : Bool) (M want : Int) (B : List Int) : Prop :=
  (∀ j, j < B.length → Cl which B j) → ∃ body, (after (beg wide (cut5 M + ((sizeT wide : Nat) : Int))) B).told = (want, body) ∧ (want = 1 ↔ 0 < body.length)
theorem cl_all {which : Int} {B : List Int} (h : ∀ j, j < B.length → Cl which B j) (hw : which ≠ 2) : ∀ c ∈ B, c ≠ 126 ∧ c ≠ 125 := fun c hc => by
  obtain ⟨j, hj, e⟩ := rd_of_mem hc
  have := h j hj
  unfold Cl at this
  rw [e] at this
  exact ⟨this.1, fun h5 => hw (this.2 h5).1⟩
theorem cut5_id (n : Int) (h1 : 1 ≤ n) (h2 : n ≤ 65536) : cut5 n = n := by
  unfold cut5
  rw [if_neg (by omega), if_neg (by omega)]
section
variable (n : Nat) (wide : Bool)
def zsum : List Int := zs n ++ tailL (zs n) wide
theorem zsum_len : (zsum n wide).length = n + sizeT wide := by simp [zsum, zs, tailL_len]
theorem zs_oct : octOk (zs n) := fun x hx => by simp [zs] at hx; omega
theorem zsum_oct : octOk (zsum n wide) := sum_oct (zs_oct n) wide
variable (h1 : 1 ≤ n) (h2 : n ≤ 50)
theorem ends0 : EndsR 0 wide 50 2 ((zsum n wide).take (sizeT wide)) := fun h => by
  have hs := sizeT_b wide
  have hl : ((zsum n wide).take (sizeT wide)).length = sizeT wide := by rw [List.length_take, zsum_len]; omega
  rw [after_plain _ _ _ (cl_all h (by decide)) (by intro e; rw [e] at hl; simp at hl; omega) (by rw [hl, cut5_id 50 (by omega) (by omega)]; omega)]
  refine ⟨[], ?_, by simp⟩
  show endK wide ((zsum n wide).take (sizeT wide)) = _
  unfold endK
  rw [if_pos (by omega)]
theorem ends4 : EndsR 4 wide 50 0 [] := fun h => ⟨[], rfl, by simp⟩
include h1 h2
theorem ends1 : EndsR 1 wide n 3 (zsum n wide ++ [1]) := fun h => by
  have hs := sizeT_b wide
  have hc := cl_all h (by decide)
  have hg : (after (beg wide (cut5 n + ((sizeT wide : Nat) : Int))) (zsum n wide ++ [1])).st = 4 := by
    have := after_giant (zsum n wide ++ [1]) (beg wide (cut5 n + ((sizeT wide : Nat) : Int))) (Or.inl rfl) (by simp [beg]; rw [cut5_id n (by omega) (by omega)]; omega) (by simp [beg, zsum_len]; rw [cut5_id n (by omega) (by omega)]; omega)
    rwa [stuff_id _ hc] at this
  refine ⟨[], ?_, by simp⟩
  unfold Re.told
  rw [hg]
  rfl
theorem ends2 : EndsR 2 wide 50 5 (zsum n wide ++ [125]) := fun h => by
  have hs := sizeT_b wide
  have hc : ∀ c ∈ zsum n wide, c ≠ 126 ∧ c ≠ 125 := fun c hc => by
    obtain ⟨j, hj, e⟩ := rd_of_mem hc
    have := h j (by simp; omega)
    have e2 : rd (zsum n wide ++ [125]) j = c := by
      rw [← e]
      simp [rd, List.getD_eq_getElem?_getD, List.getElem?_append_left hj]
    unfold Cl at this
    rw [e2] at this
    exact ⟨this.1, fun h5 => (this.2 h5).2 (by simp; omega)⟩
  have hl := zsum_len n wide
  have e : after (beg wide (cut5 50 + ((sizeT wide : Nat) : Int))) (zsum n wide ++ [125]) = ⟨wide, cut5 50 + ((sizeT wide : Nat) : Int), 3, zsum n wide⟩ := by
    rw [after_append, after_plain _ _ _ hc (by intro e; rw [e] at hl; simp at hl; omega) (by rw [hl, cut5_id 50 (by omega) (by omega)]; omega)]
    rfl
  rw [e]
  exact ⟨[], rfl, by simp⟩
theorem ends3 : EndsR 3 wide 50 4 ((zsum n wide).set 0 1) := fun h => by
  have hs := sizeT_b wide
  obtain ⟨m, rfl⟩ : ∃ m, n = m + 1 := ⟨n - 1, by omega⟩
  have e : (zsum (m + 1) wide).set 0 1 = (1 :: zs m) ++ tailL (zs (m + 1)) wide := rfl
  have hl : ((zsum (m + 1) wide).set 0 1).length = m + 1 + sizeT wide := by rw [List.length_set, zsum_len]
  rw [after_plain _ _ _ (cl_all h (by decide)) (by intro e; rw [e] at hl; simp at hl; omega) (by rw [hl, cut5_id 50 (by omega) (by omega)]; omega)]
  refine ⟨[], ?_, by simp⟩
  show endK wide ((zsum (m + 1) wide).set 0 1) = _
  have hz : (1 :: zs m).length = m + 1 := by simp [zs]
  have t1 : ((1 :: zs m) ++ tailL (zs (m + 1)) wide).take (m + 1) = 1 :: zs m := List.take_left' hz
  have t2 : ((1 :: zs m) ++ tailL (zs (m + 1)) wide).drop (m + 1) = tailL (zs (m + 1)) wide := List.drop_left' hz
  unfold endK
  rw [if_neg (by omega), hl, Nat.add_sub_cancel, e, t1, t2, if_neg (tail_turn m wide)]
theorem ends5 (which : Int) (hw : which ≠ 2) : EndsR which wide n 1 (zsum n wide) := fun h => by
  have hs := sizeT_b wide
  have hl := zsum_len n wide
  rw [after_plain _ _ _ (cl_all h hw) (by intro e; rw [e] at hl; simp at hl; omega) (by rw [hl, cut5_id n (by omega) (by omega)]; omega)]
  refine ⟨zs n, ?_, by simp [zs]; omega⟩
  show endK wide (zsum n wide) = _
  rw [zsum, endK_sum, if_neg (by intro e; have := congrArg List.length e; simp [zs] at this; omega)]
end
theorem new_flag (M : Int) (wide : Bool) : (newR M wide).push 126 = beg wide (cut5 M + ((sizeT wide : Nat) : Int)) := rfl
theorem new_none (M : Int) (wide : Bool) : (newR M wide).out 126 = (0, []) := rfl

end Go.Proofs.Ytlcemeligolabaa.FmE
