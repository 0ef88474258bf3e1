/- Plain facts on stuffed octets. No condition. -/
import Derived.RowKit
import Derived.Laws.BitsLemmas
namespace Go.Proofs.Ytlcemeligolabaa.OctPure
/-- What an octet that is stuffed is turned to. -/
def x32 (c : Int) : Int := bits .xor .u8 c 32
theorem x32_126 : x32 126 = 94 := by decide +kernel
theorem x32_125 : x32 125 = 93 := by decide +kernel
theorem x32_94 : x32 94 = 126 := by decide +kernel
theorem x32_93 : x32 93 = 125 := by decide +kernel
theorem x32_all : ∀ n : Fin 256, 0 ≤ x32 (n.val : Int) ∧ x32 (n.val : Int) ≤ 255 ∧ x32 (x32 (n.val : Int)) = (n.val : Int) := by decide +kernel
theorem x32_in (x : Int) (h0 : 0 ≤ x) (h1 : x ≤ 255) : 0 ≤ x32 x ∧ x32 x ≤ 255 := by
  have := x32_all ⟨x.toNat, by omega⟩
  simp only [Int.toNat_of_nonneg h0] at this
  exact ⟨this.1, this.2.1⟩
def octOk (l : List Int) : Prop := ∀ x ∈ l, 0 ≤ x ∧ x ≤ 255
def stuffO : List Int → List Int
  | [] => []
  | x :: xs => if x = 126 ∨ x = 125 then 125 :: x32 x :: stuffO xs else x :: stuffO xs
def unO : Bool → List Int → List Int → List Int × Int
  | false, [], acc => (acc, 0)
  | true, [], _ => ([], 4)
  | false, x :: xs, acc => if x = 125 then unO true xs acc else if x = 126 then ([], 2) else unO false xs (acc ++ [x])
  | true, x :: xs, acc => if x = 126 then ([], 2) else unO false xs (acc ++ [x32 x])
theorem stuffO_len (l : List Int) : l.length ≤ (stuffO l).length ∧ (stuffO l).length ≤ 2 * l.length := by
  induction l with
  | nil => simp [stuffO]
  | cons x xs ih => unfold stuffO; split <;> simp <;> omega
theorem stuffO_ok (l : List Int) (h : octOk l) : octOk (stuffO l) := by
  induction l with
  | nil => intro x hx; simp [stuffO] at hx
  | cons y ys ih =>
    have hy := h y (by simp)
    have ih' := ih (fun x hx => h x (by simp [hx]))
    intro x hx
    unfold stuffO at hx
    split at hx
    · simp only [List.mem_cons] at hx
      rcases hx with rfl | rfl | hx
      · omega
      · exact x32_in y hy.1 hy.2
      · exact ih' x hx
    · simp only [List.mem_cons] at hx
      rcases hx with rfl | hx
      · exact hy
      · exact ih' x hx
theorem stuffO_noflag (l : List Int) : ∀ x ∈ stuffO l, x ≠ 126 := by
  induction l with
  | nil => intro x hx; simp [stuffO] at hx
  | cons y ys ih =>
    intro x hx
    unfold stuffO at hx
    split at hx
    · rename_i h
      simp only [List.mem_cons] at hx
      rcases hx with rfl | rfl | hx
      · omega
      · rcases h with rfl | rfl
        · rw [x32_126]; omega
        · rw [x32_125]; omega
      · exact ih x hx
    · rename_i h
      simp only [List.mem_cons] at hx
      rcases hx with rfl | hx
      · omega
      · exact ih x hx
theorem unO_stuffO (l : List Int) : ∀ acc, unO false (stuffO l) acc = (acc ++ l, 0) := by
  induction l with
  | nil => intro acc; simp [stuffO, unO]
  | cons x xs ih =>
    intro acc
    unfold stuffO
    split
    · rename_i h
      rw [unO, if_pos rfl, unO]
      rcases h with rfl | rfl
      · rw [x32_126, if_neg (by omega), ih, x32_94]; simp
      · rw [x32_125, if_neg (by omega), ih, x32_93]; simp
    · rename_i h
      rw [unO, if_neg (by omega), if_neg (by omega), ih]
      simp
theorem stuffO_append (a b : List Int) : stuffO (a ++ b) = stuffO a ++ stuffO b := by
  induction a with
  | nil => rfl
  | cons x xs ih =>
    simp only [List.cons_append, stuffO]
    split <;> simp [ih]
theorem unO_len (l : List Int) : ∀ (s : Bool) (acc : List Int), (unO s l acc).1.length ≤ acc.length + l.length := by
  induction l with
  | nil => intro s acc; cases s <;> simp [unO]
  | cons x xs ih =>
    intro s acc
    cases s with
    | false =>
      unfold unO
      split
      · have := ih true acc; simp; omega
      · split
        · simp
        · have := ih false (acc ++ [x]); simp at this ⊢; omega
    | true =>
      unfold unO
      split
      · simp
      · have := ih false (acc ++ [x32 x]); simp at this ⊢; omega
/-- How many Flags and Escapes. -/
def special : List Int → Nat
  | [] => 0
  | x :: xs => (if x = 126 ∨ x = 125 then 1 else 0) + special xs
theorem stuffO_count (l : List Int) : (stuffO l).length = l.length + special l := by
  induction l with
  | nil => rfl
  | cons x xs ih => unfold stuffO special; split <;> simp [ih] <;> omega
end Go.Proofs.Ytlcemeligolabaa.OctPure
