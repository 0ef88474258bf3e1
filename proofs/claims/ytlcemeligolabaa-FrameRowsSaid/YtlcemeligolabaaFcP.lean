/- The plain law of the sums: registers, linearity, errors told. -/
import Derived.Test.YtlcemeligolabaaK2
namespace Go.Proofs.Ytlcemeligolabaa.FcP
set_option linter.unusedVariables false
set_option linter.unusedSimpArgs false
def st (p x : Nat) : Nat := if x % 2 = 1 then (x / 2) ^^^ p else x / 2
def it (p : Nat) : Nat → Nat → Nat
  | 0, x => x
  | n + 1, x => it p n (st p x)
theorem xor_mod (x y : Nat) : (x ^^^ y) % 2 = (x % 2 + y % 2) % 2 := by
  have h := Nat.testBit_xor x y 0
  simp only [Nat.testBit_zero] at h
  have hx := Nat.mod_two_eq_zero_or_one x
  have hy := Nat.mod_two_eq_zero_or_one y
  have hz := Nat.mod_two_eq_zero_or_one (x ^^^ y)
  rcases hx with hx | hx <;> rcases hy with hy | hy <;> rcases hz with hz | hz <;> simp_all
theorem xor_div (x y : Nat) : (x ^^^ y) / 2 = (x / 2) ^^^ (y / 2) := Nat.xor_div_two
theorem st_xor (p x y : Nat) : st p (x ^^^ y) = st p x ^^^ st p y := by
  unfold st
  rw [xor_mod, xor_div]
  have hx := Nat.mod_two_eq_zero_or_one x
  have hy := Nat.mod_two_eq_zero_or_one y
  rcases hx with hx | hx <;> rcases hy with hy | hy <;> simp [hx, hy]
  · ac_rfl
  · ac_rfl
  · calc x / 2 ^^^ y / 2 = (x / 2 ^^^ y / 2) ^^^ (p ^^^ p) := by simp
      _ = _ := by ac_rfl
theorem it_xor (p n : Nat) : ∀ x y, it p n (x ^^^ y) = it p n x ^^^ it p n y := by
  induction n with
  | zero => intro x y; rfl
  | succ n ih => intro x y; simp only [it]; rw [st_xor, ih]
def by8 (p x : Nat) : Nat := it p 8 x
def feed (p x : Nat) (l : List Nat) : Nat := l.foldl (fun x c => by8 p (x ^^^ c)) x
theorem by8_xor (p x y : Nat) : by8 p (x ^^^ y) = by8 p x ^^^ by8 p y := it_xor p 8 x y
theorem feed_nil (p x : Nat) : feed p x [] = x := rfl
theorem feed_cons (p x c : Nat) (l : List Nat) : feed p x (c :: l) = feed p (by8 p (x ^^^ c)) l := rfl

theorem st_zero (p : Nat) : st p 0 = 0 := by simp [st]
theorem it_zero (p n : Nat) : it p n 0 = 0 := by induction n with
  | zero => rfl
  | succ n ih => simp only [it, st_zero, ih]
theorem it_add (p m n : Nat) : ∀ x, it p (m + n) x = it p n (it p m x) := by
  induction m with
  | zero => intro x; simp [it]
  | succ m ih => intro x; rw [Nat.succ_add]; simp only [it]; exact ih _
def zipx : List Nat → List Nat → List Nat
  | a :: l, b :: m => (a ^^^ b) :: zipx l m
  | _, _ => []
theorem feed_xor (p : Nat) : ∀ (l m : List Nat) (x y : Nat), l.length = m.length → feed p (x ^^^ y) (zipx l m) = feed p x l ^^^ feed p y m := by
  intro l
  induction l with
  | nil => intro m x y h; cases m with
    | nil => simp only [zipx, feed_nil]
    | cons => simp at h
  | cons a l ih =>
    intro m x y h
    cases m with
    | nil => simp at h
    | cons b m =>
      simp only [zipx, feed_cons]
      rw [show x ^^^ y ^^^ (a ^^^ b) = (x ^^^ a) ^^^ (y ^^^ b) by ac_rfl, by8_xor]
      exact ih m _ _ (by simpa using h)
theorem zipx_len : ∀ (l m : List Nat), l.length = m.length → (zipx l m).length = l.length := by
  intro l
  induction l with
  | nil => intro m h; rfl
  | cons a l ih => intro m h; cases m with
    | nil => simp at h
    | cons b m => simp only [zipx, List.length_cons]; rw [ih m (by simpa using h)]
theorem feed_append (p : Nat) : ∀ (l m : List Nat) (x : Nat), feed p x (l ++ m) = feed p (feed p x l) m := by
  intro l
  induction l with
  | nil => intro m x; rfl
  | cons a l ih => intro m x; exact ih _ _
/-- what lies above the low bits comes down. -/
theorem it_shift (p k : Nat) : ∀ n, k ≤ n → ∀ x, it p k (x * 2 ^ k) = x := by
  intro n
  induction k generalizing n with
  | zero => intro _ x; simp [it]
  | succ k ih =>
    intro hk x
    simp only [it]
    have : st p (x * 2 ^ (k + 1)) = x * 2 ^ k := by
      unfold st
      rw [Nat.pow_succ, ← Nat.mul_assoc, if_neg (by omega)]
      omega
    rw [this]
    exact ih (n - 1) (by omega) x

def val : List Nat → Nat
  | [] => 0
  | c :: l => c ^^^ (val l * 256)
theorem feed_val (p : Nat) : ∀ (l : List Nat) (x : Nat), feed p x l = it p (8 * l.length) (x ^^^ val l) := by
  intro l
  induction l with
  | nil => intro x; simp [feed_nil, val, it]
  | cons c l ih =>
    intro x
    rw [feed_cons, ih, val, List.length_cons, show 8 * (l.length + 1) = 8 + 8 * l.length by omega, it_add, ← Nat.xor_assoc, it_xor p 8 (x ^^^ c)]
    rw [show val l * 256 = val l * 2 ^ 8 from rfl, it_shift p 8 8 (by omega)]
    rfl
theorem it_high (p N k m : Nat) (h : k ≤ N) : it p N (m * 2 ^ k) = it p (N - k) m := by
  obtain ⟨j, rfl⟩ : ∃ j, N = k + j := ⟨N - k, by omega⟩
  rw [it_add, it_shift p k k (Nat.le_refl _), show k + j - k = j by omega]
theorem xor_ne (x y : Nat) (h : x ≠ y) : x ^^^ y ≠ 0 := by
  intro h0
  apply h
  have : x ^^^ y ^^^ y = 0 ^^^ y := by rw [h0]
  simpa [Nat.xor_assoc] using this
theorem xor_eq (x y : Nat) (h : x ^^^ y = 0) : x = y := by
  apply Classical.byContradiction
  intro hne
  exact xor_ne x y hne h
theorem st_alive (p w x : Nat) (hp : 2 ^ w ≤ p) (hq : p < 2 ^ (w + 1)) (h0 : x ≠ 0) (h1 : x < 2 ^ (w + 1)) : st p x ≠ 0 ∧ st p x < 2 ^ (w + 1) := by
  rw [Nat.pow_succ] at *
  unfold st
  split
  · refine ⟨xor_ne _ _ (by omega), ?_⟩
    rw [← Nat.pow_succ] at *
    exact Nat.xor_lt_two_pow (by omega) hq
  · omega
theorem st_lt (p w x : Nat) (hq : p < 2 ^ w) (h1 : x < 2 ^ w) : st p x < 2 ^ w := by
  unfold st
  split
  · exact Nat.xor_lt_two_pow (by omega) hq
  · omega
theorem it_lt (p w : Nat) (hq : p < 2 ^ w) : ∀ n x, x < 2 ^ w → it p n x < 2 ^ w := by
  intro n
  induction n with
  | zero => intro x h; exact h
  | succ n ih => intro x h; exact ih _ (st_lt p w x hq h)
theorem it_alive (p w : Nat) (hp : 2 ^ w ≤ p) (hq : p < 2 ^ (w + 1)) : ∀ n x, x ≠ 0 → x < 2 ^ (w + 1) → it p n x ≠ 0 := by
  intro n
  induction n with
  | zero => intro x h _; exact h
  | succ n ih =>
    intro x h0 h1
    obtain ⟨a, b⟩ := st_alive p w x hp hq h0 h1
    exact ih _ a b
theorem it_inj (p w : Nat) (hp : 2 ^ w ≤ p) (hq : p < 2 ^ (w + 1)) (n x y : Nat) (hx : x < 2 ^ (w + 1)) (hy : y < 2 ^ (w + 1)) (h : it p n x = it p n y) : x = y := by
  apply Classical.byContradiction
  intro hne
  apply it_alive p w hp hq n (x ^^^ y) (xor_ne _ _ hne) (Nat.xor_lt_two_pow hx hy)
  rw [it_xor, h, Nat.xor_self]
theorem feed_lt (p w : Nat) (hw : 8 ≤ w) (hq : p < 2 ^ w) : ∀ (l : List Nat) (x : Nat), x < 2 ^ w → (∀ c ∈ l, c < 256) → feed p x l < 2 ^ w := by
  intro l
  induction l with
  | nil => intro x h _; exact h
  | cons c l ih =>
    intro x h hl
    rw [feed_cons]
    refine ih _ (it_lt p w hq 8 _ (Nat.xor_lt_two_pow h ?_)) (fun c hc => hl c (by simp [hc]))
    have := hl c (by simp)
    have h2 : 2 ^ 8 ≤ 2 ^ w := Nat.pow_le_pow_right (by omega) hw
    omega
/-- The complement of w bits. -/
def com (w x : Nat) : Nat := 2 ^ w - 1 - x
theorem com_xor (w x : Nat) (h : x < 2 ^ w) : com w x = x ^^^ (2 ^ w - 1) := by
  unfold com
  apply Nat.eq_of_testBit_eq
  intro i
  rw [Nat.testBit_xor, Nat.testBit_two_pow_sub_one, show 2 ^ w - 1 - x = 2 ^ w - (x + 1) by omega, Nat.testBit_two_pow_sub_succ h]
  by_cases hi : i < w
  · simp [hi]
  · have : x.testBit i = false := Nat.testBit_lt_two_pow (Nat.lt_of_lt_of_le h (Nat.pow_le_pow_right (by omega) (by omega)))
    simp [hi, this]
/-- The bytes of a number, the low ones first. -/
def bys : Nat → Nat → List Nat
  | 0, _ => []
  | n + 1, x => x % 256 :: bys n (x / 256)
theorem bys_len (n : Nat) : ∀ x, (bys n x).length = n := by
  induction n with
  | zero => intro x; rfl
  | succ n ih => intro x; simp [bys, ih]
theorem bys_lt (n : Nat) : ∀ x c, c ∈ bys n x → c < 256 := by
  induction n with
  | zero => intro x c h; simp [bys] at h
  | succ n ih =>
    intro x c h
    simp only [bys, List.mem_cons] at h
    rcases h with rfl | h
    · omega
    · exact ih _ _ h
theorem low_high (c y : Nat) (h : c < 256) : c ^^^ (y * 256) = c + y * 256 := by
  have := Nat.two_pow_add_eq_or_of_lt (i := 8) (b := c) (by omega) y
  rw [show y * 256 = 2 ^ 8 * y by omega, Nat.add_comm, this, Nat.xor_comm]
  apply Nat.eq_of_testBit_eq
  intro i
  rw [Nat.testBit_xor, Nat.testBit_or]
  by_cases hi : i < 8
  · have : (2 ^ 8 * y).testBit i = false := by rw [Nat.testBit_two_pow_mul]; simp; omega
    simp [this]
  · have : c.testBit i = false := Nat.testBit_lt_two_pow (Nat.lt_of_lt_of_le (show c < 2 ^ 8 by omega) (Nat.pow_le_pow_right (by omega) (by omega)))
    simp [this]
theorem val_bys (n : Nat) : ∀ x, x < 256 ^ n → val (bys n x) = x := by
  induction n with
  | zero => intro x h; simp [bys, val]; omega
  | succ n ih =>
    intro x h
    rw [Nat.pow_succ] at h
    rw [bys, val, ih _ (by omega), low_high _ _ (by omega)]
    omega
theorem val_lt : ∀ l : List Nat, (∀ c ∈ l, c < 256) → val l < 256 ^ l.length := by
  intro l
  induction l with
  | nil => intro _; simp [val]
  | cons c l ih =>
    intro h
    have h1 := h c (by simp)
    have h2 := ih (fun c hc => h c (by simp [hc]))
    rw [val, low_high _ _ h1, List.length_cons, Nat.pow_succ]
    omega
theorem bys_val : ∀ l : List Nat, (∀ c ∈ l, c < 256) → bys l.length (val l) = l := by
  intro l
  induction l with
  | nil => intro _; rfl
  | cons c l ih =>
    intro h
    have h1 := h c (by simp)
    rw [List.length_cons, bys, val, low_high _ _ h1, show (c + val l * 256) % 256 = c by omega, show (c + val l * 256) / 256 = val l by omega, ih (fun c hc => h c (by simp [hc]))]
theorem xor_256 (x y : Nat) : (x ^^^ y) * 256 = (x * 256) ^^^ (y * 256) := by
  have := Nat.shiftLeft_xor_distrib (a := x) (b := y) (i := 8)
  simpa only [Nat.shiftLeft_eq] using this
theorem val_set : ∀ (l : List Nat) (j r : Nat), j < l.length → val (l.set j ((l.getD j 0) ^^^ 2 ^ r)) = val l ^^^ 2 ^ (8 * j + r) := by
  intro l
  induction l with
  | nil => intro j r h; simp at h
  | cons c l ih =>
    intro j r h
    cases j with
    | zero =>
      simp only [List.set_cons_zero, val, List.getD_cons_zero, Nat.mul_zero, Nat.zero_add]
      ac_rfl
    | succ j =>
      simp only [List.set_cons_succ, val, List.getD_cons_succ]
      rw [ih j r (by simpa using h), Nat.xor_assoc, xor_256, show 8 * (j + 1) + r = (8 * j + r) + 8 by omega, Nat.pow_add _ (8 * j + r) 8]

theorem val_append : ∀ l m : List Nat, val (l ++ m) = val l ^^^ (val m * 256 ^ l.length) := by
  intro l
  induction l with
  | nil => intro m; simp [val]
  | cons c l ih =>
    intro m
    rw [List.cons_append, val, ih, val, List.length_cons, xor_256, Nat.xor_assoc, Nat.pow_succ, Nat.mul_assoc]
/-- A sum of w bits (n bytes): start with all ones, the complement at the end. -/
def sumN (p w : Nat) (l : List Nat) : Nat := com w (feed p (2 ^ w - 1) l)
theorem sumN_lt (p w : Nat) (l : List Nat) : sumN p w l < 2 ^ w := by
  have : 0 < 2 ^ w := Nat.pow_pos (by omega)
  unfold sumN com
  omega
theorem rest_iff (p w n : Nat) (hn : 8 * n = w + 1) (hp : 2 ^ w ≤ p) (hq : p < 2 ^ (w + 1)) (hw : 7 ≤ w) (l t : List Nat) (hl : ∀ c ∈ l, c < 256) (ht : ∀ c ∈ t, c < 256) (htn : t.length = n) :
    feed p (2 ^ (w + 1) - 1) (l ++ t) = it p (w + 1) (2 ^ (w + 1) - 1) ↔ t = bys n (sumN p (w + 1) l) := by
  have hx := feed_lt p (w + 1) (by omega) hq l (2 ^ (w + 1) - 1) (by have : 0 < 2 ^ (w + 1) := Nat.pow_pos (by omega); omega) hl
  have hv := val_lt t ht
  rw [htn, show (256 : Nat) = 2 ^ 8 from rfl, ← Nat.pow_mul, hn] at hv
  have hone : 2 ^ (w + 1) - 1 < 2 ^ (w + 1) := by have : 0 < 2 ^ (w + 1) := Nat.pow_pos (by omega); omega
  have hs := sumN_lt p (w + 1) l
  rw [feed_append, feed_val p t, htn, hn]
  constructor
  · intro h
    have h1 := it_inj p w hp hq (w + 1) _ _ (Nat.xor_lt_two_pow hx hv) hone h
    have h2 : val t = sumN p (w + 1) l := by
      unfold sumN
      rw [com_xor _ _ hx]
      generalize feed p (2 ^ (w + 1) - 1) l = x at h1 ⊢
      rw [← h1, ← Nat.xor_assoc, Nat.xor_self, Nat.zero_xor]
    rw [← h2, ← htn, bys_val t ht]
  · intro h
    have h2 : val t = sumN p (w + 1) l := by
      rw [h]
      exact val_bys n _ (by rw [show (256 : Nat) = 2 ^ 8 from rfl, ← Nat.pow_mul, hn]; exact hs)
    rw [h2]
    unfold sumN
    rw [com_xor _ _ hx, ← Nat.xor_assoc, Nat.xor_self, Nat.zero_xor]
/-- Bytes with their sum behind them, of which some of w + 1 bits side by side are turned, have no sum behind them. -/
theorem turned_told (p w n : Nat) (hn : 8 * n = w + 1) (hp : 2 ^ w ≤ p) (hq : p < 2 ^ (w + 1)) (hw : 7 ≤ w) (l l' t' : List Nat) (hl : ∀ c ∈ l, c < 256) (hl' : ∀ c ∈ l', c < 256) (ht' : ∀ c ∈ t', c < 256) (htn : t'.length = n) (hlen : l'.length = l.length)
    (k m : Nat) (hk : k ≤ 8 * (l.length + n)) (hm0 : m ≠ 0) (hm : m < 2 ^ (w + 1)) (hv : val (l' ++ t') = val (l ++ bys n (sumN p (w + 1) l)) ^^^ (m * 2 ^ k)) : t' ≠ bys n (sumN p (w + 1) l') := by
  intro h
  have h1 := (rest_iff p w n hn hp hq hw l' t' hl' ht' htn).2 h
  have h2 := (rest_iff p w n hn hp hq hw l _ hl (bys_lt n _) (bys_len n _)).2 rfl
  rw [← h2, feed_val, feed_val, hv, List.length_append, List.length_append, htn, hlen, bys_len, ← Nat.xor_assoc, it_xor, it_high p _ k m hk] at h1
  apply it_alive p w hp hq (8 * (l.length + n) - k) m hm0 hm
  have h3 := congrArg (fun z => it p (8 * (l.length + n)) (2 ^ (w + 1) - 1 ^^^ val (l ++ bys n (sumN p (w + 1) l))) ^^^ z) h1
  simp only [← Nat.xor_assoc, Nat.xor_self, Nat.zero_xor] at h3
  exact h3
theorem linear (p w : Nat) (hq : p < 2 ^ w) (hw : 8 ≤ w) (a b c : List Nat) (hb : b.length = a.length) (hc : c.length = a.length) (ha : ∀ x ∈ a, x < 256) (hb2 : ∀ x ∈ b, x < 256) (hc2 : ∀ x ∈ c, x < 256) :
    sumN p w (zipx (zipx a b) c) = (sumN p w a ^^^ sumN p w b) ^^^ sumN p w c := by
  have hone : 2 ^ w - 1 < 2 ^ w := by have : 0 < 2 ^ w := Nat.pow_pos (by omega); omega
  have fa := feed_lt p w hw hq a _ hone ha
  have fb := feed_lt p w hw hq b _ hone hb2
  have fc := feed_lt p w hw hq c _ hone hc2
  have e := feed_xor p (zipx a b) c ((2 ^ w - 1) ^^^ (2 ^ w - 1)) (2 ^ w - 1) (by rw [zipx_len _ _ hb.symm, hc])
  rw [feed_xor p a b _ _ hb.symm] at e
  have e2 : (2 ^ w - 1) ^^^ (2 ^ w - 1) ^^^ (2 ^ w - 1) = 2 ^ w - 1 := by simp
  rw [e2] at e
  unfold sumN
  rw [e, com_xor _ _ fa, com_xor _ _ fb, com_xor _ _ fc, com_xor _ _ (Nat.xor_lt_two_pow (Nat.xor_lt_two_pow fa fb) fc)]
  generalize feed p (2 ^ w - 1) a = x
  generalize feed p (2 ^ w - 1) b = y
  generalize feed p (2 ^ w - 1) c = z
  generalize 2 ^ w - 1 = o
  calc x ^^^ y ^^^ z ^^^ o = x ^^^ y ^^^ z ^^^ o ^^^ (o ^^^ o) := by simp
    _ = _ := by ac_rfl
end Go.Proofs.Ytlcemeligolabaa.FcP
