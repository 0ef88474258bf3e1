/- A table of numbers that came, as plain data. -/
import Derived.Test.YtnelcmblcalknaaK2
namespace Go.Proofs.Ytnelcmblcalknaa.TwP
open Go.RowKit Go.Proofs.Ytnelcmblcalknaa.K
structure Tb where
  known : Bool
  high : Int
  at_ : Nat
  came : List Bool
def Tb.cells (T : Tb) (c : Nat) : List Value := [.bool T.known, .int .u32 T.high, .int .i64 T.at_, .slice (some ⟨c, 0, none⟩) T.came.length T.came.length]
structure Ok (T : Tb) : Prop where
  at_lt : T.at_ < T.came.length
  len : T.came.length ≤ 4096
  low : 0 ≤ T.high
  up : T.high < 4294967296
/-- The table at block g, its row at block c. -/
structure Is (w : World) (g c : Nat) (T : Tb) : Prop where
  tab : Ob w g 38 (T.cells c)
  row : Ob w c 4 (T.came.map Value.bool)
  ne : g ≠ c
def idx (T : Tb) (b : Nat) : Nat := (T.at_ + T.came.length - b) % T.came.length
def firstT (T : Tb) (b : Nat) : Tb := { T with came := T.came.set (idx T b) true }
def firstB (T : Tb) (b : Nat) : Bool := !(T.came.getD (idx T b) false)
def raiseT (T : Tb) : Tb := { T with at_ := (T.at_ + 1) % T.came.length, came := T.came.set ((T.at_ + 1) % T.came.length) false }
def raiseN : Nat → Tb → Tb
  | 0, T => T
  | k + 1, T => raiseN k (raiseT T)
def clearT (T : Tb) : Tb := { T with known := false, came := List.replicate T.came.length false }
def sub32 (a b : Int) : Int := (a - b) % 4294967296
def freshT (T : Tb) (n : Int) : Tb :=
  if T.known = false then firstT { T with known := true, high := n } 0
  else if sub32 T.high n = 0 then T
  else if sub32 n T.high < 2147483648 then firstT { raiseN (min (sub32 n T.high).toNat T.came.length) T with high := n } 0
  else if sub32 T.high n < T.came.length then firstT T (sub32 T.high n).toNat else T
def freshB (T : Tb) (n : Int) : Bool :=
  if T.known = false then firstB { T with known := true, high := n } 0
  else if sub32 T.high n = 0 then false
  else if sub32 n T.high < 2147483648 then firstB { raiseN (min (sub32 n T.high).toNat T.came.length) T with high := n } 0
  else if sub32 T.high n < T.came.length then firstB T (sub32 T.high n).toNat else false
def sizeQ (size : Int) : Nat := (if size < 1 then 1 else if size > 4096 then 4096 else size).toNat
def newT (size : Int) : Tb := ⟨false, 0, 0, List.replicate (sizeQ size) false⟩
theorem sizeQ_b (size : Int) : 1 ≤ sizeQ size ∧ sizeQ size ≤ 4096 := by
  unfold sizeQ
  (repeat' split) <;> omega
theorem Ok.new (size : Int) : Ok (newT size) := by
  have := sizeQ_b size
  refine ⟨?_, ?_, ?_, ?_⟩ <;> simp [newT] <;> omega
theorem Ok.first {T : Tb} (h : Ok T) (b : Nat) : Ok (firstT T b) := by
  obtain ⟨h1, h2, h3, h4⟩ := h
  exact ⟨by simpa [firstT] using h1, by simpa [firstT] using h2, h3, h4⟩
theorem Ok.raise {T : Tb} (h : Ok T) : Ok (raiseT T) := by
  obtain ⟨h1, h2, h3, h4⟩ := h
  refine ⟨?_, by simpa [raiseT] using h2, h3, h4⟩
  simp only [raiseT, List.length_set]
  exact Nat.mod_lt _ (by omega)
theorem Ok.raiseN : ∀ (k : Nat) {T : Tb}, Ok T → Ok (raiseN k T)
  | 0, _, h => h
  | k + 1, _, h => Ok.raiseN k h.raise
theorem raiseN_len : ∀ (k : Nat) (T : Tb), (raiseN k T).came.length = T.came.length
  | 0, _ => rfl
  | k + 1, T => by rw [raiseN, raiseN_len]; simp [raiseT]
theorem raiseN_known : ∀ (k : Nat) (T : Tb), (raiseN k T).known = T.known
  | 0, _ => rfl
  | k + 1, T => by rw [raiseN, raiseN_known]; rfl
theorem raiseN_high : ∀ (k : Nat) (T : Tb), (raiseN k T).high = T.high
  | 0, _ => rfl
  | k + 1, T => by rw [raiseN, raiseN_high]; rfl
theorem raiseN_succ : ∀ (k : Nat) (T : Tb), raiseN (k + 1) T = raiseT (raiseN k T)
  | 0, _ => rfl
  | k + 1, T => by rw [raiseN, raiseN_succ k, raiseN]
theorem Ok.set {T : Tb} (h : Ok T) (k : Bool) (n : Int) (h0 : 0 ≤ n) (h1 : n < 4294967296) : Ok { T with known := k, high := n } := ⟨h.at_lt, h.len, h0, h1⟩
theorem Ok.high {T : Tb} (h : Ok T) (n : Int) (h0 : 0 ≤ n) (h1 : n < 4294967296) : Ok { T with high := n } := ⟨h.at_lt, h.len, h0, h1⟩
theorem Ok.clear {T : Tb} (h : Ok T) : Ok (clearT T) := ⟨by simpa [clearT] using h.at_lt, by simpa [clearT] using h.len, h.low, h.up⟩
theorem Ok.fresh {T : Tb} (h : Ok T) (n : Int) (h0 : 0 ≤ n) (h1 : n < 4294967296) : Ok (freshT T n) := by
  unfold freshT
  split
  · exact (h.set true n h0 h1).first 0
  · split
    · exact h
    · split
      · exact ((h.raiseN _).high n h0 h1).first 0
      · split
        · exact h.first _
        · exact h
theorem idx_lt {T : Tb} (h : Ok T) (b : Nat) : idx T b < T.came.length := Nat.mod_lt _ (by have := h.at_lt; omega)
theorem map_set (l : List Bool) (i : Nat) (x : Bool) : (l.map Value.bool).set i (.bool x) = (l.set i x).map Value.bool := by rw [List.map_set]
theorem map_at (l : List Bool) (i : Nat) (h : i < l.length) : (l.map Value.bool)[i]? = some (.bool (l.getD i false)) := by simp [h]
section
variable {w w' : World} {g c : Nat} {T : Tb} {S : Nat → Prop}
theorem Is.fr (h : Is w g c T) (hf : Fr S w w') (h1 : ¬ S g) (h2 : ¬ S c) : Is w' g c T := ⟨h.tab.fr hf h1, h.row.fr hf h2, h.ne⟩
theorem Is.below (h : Is w g c T) (hb : Below w.heap.size w w') : Is w' g c T := ⟨h.tab.below hb, h.row.below hb, h.ne⟩
theorem Is.heap (h : Is w g c T) (he : w'.heap = w.heap) : Is w' g c T := ⟨h.tab.heap he, h.row.heap he, h.ne⟩
theorem Is.lt (h : Is w g c T) : g < w.heap.size ∧ c < w.heap.size := ⟨h.tab.lt, h.row.lt⟩
end
end Go.Proofs.Ytnelcmblcalknaa.TwP
