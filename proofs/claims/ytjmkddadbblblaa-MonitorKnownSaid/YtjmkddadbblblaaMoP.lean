/- A monitor of a line: plain law. -/
import Derived.Test.YtjmkddadbblblaaTaP
namespace Go.Proofs.Ytjmkddadbblblaa.MoP
open Go.RowKit Go.Proofs.Ytjmkddadbblblaa.K Go.Proofs.Ytjmkddadbblblaa.TaP
set_option linter.unusedVariables false
set_option linter.unusedSimpArgs false
structure Mo where
  bad : Int
  good : Int
  silent : Int
  side : Int
  quiet : Int
  state : Int
  h : List Bool
def Mo.cells (M : Mo) (q : Value) : List Value := [.int .i64 M.bad, .int .i64 M.good, .int .i64 M.silent, q, .int .i64 M.side, .int .i64 M.quiet, .int .i64 M.state]
structure Ok (M : Mo) : Prop where
  b0 : 1 ≤ M.bad
  b1 : M.bad ≤ 16
  g0 : 1 ≤ M.good
  g1 : M.good ≤ 16
  s0 : 1 ≤ M.silent
  s1 : M.silent ≤ 1073741824
  d0 : 0 ≤ M.side
  d1 : M.side ≤ 1000
  q0 : 0 ≤ M.quiet
  q1 : M.quiet ≤ 1073741824
  h1 : M.h.length ≤ 16
def sideM (M : Mo) (ok : Bool) : Int := if ok = true then (if M.side < 16 then M.side + 1 else 16) else 0
def sideR (M : Mo) (ok : Bool) : Int := if ok = true then M.side + 1 else 0
def endM (M : Mo) (h : List Bool) (s : Int) : Mo :=
  if M.state ≠ 0 ∧ M.good ≤ s then ⟨M.bad, M.good, M.silent, s, 0, 0, []⟩
  else if M.bad ≤ (h.count false : Nat) then ⟨M.bad, M.good, M.silent, s, 0, 2, h⟩
  else if (M.bad + 1) / 2 ≤ (h.count false : Nat) ∧ M.state = 0 then ⟨M.bad, M.good, M.silent, s, 0, 1, h⟩
  else ⟨M.bad, M.good, M.silent, s, 0, M.state, h⟩
def noteM (M : Mo) (ok : Bool) : Mo := endM M (keep 16 M.h ok) (sideM M ok)
def noteR (M : Mo) (ok : Bool) : Mo := endM M (keep 16 M.h ok) (sideR M ok)
def cutQ (n l h : Int) : Int := if n < l then l else if n > h then h else n
def quietM (M : Mo) (n : Int) : Int := if M.quiet + cutQ n 0 1073741824 < 1073741824 then M.quiet + cutQ n 0 1073741824 else 1073741824
def passM (M : Mo) (n : Int) : Mo :=
  if M.silent ≤ quietM M n then ⟨M.bad, M.good, M.silent, 0, quietM M n, 2, M.h⟩ else ⟨M.bad, M.good, M.silent, M.side, quietM M n, M.state, M.h⟩
def newM (bad good silent : Int) : Mo := ⟨cutQ bad 1 16, cutQ good 1 16, cutQ silent 1 1073741824, 0, 0, 0, []⟩
theorem cutQ_b (n l h : Int) (hlh : l ≤ h) : l ≤ cutQ n l h ∧ cutQ n l h ≤ h := by
  unfold cutQ
  (repeat' split) <;> omega
theorem Ok.new (bad good silent : Int) : Ok (newM bad good silent) := by
  have a := cutQ_b bad 1 16 (by omega)
  have b := cutQ_b good 1 16 (by omega)
  have c := cutQ_b silent 1 1073741824 (by omega)
  exact ⟨a.1, a.2, b.1, b.2, c.1, c.2, by simp [newM], by simp [newM], by simp [newM], by simp [newM], by simp [newM]⟩
theorem quiet_b {M : Mo} (k : Ok M) (n : Int) : 0 ≤ quietM M n ∧ quietM M n ≤ 1073741824 := by
  have := cutQ_b n 0 1073741824 (by omega)
  have := k.q0
  unfold quietM
  split <;> omega
theorem Ok.pass {M : Mo} (k : Ok M) (n : Int) : Ok (passM M n) := by
  have := quiet_b k n
  unfold passM
  split
  · exact ⟨k.b0, k.b1, k.g0, k.g1, k.s0, k.s1, Int.le_refl _, by simp, this.1, this.2, k.h1⟩
  · exact ⟨k.b0, k.b1, k.g0, k.g1, k.s0, k.s1, k.d0, k.d1, this.1, this.2, k.h1⟩
theorem Ok.end_ {M : Mo} (k : Ok M) {h : List Bool} {s : Int} (hh : h.length ≤ 16) (s0 : 0 ≤ s) (s1 : s ≤ 1000) : Ok (endM M h s) := by
  unfold endM
  (repeat' split)
  · exact ⟨k.b0, k.b1, k.g0, k.g1, k.s0, k.s1, s0, s1, by simp, by simp, by simp⟩
  all_goals exact ⟨k.b0, k.b1, k.g0, k.g1, k.s0, k.s1, s0, s1, by simp, by simp, hh⟩
theorem Ok.note {M : Mo} (k : Ok M) (ok : Bool) : Ok (noteM M ok) := by
  have := k.d0
  have := k.d1
  exact k.end_ (keep_le 16 M.h ok (by omega) k.h1).1 (by unfold sideM; (repeat' split) <;> omega) (by unfold sideM; (repeat' split) <;> omega)
theorem Ok.noteR {M : Mo} (k : Ok M) (ok : Bool) (h : M.side < 1000) : Ok (noteR M ok) := by
  have := k.d0
  exact k.end_ (keep_le 16 M.h ok (by omega) k.h1).1 (by unfold sideR; split <;> omega) (by unfold sideR; split <;> omega)
/-- What a call's end depends on. -/
structure Like (M R : Mo) : Prop where
  bad : M.bad = R.bad
  good : M.good = R.good
  silent : M.silent = R.silent
  quiet : M.quiet = R.quiet
  state : M.state = R.state
  h : M.h = R.h
  side : M.side = if R.side < 16 then R.side else 16
theorem Like.refl {M : Mo} (hs : M.side < 16) : Like M M := ⟨rfl, rfl, rfl, rfl, rfl, rfl, by rw [if_pos hs]⟩
theorem Like.end_ {M R : Mo} (l : Like M R) (g1 : M.good ≤ 16) (h : List Bool) {s r : Int} (hs : s = if r < 16 then r else 16) : Like (endM M h s) (endM R h r) := by
  obtain ⟨l1, l2, l3, l4, l5, l6, l7⟩ := l
  have e : (M.state ≠ 0 ∧ M.good ≤ s) ↔ (R.state ≠ 0 ∧ R.good ≤ r) := by
    rw [l5, ← l2]
    have : M.good ≤ s ↔ M.good ≤ r := by split at hs <;> omega
    rw [this]
  unfold endM
  by_cases h1 : R.state ≠ 0 ∧ R.good ≤ r
  · rw [if_pos (e.2 h1), if_pos h1, l1, l2, l3]
    exact ⟨rfl, rfl, rfl, rfl, rfl, rfl, hs⟩
  · rw [if_neg (fun h => h1 (e.1 h)), if_neg h1, l1, l2, l3, l5]
    (repeat' split) <;> exact ⟨rfl, rfl, rfl, rfl, by first | rfl | exact l5, rfl, hs⟩
theorem Like.note {M R : Mo} (l : Like M R) (k : Ok M) (r0 : 0 ≤ R.side) (ok : Bool) : Like (noteM M ok) (noteR R ok) := by
  unfold noteM noteR
  rw [l.h]
  apply l.end_ k.g1
  have := l.side
  unfold sideM sideR
  cases ok
  · rfl
  · simp only [if_true]
    split at this <;> (repeat' split) <;> omega
theorem Like.pass {M R : Mo} (l : Like M R) (n : Int) : Like (passM M n) (passM R n) := by
  obtain ⟨l1, l2, l3, l4, l5, l6, l7⟩ := l
  have e : quietM M n = quietM R n := by unfold quietM; rw [l4]
  unfold passM
  rw [e, l1, l2, l3, l5, l6]
  split
  · exact ⟨rfl, rfl, rfl, rfl, rfl, rfl, rfl⟩
  · exact ⟨rfl, rfl, rfl, rfl, rfl, rfl, l7⟩
end Go.Proofs.Ytjmkddadbblblaa.MoP
