/- The state of a selector of lines, as plain numbers. -/
import Derived.Test.YtijjmhgcfhkffaaK2
namespace Go.Proofs.Ytijjmhgcfhkffaa.ApsP
structure St where
  hold : Int
  wait : Int
  revert : Bool
  command : Int
  remote : Int
  own : Int
  bad : Int
  left : Int
  line : Int
def St.cells (s : St) : List Value := [.int .i64 s.hold, .int .i64 s.wait, .bool s.revert, .int .i64 s.command, .int .i64 s.remote, .int .i64 s.own, .int .i64 s.bad, .int .i64 s.left, .int .i64 s.line]
def ofQ (q : Int) : Int := if q < 0 then 0 else if q > 8 then 0 else q
def localQ (c w s : Int) : Int := if c = 3 then 8 else if s = 2 then 7 else if c = 2 then 6 else if w = 2 then 5 else if w = 1 then 4 else if c = 1 then 3 else 0
def lineQ (q : Int) : Int := if 1 ≤ q then if q ≤ 6 then 1 else 0 else 0
def winsQ (a b : Int) : Int := if ofQ a < ofQ b then ofQ b else ofQ a
def cutQ (n l h : Int) : Int := if n < l then l else if n > h then h else n
def newS (hold wait : Int) (r : Bool) : St := ⟨cutQ hold 0 1048576, cutQ wait 1 1048576, r, 0, 0, 0, 0, 0, 0⟩
/-- What a line that works counts as, and how long it did not. -/
def heldB (s : St) (work : Int) : Int := if work = 0 then 0 else if s.bad ≤ s.hold then s.bad + 1 else s.hold + 1
def heldW (s : St) (work : Int) : Int := if work = 0 then 0 else if s.bad < s.hold then 0 else work
def afterQ (s : St) : Int := if s.own = 4 ∨ s.own = 5 then (if s.revert then 2 else 1) else if s.own = 2 then (if s.left - 1 = 0 then 0 else 2) else if s.own = 1 then 1 else 0
def afterL (s : St) : Int := if s.own = 4 ∨ s.own = 5 then (if s.revert then s.wait else s.left) else if s.own = 2 then s.left - 1 else s.left
def passQ (s : St) (work spare : Int) : Int := if localQ s.command (heldW s work) spare = 0 then afterQ s else localQ s.command (heldW s work) spare
def passL (s : St) (work spare : Int) : Int := if localQ s.command (heldW s work) spare = 0 then afterL s else s.left
def passS (s : St) (work spare : Int) : St := { s with bad := heldB s work, own := passQ s work spare, left := passL s work spare, line := lineQ (winsQ (passQ s work spare) s.remote) }
def okC (n : Int) : Bool := decide (0 ≤ n) && decide (n ≤ 3)
def commandS (s : St) (n : Int) : St := if okC n then { s with command := n, own := if n = 0 ∧ (s.own = 1 ∨ s.own = 2) then 0 else s.own } else s
def remoteS (s : St) (q : Int) : St := { s with remote := ofQ q }
structure Ok (s : St) : Prop where
  hold0 : 0 ≤ s.hold
  hold1 : s.hold ≤ 1048576
  wait0 : 1 ≤ s.wait
  wait1 : s.wait ≤ 1048576
  bad0 : 0 ≤ s.bad
  bad1 : s.bad ≤ s.hold + 1
  left0 : 0 ≤ s.left
  left1 : s.left ≤ 1048576
  left2 : s.own = 2 → 1 ≤ s.left
theorem cut_bounds (n l h : Int) (hlh : l ≤ h) : l ≤ cutQ n l h ∧ cutQ n l h ≤ h := by
  unfold cutQ
  split
  · omega
  · split <;> omega
theorem Ok.new (hold wait : Int) (r : Bool) : Ok (newS hold wait r) := by
  have h1 := cut_bounds hold 0 1048576 (by omega)
  have h2 := cut_bounds wait 1 1048576 (by omega)
  refine ⟨?_, ?_, ?_, ?_, ?_, ?_, ?_, ?_, ?_⟩ <;> simp only [newS] <;> omega
theorem afterL_ok (s : St) (h : Ok s) : 0 ≤ afterL s ∧ afterL s ≤ 1048576 ∧ (afterQ s = 2 → 1 ≤ afterL s) := by
  obtain ⟨h1, h2, h3, h4, h5, h6, h7, h8, h9⟩ := h
  unfold afterL afterQ
  split
  · split <;> omega
  · split
    · rename_i h10
      have := h9 h10
      refine ⟨by omega, by omega, ?_⟩
      split <;> omega
    · split <;> omega
theorem localQ_ne2 (c w s : Int) : localQ c w s ≠ 2 := by
  unfold localQ
  repeat' split
  all_goals omega
theorem Ok.pass {s : St} (h : Ok s) (work spare : Int) : Ok (passS s work spare) := by
  have ha := afterL_ok s h
  obtain ⟨h1, h2, h3, h4, h5, h6, h7, h8, h9⟩ := h
  have hb : 0 ≤ heldB s work ∧ heldB s work ≤ s.hold + 1 := by
    unfold heldB
    split
    · omega
    · split <;> omega
  refine ⟨h1, h2, h3, h4, hb.1, hb.2, ?_, ?_, ?_⟩
  · show 0 ≤ passL s work spare
    unfold passL
    split <;> omega
  · show passL s work spare ≤ 1048576
    unfold passL
    split <;> omega
  · show passQ s work spare = 2 → 1 ≤ passL s work spare
    unfold passQ passL
    split
    · exact ha.2.2
    · intro h
      exact absurd h (localQ_ne2 _ _ _)
theorem Ok.command {s : St} (h : Ok s) (n : Int) : Ok (commandS s n) := by
  obtain ⟨h1, h2, h3, h4, h5, h6, h7, h8, h9⟩ := h
  unfold commandS
  split
  · refine ⟨h1, h2, h3, h4, h5, h6, h7, h8, ?_⟩
    show (if n = 0 ∧ (s.own = 1 ∨ s.own = 2) then 0 else s.own) = 2 → 1 ≤ s.left
    split
    · omega
    · exact h9
  · exact ⟨h1, h2, h3, h4, h5, h6, h7, h8, h9⟩
theorem Ok.remote {s : St} (h : Ok s) (q : Int) : Ok (remoteS s q) := ⟨h.hold0, h.hold1, h.wait0, h.wait1, h.bad0, h.bad1, h.left0, h.left1, h.left2⟩
theorem ofQ_b (q : Int) : 0 ≤ ofQ q ∧ ofQ q ≤ 8 := by
  unfold ofQ
  split
  · omega
  · split <;> omega
end Go.Proofs.Ytijjmhgcfhkffaa.ApsP
