/- Two selectors that tell each other their requests: how soon their own requests stand still. -/
import Derived.Test.YtijjmhgcfhkffaaApsP
namespace Go.Proofs.Ytijjmhgcfhkffaa.ApsPairsP
open Go.Proofs.Ytijjmhgcfhkffaa.ApsP
set_option linter.unusedVariables false
/-- How many steps the own request may still turn. -/
def rank (s : St) (work : Int) : Nat :=
  if work ≠ 0 ∧ s.bad < s.hold then (s.hold - s.bad).toNat + s.wait.toNat + 2
  else if localQ s.command (if work = 0 then 0 else work) 0 = 0 then
    (if s.own = 4 ∨ s.own = 5 then (if s.revert then s.wait.toNat + 1 else 1) else if s.own = 2 then s.left.toNat else if s.own = 0 ∨ s.own = 1 then 0 else 1)
  else if s.own = localQ s.command (if work = 0 then 0 else work) 0 then 0 else 1
theorem rank_set (s : St) (work : Int) (h : ¬ (work ≠ 0 ∧ s.bad < s.hold)) : rank s work = if localQ s.command (if work = 0 then 0 else work) 0 = 0 then
    (if s.own = 4 ∨ s.own = 5 then (if s.revert then s.wait.toNat + 1 else 1) else if s.own = 2 then s.left.toNat else if s.own = 0 ∨ s.own = 1 then 0 else 1)
  else if s.own = localQ s.command (if work = 0 then 0 else work) 0 then 0 else 1 := by
  unfold rank
  rw [if_neg h]
structure Pok (s : St) (hold wait : Int) : Prop where
  ok : Ok s
  hold : s.hold = hold
  wait : s.wait = wait
  left : s.own = 2 → s.left ≤ s.wait
theorem rank_le (s : St) (hold wait work : Int) (h : Pok s hold wait) : rank s work ≤ (hold + wait + 2).toNat := by
  obtain ⟨⟨h1, h2, h3, h4, h5, h6, h7, h8, h9⟩, e1, e2, h10⟩ := h
  unfold rank
  repeat' split
  all_goals omega
theorem rank_settled (s : St) (work : Int) (h : ¬ (work ≠ 0 ∧ s.bad < s.hold)) (hw : 1 ≤ s.wait) (hl : s.own = 2 → s.left ≤ s.wait) : rank s work ≤ s.wait.toNat + 1 := by
  unfold rank
  rw [if_neg h]
  generalize localQ s.command (if work = 0 then 0 else work) 0 = q
  split
  · split
    · split <;> omega
    · split
      · rename_i h2
        have := hl h2
        omega
      · split <;> omega
  · split <;> omega
theorem settled (s : St) (work : Int) (h : ¬ (work ≠ 0 ∧ s.bad < s.hold)) : heldW s work = if work = 0 then 0 else work := by
  unfold heldW
  by_cases h0 : work = 0
  · rw [if_pos h0, if_pos h0]
  · rw [if_neg h0, if_neg h0, if_neg (fun hh => h ⟨h0, hh⟩)]
theorem settled_next (s : St) (work spare : Int) (ok : Ok s) (h : ¬ (work ≠ 0 ∧ s.bad < s.hold)) : ¬ (work ≠ 0 ∧ (passS s work spare).bad < (passS s work spare).hold) := by
  rintro ⟨h0, h1⟩
  have h2 : heldB s work < s.hold := h1
  have h3 : ¬ s.bad < s.hold := fun hh => h ⟨h0, hh⟩
  unfold heldB at h2
  rw [if_neg h0] at h2
  split at h2 <;> omega
theorem pass_rank (s : St) (hold wait work : Int) (h : Pok s hold wait) : rank (passS s work 0) work ≤ rank s work - 1 ∧ (rank s work = 0 → (passS s work 0).own = s.own) := by
  have hn := settled_next s work 0 h.ok
  have hs := settled s work
  obtain ⟨⟨h1, h2, h3, h4, h5, h6, h7, h8, h9⟩, e1, e2, h10⟩ := h
  by_cases hset : work ≠ 0 ∧ s.bad < s.hold
  · have hb : heldB s work = s.bad + 1 := by unfold heldB; rw [if_neg hset.1, if_pos (by omega)]
    have hr : rank s work = (s.hold - s.bad).toNat + s.wait.toNat + 2 := by unfold rank; rw [if_pos hset]
    have hl := afterL_ok s ⟨h1, h2, h3, h4, h5, h6, h7, h8, h9⟩
    refine ⟨?_, fun h0 => by omega⟩
    rw [hr]
    have hb2 : (passS s work 0).bad = s.bad + 1 := hb
    have hh2 : (passS s work 0).hold = s.hold := rfl
    have hw2 : (passS s work 0).wait = s.wait := rfl
    have hll : (passS s work 0).own = 2 → (passS s work 0).left ≤ s.wait := by
      show passQ s work 0 = 2 → passL s work 0 ≤ s.wait
      unfold passQ passL
      split
      · unfold afterQ afterL
        split
        · split <;> omega
        · split
          · rename_i h11
            have := h10 h11
            split <;> omega
          · split <;> omega
      · intro h11
        exact absurd h11 (localQ_ne2 _ _ _)
    by_cases hset2 : work ≠ 0 ∧ (passS s work 0).bad < (passS s work 0).hold
    · have hr2 : rank (passS s work 0) work = ((passS s work 0).hold - (passS s work 0).bad).toNat + (passS s work 0).wait.toNat + 2 := by unfold rank; rw [if_pos hset2]
      rw [hr2, hb2, hh2, hw2]
      omega
    · have := rank_settled (passS s work 0) work hset2 (by rw [hw2]; exact h3) (by rw [hw2]; exact hll)
      rw [hw2] at this
      omega
  · have hn := hn hset
    have hs := hs hset
    have hq : passQ s work 0 = if localQ s.command (if work = 0 then 0 else work) 0 = 0 then afterQ s else localQ s.command (if work = 0 then 0 else work) 0 := by unfold passQ; rw [hs]
    have hL : passL s work 0 = if localQ s.command (if work = 0 then 0 else work) 0 = 0 then afterL s else s.left := by unfold passL; rw [hs]
    rw [rank_set s work hset, rank_set _ work hn]
    have ec : (passS s work 0).command = s.command := rfl
    have eo : (passS s work 0).own = passQ s work 0 := rfl
    have el : (passS s work 0).left = passL s work 0 := rfl
    have er : (passS s work 0).revert = s.revert := rfl
    have ew : (passS s work 0).wait = s.wait := rfl
    rw [ec, eo, el, er, ew, hq, hL]
    generalize localQ s.command (if work = 0 then 0 else work) 0 = q
    by_cases hz : q = 0
    · rw [if_pos hz, if_pos hz, if_pos hz, if_pos hz]
      unfold afterQ afterL
      by_cases h45 : s.own = 4 ∨ s.own = 5
      · simp only [if_pos h45]
        cases s.revert
        · simp
        · simp
      · simp only [if_neg h45]
        by_cases h22 : s.own = 2
        · simp only [if_pos h22]
          have a1 := h9 h22
          by_cases hl1 : s.left - 1 = 0
          · simp [hl1]
            omega
          · simp [hl1]
            omega
        · simp only [if_neg h22]
          by_cases h11 : s.own = 1
          · simp [h11]
          · by_cases h00 : s.own = 0
            · simp [h00]
            · simp [h11, h00]
    · simp [if_neg hz]
      intro h
      exact h.symm

theorem Pok.pass {s : St} {hold wait : Int} (h : Pok s hold wait) (work : Int) : Pok (passS s work 0) hold wait := by
  refine ⟨h.ok.pass work 0, h.hold, h.wait, ?_⟩
  obtain ⟨⟨h1, h2, h3, h4, h5, h6, h7, h8, h9⟩, e1, e2, h10⟩ := h
  show passQ s work 0 = 2 → passL s work 0 ≤ s.wait
  unfold passQ passL
  split
  · unfold afterQ afterL
    split
    · split <;> omega
    · split
      · rename_i h11
        have := h10 h11
        split <;> omega
      · split <;> omega
  · intro h11
    exact absurd h11 (localQ_ne2 _ _ _)
theorem Pok.remote {s : St} {hold wait : Int} (h : Pok s hold wait) (q : Int) : Pok (remoteS s q) hold wait := ⟨h.ok.remote q, h.hold, h.wait, h.left⟩
theorem Pok.command {s : St} {hold wait : Int} (h : Pok s hold wait) (n : Int) : Pok (commandS s n) hold wait := by
  refine ⟨h.ok.command n, ?_, ?_, ?_⟩
  · have : (commandS s n).hold = s.hold := by unfold commandS; split <;> rfl
    rw [this]; exact h.hold
  · have : (commandS s n).wait = s.wait := by unfold commandS; split <;> rfl
    rw [this]; exact h.wait
  · unfold commandS
    split
    · show (if n = 0 ∧ (s.own = 1 ∨ s.own = 2) then 0 else s.own) = 2 → s.left ≤ s.wait
      split
      · intro h; omega
      · exact h.left
    · exact h.left
theorem Pok.new (hold wait : Int) (r : Bool) (h0 : 0 ≤ hold) (h1 : hold ≤ 20) (h2 : 1 ≤ wait) (h3 : wait ≤ 20) : Pok (newS hold wait r) hold wait := by
  refine ⟨Ok.new hold wait r, ?_, ?_, ?_⟩
  · show cutQ hold 0 1048576 = hold
    unfold cutQ
    (repeat' split) <;> omega
  · show cutQ wait 1 1048576 = wait
    unfold cutQ
    (repeat' split) <;> omega
  · intro h
    exact absurd h (show ¬ (0 : Int) = 2 by omega)
theorem rank_remote (s : St) (q work : Int) : rank (remoteS s q) work = rank s work := rfl
/-- Two ends in the middle of telling each other. -/
structure Two (a b : St) (one two hold wait : Int) (k : Nat) : Prop where
  pa : Pok a hold wait
  pb : Pok b hold wait
  ra : rank a one ≤ (hold + wait + 2).toNat - k
  rb : rank b two ≤ (hold + wait + 2).toNat - k
  ta : 0 < k → a.remote = ofQ b.own
  tb : 0 < k → b.remote = ofQ a.own
theorem Two.start {a b : St} {one two hold wait : Int} (ha : Pok a hold wait) (hb : Pok b hold wait) : Two a b one two hold wait 0 :=
  ⟨ha, hb, rank_le a hold wait one ha, rank_le b hold wait two hb, fun h => absurd h (by omega), fun h => absurd h (by omega)⟩
theorem Two.next {a b : St} {one two hold wait : Int} {k : Nat} (h : Two a b one two hold wait k) :
    Two (remoteS (passS a one 0) (passS b two 0).own) (remoteS (passS b two 0) (remoteS (passS a one 0) (passS b two 0).own).own) one two hold wait (k + 1) := by
  have h1 := pass_rank a hold wait one h.pa
  have h2 := pass_rank b hold wait two h.pb
  have h3 := h.ra
  have h4 := h.rb
  refine ⟨(h.pa.pass one).remote _, (h.pb.pass two).remote _, ?_, ?_, fun _ => rfl, fun _ => rfl⟩
  · rw [rank_remote]; omega
  · rw [rank_remote]; omega
theorem ofQ_idem (q : Int) : ofQ (ofQ q) = ofQ q := by
  have h := ofQ_b q
  generalize ofQ q = x at *
  unfold ofQ
  rw [if_neg (by omega), if_neg (by omega)]
theorem wins_comm (a b : Int) : winsQ a (ofQ b) = winsQ b (ofQ a) ∧ winsQ a (ofQ b) = winsQ a b := by
  unfold winsQ
  rw [ofQ_idem, ofQ_idem]
  refine ⟨?_, rfl⟩
  split <;> split <;> omega
theorem Two.agree {a b : St} {one two hold wait : Int} {k : Nat} (h : Two a b one two hold wait k) (hk : (hold + wait + 4).toNat ≤ k) (hp : 0 < hold + wait + 4) :
    (passS b two 0).line = (passS a one 0).line ∧ lineQ (winsQ (passS a one 0).own (passS b two 0).own) = (passS a one 0).line := by
  have h1 := (pass_rank a hold wait one h.pa).2 (by have := h.ra; omega)
  have h2 := (pass_rank b hold wait two h.pb).2 (by have := h.rb; omega)
  have h3 : (passS a one 0).line = lineQ (winsQ (passS a one 0).own a.remote) := rfl
  have h4 : (passS b two 0).line = lineQ (winsQ (passS b two 0).own b.remote) := rfl
  rw [h3, h4, h1, h2, h.ta (by omega), h.tb (by omega)]
  have hw := wins_comm a.own b.own
  rw [← hw.2, hw.1]
  exact ⟨rfl, rfl⟩
end Go.Proofs.Ytijjmhgcfhkffaa.ApsPairsP
