/- The contract of a step of the reference. -/
import Derived.Test.YtijjmhgcfhkffaaApsD
namespace Go.Proofs.Ytijjmhgcfhkffaa.ApsE
open Go.RowKit Go.Proofs.YtijjmhgcfhkffaaW.PrintWords Go.Proofs.YtijjmhgcfhkffaaW.PrintLast Go.Proofs.YtijjmhgcfhkffaaW.PrintMore Go.Proofs.Ytijjmhgcfhkffaa.K Go.Proofs.Ytijjmhgcfhkffaa.ApsP Go.Proofs.Ytijjmhgcfhkffaa.ApsA Go.Proofs.Ytijjmhgcfhkffaa.ApsB Go.Proofs.Ytijjmhgcfhkffaa.ApsC
set_option linter.unusedVariables false
set_option linter.unusedSimpArgs false
attribute [local go_sem] max2_int min2_int max_two min_two
structure OkR (s : St) : Prop where
  bad0 : 0 ≤ s.bad
  bad1 : s.bad ≤ 1073741824
  left0 : 0 ≤ s.left
  left1 : s.left ≤ 1048576
  left2 : s.own = 2 → 1 ≤ s.left
def illR (s : St) (work : Int) : Int := if work = 0 then 0 else cutQ (s.bad + 1) 0 1073741824
def workR (s : St) (work : Int) : Int := if illR s work ≤ s.hold then 0 else work
def passRQ (s : St) (work spare : Int) : Int := if localQ s.command (workR s work) spare = 0 then afterQ s else localQ s.command (workR s work) spare
def passRL (s : St) (work spare : Int) : Int := if localQ s.command (workR s work) spare = 0 then afterL s else s.left
def passR (s : St) (work spare : Int) : St := { s with bad := illR s work, own := passRQ s work spare, left := passRL s work spare, line := lineQ (winsQ (passRQ s work spare) s.remote) }
set_option maxHeartbeats 8000000 in
set_option maxRecDepth 100000 in
theorem passr_ok (g : Nat) (s : St) (work spare : Int) (ok : OkR s) (w : World) (h : Ob w g 47 s.cells) :
    Calls Try.prog 18 #[.pointer (some ⟨g, 0, none⟩), .int .i64 work, .int .i64 spare] w fun e w' => e = .returned (.int .i64 (passR s work spare).line) ∧ Ob w' g 47 (passR s work spare).cells ∧ Fr (· = g) w w' := by
  obtain ⟨q5, q6, q7, q8, q9⟩ := ok
  obtain ⟨hold, wait, revert, command, remote, own, bad, left, line⟩ := s
  simp only at q5 q6 q7 q8 q9
  have OB1 := Aside0.mk h
  have FR1 := Aside0.mk (Fr.refl (fun x => x = g) w)
  obtain ⟨p, hp⟩ : ∃ p, p = passR (St.mk hold wait revert command remote own bad left line) work spare := ⟨_, rfl⟩
  rw [← hp]
  have HP := Aside0.mk hp
  clear hp
  obtain ⟨W, hW⟩ : ∃ W, W = workR (St.mk hold wait revert command remote own bad left line) work := ⟨_, rfl⟩
  have HW := Aside0.mk hW
  clear hW
  obtain ⟨ill, hill⟩ : ∃ x, x = illR (St.mk hold wait revert command remote own bad left line) work := ⟨_, rfl⟩
  have HI := Aside0.mk hill
  clear hill
  have c0 := h.at_ 0 (v := .int .i64 hold) rfl
  have c1 := h.at_ 1 (v := .int .i64 wait) rfl
  have c2 := h.at_ 2 (v := .bool revert) rfl
  have c3 := h.at_ 3 (v := .int .i64 command) rfl
  have c4 := h.at_ 4 (v := .int .i64 remote) rfl
  have c5 := h.at_ 5 (v := .int .i64 own) rfl
  have f5 := h.frozen 5
  have c6 := h.at_ 6 (v := .int .i64 bad) rfl
  have f6 := h.frozen 6
  have c7 := h.at_ 7 (v := .int .i64 left) rfl
  have f7 := h.frozen 7
  have c8 := h.at_ 8 (v := .int .i64 line) rfl
  have f8 := h.frozen 8
  clear h
  go_enter Try.func18, Try.ntmps18
  go_upto_if 9 with (fail)
  go_cut [] (fun wc => Aside0 (Ob wc g 47 (St.mk hold wait revert command remote own ill left line).cells) ∧ Aside0 (Fr (· = g) w wc))
  case first =>
    by_cases h0 : work = 0
    · have b0 : (work == 0) = true := beq_iff_eq.mpr h0
      have hi : ill = 0 := by rw [HI.out, illR, if_pos h0]
      subst hi
      clear h0
      go_wp2
      go_meet
      case rel => exact ⟨⟨OB1.out.set 6 _⟩, ⟨FR1.out.put 6 _⟩⟩
    · have b0 : (work == 0) = false := beq_eq_false_iff_ne.mpr h0
      have hi : ill = cutQ (bad + 1) 0 1073741824 := by rw [HI.out, illR, if_neg h0]
      subst hi
      clear h0
      go_wp2_with (first | (go_at_call 32; (with_reducible refine (cut_ok _ _ _ _).mono ?_); rintro e w' ⟨rfl, rfl⟩))
      go_meet
      case rel => exact ⟨⟨OB1.out.set 6 _⟩, ⟨FR1.out.put 6 _⟩⟩
  case rest =>
    obtain ⟨OB2, FR2⟩ := hcut
    clear OB1 FR1
    clear c0 c1 c2 c3 c4 c5 c6 c7 c8 f5 f6 f7 f8
    have h := OB2.out
    have c0 := h.at_ 0 (v := .int .i64 hold) rfl
    have c1 := h.at_ 1 (v := .int .i64 wait) rfl
    have c2 := h.at_ 2 (v := .bool revert) rfl
    have c3 := h.at_ 3 (v := .int .i64 command) rfl
    have c4 := h.at_ 4 (v := .int .i64 remote) rfl
    have c5 := h.at_ 5 (v := .int .i64 own) rfl
    have f5 := h.frozen 5
    have c6 := h.at_ 6 (v := .int .i64 ill) rfl
    have f6 := h.frozen 6
    have c7 := h.at_ 7 (v := .int .i64 left) rfl
    have f7 := h.frozen 7
    have c8 := h.at_ 8 (v := .int .i64 line) rfl
    have f8 := h.frozen 8
    clear h
    go_wp2_with fail
    refine region_still (by kernel_rfl) (by kernel_rfl) ?_
    intro w3 hb3 hc3 hf3 hh3
    replace c0 := (hc3 _).trans c0
    replace c1 := (hc3 _).trans c1
    replace c2 := (hc3 _).trans c2
    replace c3 := (hc3 _).trans c3
    replace c4 := (hc3 _).trans c4
    replace c5 := (hc3 _).trans c5
    replace c6 := (hc3 _).trans c6
    replace c7 := (hc3 _).trans c7
    replace c8 := (hc3 _).trans c8
    replace f5 := (hf3 _).trans f5
    replace f6 := (hf3 _).trans f6
    replace f7 := (hf3 _).trans f7
    replace f8 := (hf3 _).trans f8
    have OB3 := Aside0.mk (OB2.out.heap hh3)
    have FR3 := Aside0.mk (FR2.out.comp (Fr.of_below hb3))
    clear hb3 hc3 hf3 hh3
    repeat still_step
    refine wpStill_nil ?_
    go_upto_if 30 with (fail)
    go_cut [1] (fun v1 wc => v1 = .int .i64 W ∧ Aside0 (Ob wc g 47 (St.mk hold wait revert command remote own ill left line).cells) ∧ Aside0 (Fr (· = g) w wc))
    case first =>
      by_cases h1 : ill ≤ hold
      · have hw : W = 0 := by rw [HW.out, workR, if_pos (by rw [← HI.out]; exact h1)]
        go_wp2_with fail
        go_meet
        case rel => exact ⟨by rw [hw], OB3, FR3⟩
      · have hw : W = work := by rw [HW.out, workR, if_neg (by rw [← HI.out]; exact h1)]
        go_wp2_with fail
        go_meet
        case rel => exact ⟨by rw [hw], OB3, FR3⟩
    case rest =>
      obtain ⟨hv, OB4, FR4⟩ := hcut
      subst hv
      clear OB3 FR3 OB2 FR2
      clear c0 c1 c2 c3 c4 c5 c6 c7 c8 f5 f6 f7 f8
      have h := OB4.out
      have c0 := h.at_ 0 (v := .int .i64 hold) rfl
      have c1 := h.at_ 1 (v := .int .i64 wait) rfl
      have c2 := h.at_ 2 (v := .bool revert) rfl
      have c3 := h.at_ 3 (v := .int .i64 command) rfl
      have c4 := h.at_ 4 (v := .int .i64 remote) rfl
      have c5 := h.at_ 5 (v := .int .i64 own) rfl
      have f5 := h.frozen 5
      have c6 := h.at_ 6 (v := .int .i64 ill) rfl
      have f6 := h.frozen 6
      have c7 := h.at_ 7 (v := .int .i64 left) rfl
      have f7 := h.frozen 7
      have c8 := h.at_ 8 (v := .int .i64 line) rfl
      have f8 := h.frozen 8
      clear h
      obtain ⟨Q, hQ⟩ : ∃ Q, Q = passRQ (St.mk hold wait revert command remote own bad left line) work spare := ⟨_, rfl⟩
      obtain ⟨L, hL⟩ : ∃ L, L = passRL (St.mk hold wait revert command remote own bad left line) work spare := ⟨_, rfl⟩
      have HE : Aside0 (p = St.mk hold wait revert command remote Q ill L (lineQ (winsQ Q remote))) := ⟨by rw [HP.out, passR, hQ, hL, HI.out]⟩
      have HQ : Aside0 (Q = if localQ command W spare = 0 then afterQ (St.mk hold wait revert command remote own bad left line) else localQ command W spare) := ⟨by rw [hQ, passRQ, HW.out]⟩
      have HL : Aside0 (L = if localQ command W spare = 0 then afterL (St.mk hold wait revert command remote own bad left line) else left) := ⟨by rw [hL, passRL, HW.out]⟩
      clear hQ hL HP HI
      go_upto_if 39 with (first | (go_at_call 33; (with_reducible refine (localr_ok _ _ _ _).mono ?_); rintro e w' ⟨rfl, rfl⟩))
      go_cut [7] (fun v7 wc => v7 = .int .i64 Q ∧ Aside0 (Ob wc g 47 (St.mk hold wait revert command remote own ill L line).cells) ∧ Aside0 (Fr (· = g) w wc))
      case first =>
        have HLW := HW
        clear HW HLW
        generalize localQ command W spare = q at HQ HL ⊢
        by_cases hq : q = 0
        · subst hq
          replace HQ : Aside0 (Q = afterQ (St.mk hold wait revert command remote own bad left line)) := HQ
          replace HL : Aside0 (L = afterL (St.mk hold wait revert command remote own bad left line)) := HL
          by_cases h4 : own = 4
          · subst h4
            clear q9
            cases revert
            · skip
              obtain rfl : Q = 1 := by rw [HQ.out]; simp [afterQ]
              have hl_ : left = L := by rw [HL.out]; simp [afterL]
              subst hl_
              clear HQ HL HE
              go_wp2_with fail
              go_meet
              case rel => exact ⟨rfl, ⟨OB4.out⟩, ⟨FR4.out⟩⟩
            · skip
              obtain rfl : Q = 2 := by rw [HQ.out]; simp [afterQ]
              have hl_ : wait = L := by rw [HL.out]; simp [afterL]
              subst hl_
              clear HQ HL HE
              go_wp2_with fail
              go_meet
              case rel => exact ⟨rfl, ⟨(OB4.out.set 7 (.int .i64 (wait)))⟩, ⟨(FR4.out.put 7 _)⟩⟩
          · by_cases h5 : own = 5
            · subst h5
              clear q9 h4
              cases revert
              · skip
                obtain rfl : Q = 1 := by rw [HQ.out]; simp [afterQ]
                have hl_ : left = L := by rw [HL.out]; simp [afterL]
                subst hl_
                clear HQ HL HE
                go_wp2_with fail
                go_meet
                case rel => exact ⟨rfl, ⟨OB4.out⟩, ⟨FR4.out⟩⟩
              · skip
                obtain rfl : Q = 2 := by rw [HQ.out]; simp [afterQ]
                have hl_ : wait = L := by rw [HL.out]; simp [afterL]
                subst hl_
                clear HQ HL HE
                go_wp2_with fail
                go_meet
                case rel => exact ⟨rfl, ⟨(OB4.out.set 7 (.int .i64 (wait)))⟩, ⟨(FR4.out.put 7 _)⟩⟩
            · by_cases h2 : own = 2
              · subst h2
                have q9 := q9 rfl
                clear h4 h5
                by_cases hl : left = 1
                · subst hl
                  obtain rfl : Q = 0 := by rw [HQ.out]; simp [afterQ]
                  have hl_ : 0 = L := by rw [HL.out]; simp [afterL]
                  subst hl_
                  clear HQ HL HE
                  go_wp2_with fail
                  go_meet
                  case rel => exact ⟨rfl, ⟨(OB4.out.set 7 (.int .i64 (0)))⟩, ⟨(FR4.out.put 7 _)⟩⟩
                · have hz : ¬ left - 1 = 0 := by omega
                  obtain rfl : Q = 2 := by rw [HQ.out]; simp [afterQ, hz]
                  have hl_ : (left - 1) = L := by rw [HL.out]; simp [afterL, hz]
                  subst hl_
                  clear HQ HL HE
                  go_wp2_with fail
                  go_meet
                  case rel => exact ⟨rfl, ⟨(OB4.out.set 7 (.int .i64 ((left - 1))))⟩, ⟨(FR4.out.put 7 _)⟩⟩
              · by_cases h1 : own = 1
                · subst h1
                  clear q9 h4 h5 h2
                  obtain rfl : Q = 1 := by rw [HQ.out]; simp [afterQ]
                  have hl_ : left = L := by rw [HL.out]; simp [afterL]
                  subst hl_
                  clear HQ HL HE
                  go_wp2_with fail
                  go_meet
                  case rel => exact ⟨rfl, ⟨OB4.out⟩, ⟨FR4.out⟩⟩
                · have b4 : (own == 4) = false := beq_eq_false_iff_ne.mpr h4
                  have b5 : (own == 5) = false := beq_eq_false_iff_ne.mpr h5
                  have b2 : (own == 2) = false := beq_eq_false_iff_ne.mpr h2
                  have b1 : (own == 1) = false := beq_eq_false_iff_ne.mpr h1
                  clear q9
                  obtain rfl : Q = 0 := by rw [HQ.out]; simp [afterQ, h4, h5, h2, h1]
                  have hl_ : left = L := by rw [HL.out]; simp [afterL, h4, h5, h2, h1]
                  subst hl_
                  clear HQ HL HE
                  go_wp2_with fail
                  go_meet
                  case rel => exact ⟨rfl, ⟨OB4.out⟩, ⟨FR4.out⟩⟩
        · have bq : (q == 0) = false := beq_eq_false_iff_ne.mpr hq
          obtain rfl : Q = q := by rw [HQ.out, if_neg hq]
          obtain rfl : L = left := by rw [HL.out, if_neg hq]
          clear HQ HL HE hq
          go_wp2_with fail
          go_meet
          case rel => exact ⟨rfl, OB4, FR4⟩
      case rest =>
        obtain ⟨hv, OB5, FR5⟩ := hcut
        subst hv
        clear OB4 FR4 HQ HL
        clear c0 c1 c2 c3 c4 c5 c6 c7 c8 f5 f6 f7 f8
        have h := OB5.out
        have c4 := h.at_ 4 (v := .int .i64 remote) rfl
        have c5 := h.at_ 5 (v := .int .i64 own) rfl
        have f5 := h.frozen 5
        have c8 := h.at_ 8 (v := .int .i64 line) rfl
        have f8 := h.frozen 8
        clear h
        go_wp2_with (first | (go_at_call 25; (with_reducible refine (winsr_ok _ _ _).mono ?_); rintro e w' ⟨rfl, rfl⟩) | (go_at_call 24; (with_reducible refine (liner_ok _ _).mono ?_); rintro e w' ⟨rfl, rfl⟩))
        first | go_ret | go_ret2 | go_end0
        exact ⟨by rw [HE.out]; rfl, by rw [HE.out]; exact (OB5.out.set 5 _).set 8 _, (FR5.out.put 5 _).put 8 _⟩

end Go.Proofs.Ytijjmhgcfhkffaa.ApsE
