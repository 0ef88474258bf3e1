/- Any row of calls makes the same of a selector and of the reference: the walk. -/
import Derived.Test.YtijjmhgcfhkffaaApsE
import Derived.Test.YtijjmhgcfhkffaaApsF
import Derived.Test.YtijjmhgcfhkffaaOpenA
namespace Go.Proofs.Ytijjmhgcfhkffaa.ApsPlaysW
open Go.RowKit Go.Proofs.YtijjmhgcfhkffaaW.PrintWords Go.Proofs.YtijjmhgcfhkffaaW.PrintLast Go.Proofs.YtijjmhgcfhkffaaW.PrintMore Go.Proofs.Ytijjmhgcfhkffaa.K Go.Proofs.Ytijjmhgcfhkffaa.ApsP Go.Proofs.Ytijjmhgcfhkffaa.ApsA Go.Proofs.Ytijjmhgcfhkffaa.ApsB Go.Proofs.Ytijjmhgcfhkffaa.ApsC Go.Proofs.Ytijjmhgcfhkffaa.ApsD Go.Proofs.Ytijjmhgcfhkffaa.ApsE Go.Proofs.Ytijjmhgcfhkffaa.ApsF Go.Proofs.Ytijjmhgcfhkffaa.OpenA
set_option linter.unusedVariables false
set_option linter.unusedSimpArgs false
attribute [local go_sem] max2_int min2_int max_two min_two

/-- The reference's state beside the selector's: it counts on. -/
structure Rel (s t : St) (k : Nat) : Prop where
  eq : t = { s with bad := t.bad }
  bad : s.bad = if t.bad ≤ s.hold then t.bad else s.hold + 1
  low : 0 ≤ t.bad
  high : t.bad ≤ k
theorem Rel.start (hold wait : Int) (r : Bool) : Rel (newS hold wait r) (newS hold wait r) 0 := by
  have := (Ok.new hold wait r).hold0
  refine ⟨rfl, ?_, by simp [newS], by simp [newS]⟩
  rw [if_pos (by exact this)]
theorem Rel.next {s t : St} {k : Nat} (h : Rel s t k) : Rel s t (k + 1) := ⟨h.eq, h.bad, h.low, by have := h.high; omega⟩
theorem Rel.okR {s t : St} {k : Nat} (h : Rel s t k) (ok : Ok s) (hk : k ≤ 200) : OkR t := by
  obtain ⟨h1, h2, h3, h4⟩ := h
  rw [h1]
  exact ⟨h3, by show t.bad ≤ _; omega, ok.left0, ok.left1, ok.left2⟩
theorem Rel.pass {s t : St} {k : Nat} (h : Rel s t k) (ok : Ok s) (hk : k ≤ 200) (work spare : Int) : Rel (passS s work spare) (passR t work spare) (k + 1) ∧ (passR t work spare).line = (passS s work spare).line := by
  obtain ⟨h1, h2, h3, h4⟩ := h
  have hh := ok.hold0
  have e1 : t.hold = s.hold := by rw [h1]
  have e2 : t.command = s.command := by rw [h1]
  have e3 : afterQ t = afterQ s := by rw [h1]; rfl
  have e4 : afterL t = afterL s := by rw [h1]; rfl
  have e5 : t.left = s.left := by rw [h1]
  have e6 : t.remote = s.remote := by rw [h1]
  have hi : illR t work = if work = 0 then 0 else t.bad + 1 := by
    unfold illR cutQ
    split
    · rfl
    · rw [if_neg (by omega), if_neg (by omega)]
  have hw : workR t work = heldW s work := by
    unfold workR heldW
    rw [hi, e1]
    by_cases h0 : work = 0
    · rw [if_pos h0, if_pos h0, if_pos hh]
    · rw [if_neg h0, if_neg h0]
      by_cases h5 : t.bad ≤ s.hold
      · rw [if_pos h5] at h2
        by_cases h6 : s.bad < s.hold
        · rw [if_pos h6, if_pos (by omega)]
        · rw [if_neg h6, if_neg (by omega)]
      · rw [if_neg h5] at h2
        rw [if_neg (by omega), if_neg (by omega)]
  have hq : passRQ t work spare = passQ s work spare := by
    unfold passRQ passQ
    rw [hw, e2, e3]
  have hl : passRL t work spare = passL s work spare := by
    unfold passRL passL
    rw [hw, e2, e4, e5]
  refine ⟨⟨?_, ?_, ?_, ?_⟩, ?_⟩
  · unfold passR passS
    rw [hq, hl, e6]
    rw [h1]
  · show heldB s work = if illR t work ≤ s.hold then illR t work else s.hold + 1
    rw [hi]
    unfold heldB
    by_cases h0 : work = 0
    · rw [if_pos h0, if_pos h0, if_pos hh]
    · rw [if_neg h0, if_neg h0]
      by_cases h5 : t.bad ≤ s.hold
      · rw [if_pos h5] at h2
        rw [if_pos (by omega)]
        split <;> omega
      · rw [if_neg h5] at h2
        rw [if_neg (by omega), if_neg (by omega)]
  · show 0 ≤ illR t work
    rw [hi]
    split <;> omega
  · show illR t work ≤ _
    rw [hi]
    split <;> omega
  · show lineQ (winsQ (passRQ t work spare) t.remote) = lineQ (winsQ (passQ s work spare) s.remote)
    rw [hq, e6]
theorem Rel.command {s t : St} {k : Nat} (h : Rel s t k) (n : Int) : Rel (commandS s n) (commandS t n) k := by
  obtain ⟨h1, h2, h3, h4⟩ := h
  have e1 : (commandS s n).hold = s.hold := by unfold commandS; split <;> rfl
  have e2 : (commandS s n).bad = s.bad := by unfold commandS; split <;> rfl
  have e3 : (commandS t n).bad = t.bad := by unfold commandS; split <;> rfl
  refine ⟨?_, ?_, ?_, ?_⟩
  · rw [e3, h1]
    unfold commandS
    split <;> rfl
  · rw [e1, e2, e3]
    exact h2
  · rw [e3]; exact h3
  · rw [e3]; exact h4
theorem Rel.remote {s t : St} {k : Nat} (h : Rel s t k) (q : Int) : Rel (remoteS s q) (remoteS t q) k := by
  obtain ⟨h1, h2, h3, h4⟩ := h
  refine ⟨?_, h2, h3, h4⟩
  rw [h1]
  rfl
theorem Rel.same {s t : St} {k : Nat} (h : Rel s t k) : t.line = s.line ∧ t.own = s.own := by rw [h.eq]; exact ⟨rfl, rfl⟩

set_option maxHeartbeats 8000000 in
set_option maxRecDepth 100000 in
theorem plays_in (hold wait : Int) (r : Bool) (A : Option Addr) (n c : Nat) (z : List (Int × Int × Int)) (w : World) (hr : IsActs w A n c z) (hn : n ≤ 200) :
    Calls Try.prog 7 #[.int .i64 hold, .int .i64 wait, .bool r, .slice A n c] w fun e w' => e = .returned (.bool true) ∧ Below w.heap.size w w' := by
  have HB0 := Aside0.mk (Below.refl w.heap.size w)
  have HR := Aside0.mk hr
  clear hr
  go_enter Try.func7, Try.ntmps7
  go_wp2_with (first
      | (go_at_call 10; (with_reducible refine (alive_ok _).mono ?_); rintro e w1 ⟨rfl, hb1⟩; have HB1 := Aside0.mk hb1; clear hb1)
      | (go_at_call 11; (with_reducible refine (new_ok hold wait r _).mono ?_); rintro e w2 ⟨g, rfl, hg2, h2, hb2⟩; have B2 := Aside0.mk (below_step HB1.out hb2); have G_a := Aside0.mk (Nat.le_trans HB1.out.size hg2); have H_a2 := Aside0.mk h2; clear hb2 h2 hg2)
      | (go_at_call 11; (with_reducible refine (new_ok 0 1 true _).mono ?_); rintro e w3 ⟨go, rfl, hg3, h3, hb3⟩; have B3 := Aside0.mk (below_step B2.out hb3); have G_o := Aside0.mk (Nat.le_trans B2.out.size hg3); have H_o3 := Aside0.mk h3; have H_a3 := Aside0.mk (H_a2.out.below hb3); have N_a_o := Aside0.mk (Nat.ne_of_lt (Nat.lt_of_lt_of_le H_a2.out.lt hg3)); have N_o_a := Aside0.mk (Ne.symm N_a_o.out); clear hb3 h3 hg3)
      | (go_at_call 17; (with_reducible refine (newr_ok hold wait r _).mono ?_); rintro e w4 ⟨gr, rfl, hg4, h4, hb4⟩; have B4 := Aside0.mk (below_step B3.out hb4); have G_r := Aside0.mk (Nat.le_trans B3.out.size hg4); have H_r4 := Aside0.mk h4; have H_a4 := Aside0.mk (H_a3.out.below hb4); have H_o4 := Aside0.mk (H_o3.out.below hb4); have N_a_r := Aside0.mk (Nat.ne_of_lt (Nat.lt_of_lt_of_le H_a3.out.lt hg4)); have N_o_r := Aside0.mk (Nat.ne_of_lt (Nat.lt_of_lt_of_le H_o3.out.lt hg4)); have N_r_a := Aside0.mk (Ne.symm N_a_r.out); have N_r_o := Aside0.mk (Ne.symm N_o_r.out); clear hb4 h4 hg4))
  clear H_a2 H_a3 H_o3 B2 B3
  go_loopg [8, 13] (n + 1) (fun kq v8 v13 w' => ∃ (k : Nat) (s t so : St), v13 = .int .i64 k ∧ k ≤ n ∧ kq = n + 1 - k ∧ Aside0 (Ok s ∧ Rel s t k) ∧ Aside0 (Ok so) ∧ Aside0 (Ob w' g 44 s.cells) ∧ Aside0 (Ob w' gr 47 t.cells) ∧ Aside0 (Ob w' go 44 so.cells) ∧ Aside0 (Below w.heap.size w w'))
  case atStart => exact ⟨0, _, _, _, by simp, by omega, by omega, ⟨Ok.new hold wait r, Rel.start hold wait r⟩, ⟨Ok.new 0 1 true⟩, H_a4, H_r4, H_o4, B4⟩
  case round =>
    clear H_a4 H_r4 H_o4 B4
    obtain ⟨k, s, t, so, rfl, hk, hm, HS, HO, H_a5, H_r5, H_o5, B5⟩ := hrel
    by_cases hlt : k < n
    · obtain ⟨ad, hA, x0, x1, x2⟩ := HR.out.at_ k hlt
      subst hA
      clear x0 x1 x2
      obtain ⟨x, hz⟩ : ∃ x, x = z.getD k (0, 0, 0) := ⟨_, rfl⟩
      obtain ⟨way, a, b⟩ := x
      have FX : Aside0 (∀ w'', Below w.heap.size w w'' → w''.cell? (ad.add (k * 3)) = some (.int .i64 way) ∧ w''.cell? ⟨(ad.add (k * 3)).block, (ad.add (k * 3)).off + 1, none⟩ = some (.int .i64 a) ∧ w''.cell? ⟨(ad.add (k * 3)).block, (ad.add (k * 3)).off + 2, none⟩ = some (.int .i64 b)) := ⟨fun w'' hb => by
        obtain ⟨ad', hA, x0, x1, x2⟩ := (HR.out.below hb).at_ k hlt
        cases hA
        rw [add_field ad _ 1 (by decide)] at x1
        rw [add_field ad _ 2 (by decide)] at x2
        rw [← hz] at x0 x1 x2
        exact ⟨x0, x1, x2⟩⟩
      clear hz
      have HO2 := Aside0.mk (HO.out.pass 2 0)
      go_upto_if 45 with (first
      | (go_at_call 12; (with_reducible refine (pass_ok go so 2 0 HO.out _ H_o5.out).mono ?_); rintro e w6 ⟨rfl, h6, f6⟩; have B6 := Aside0.mk (Fr.above B5.out B5.out.size f6 (fun i hi he => by have := G_o.out; omega)); have H_o6 := Aside0.mk h6; have H_a6 := Aside0.mk (H_a5.out.fr f6 N_a_o.out); have H_r6 := Aside0.mk (H_r5.out.fr f6 N_r_o.out); clear h6 f6 B5 H_a5 H_o5 H_r5; obtain ⟨x0, x1, x2⟩ := FX.out _ B6.out))
      by_cases hw0 : way = 0
      · subst hw0
        have hp := HS.out.2.pass HS.out.1 (by omega) a b
        have EV := Aside0.mk hp.2
        have ES := Aside0.mk hp.1.same
        have HR1 := Aside0.mk hp.1
        clear hp x0 x1 x2
        have OKR := Aside0.mk (HS.out.2.okR HS.out.1 (by omega))
        go_wp2_with fail
        refine region_known 11 23 [?rc13_0, ?rc13_1, ?rc13_2, ?rc13_3, ?rc13_4, ?rc13_5, ?rc13_6, ?rc13_7, ?rc13_8, ?rc13_9, ?rc13_10, .int .i64 (passS s a b).line, ?rc13_12, ?rc13_13, ?rc13_14, ?rc13_15, ?rc13_16, ?rc13_17, ?rc13_18, ?rc13_19, ?rc13_20, ?rc13_21, ?rc13_22, .int .i64 (passS s a b).line, ?rc13_24] (fun b1 b2 w' => Ob w' g 44 (cond b1 (passS s a b) s).cells ∧ Ob w' gr 47 (cond b2 (passR t a b) t).cells ∧ Ob w' go 44 (passS so 2 0).cells ∧ Below w.heap.size w w') (by kernel_rfl) (by kernel_rfl) (by kernel_rfl) (fun b1 b2 w1 w2 hb hj => ⟨hj.1.below hb, hj.2.1.below hb, hj.2.2.1.below hb, below_step hj.2.2.2 hb⟩) (⟨H_a6.out, H_r6.out, H_o6.out, B6.out⟩) ?rgo13 ?rgr13
        case rgo13 =>
          refine ⟨?_, ?_, ?_, ?_, ?_, ?_, ?_, ?_, ?_, ?_, ?_, ?_, ?_, ?_, ?_, ?_, ?_, ?_, ?_, ?_, ?_, ?_, ?_, ?_, ?_, trivial⟩
          · intro b1_ b2_ a_ w_ st x1_ x2_ y1_ y2_ hJ_
            have e10 : a_.eval (.tmp 10) = _ := st.slot 10 (by kernel_rfl)
            simp only [List.getD_cons_zero, List.getD_cons_succ] at e10
            refine op2_yield _ (by rfl) ?_ rfl (by decide) (by decide) hJ_
            simp only [execOp, e10]
            go_simp
            with_reducible rfl
          · intro b1_ b2_ a_ w_ st x1_ x2_ y1_ y2_ hJ_
            have e3 : a_.eval (.tmp 3) = _ := st.slot 3 (by kernel_rfl)
            simp only [List.getD_cons_zero, List.getD_cons_succ] at e3
            refine op2_yield _ (by rfl) ?_ rfl (by decide) (by decide) hJ_
            simp only [execOp, e3]
            go_simp
            with_reducible rfl
          · intro b1_ b2_ a_ w_ st x1_ x2_ y1_ y2_ hJ_
            have e13 : a_.eval (.tmp 13) = _ := st.slot 13 (by kernel_rfl)
            simp only [List.getD_cons_zero, List.getD_cons_succ] at e13
            refine op2_yield _ (by rfl) ?_ rfl (by decide) (by decide) hJ_
            simp only [execOp, e13]
            go_simp
            with_reducible rfl
          · intro b1_ b2_ a_ w_ st x1_ x2_ y1_ y2_ hJ_
            have e48 : a_.eval (.tmp 48) = _ := st.dep 1 _ 48 rfl rfl (by kernel_rfl)
            have e49 : a_.eval (.tmp 49) = _ := st.dep 2 _ 49 rfl rfl (by kernel_rfl)
            simp only [List.getD_cons_zero, List.getD_cons_succ] at e48 e49
            refine op2_yield _ (by rfl) ?_ rfl (by decide) (by decide) hJ_
            simp only [execOp, e48, e49]
            go_simp
            with_reducible rfl
          · intro b1_ b2_ a_ w_ st x1_ x2_ y1_ y2_ hJ_
            have e50 : a_.eval (.tmp 50) = _ := st.dep 3 _ 50 rfl rfl (by kernel_rfl)
            simp only [List.getD_cons_zero, List.getD_cons_succ] at e50
            refine op2_yield _ (by rfl) ?_ rfl (by decide) (by decide) hJ_
            simp only [execOp, e50]
            go_simp
            with_reducible rfl
          · intro b1_ b2_ a_ w_ st x1_ x2_ y1_ y2_ hJ_
            have e51 : a_.eval (.tmp 51) = _ := st.dep 4 _ 51 rfl rfl (by kernel_rfl)
            simp only [List.getD_cons_zero, List.getD_cons_succ] at e51
            obtain ⟨y0, y1, y2⟩ := FX.out w_ hJ_.2.2.2
            refine op2_yield _ (by rfl) ?_ rfl (by decide) (by decide) hJ_
            simp only [execOp, e51]
            go_simp
            with_reducible rfl
          · intro b1_ b2_ a_ w_ st x1_ x2_ y1_ y2_ hJ_
            have e3 : a_.eval (.tmp 3) = _ := st.slot 3 (by kernel_rfl)
            simp only [List.getD_cons_zero, List.getD_cons_succ] at e3
            refine op2_yield _ (by rfl) ?_ rfl (by decide) (by decide) hJ_
            simp only [execOp, e3]
            go_simp
            with_reducible rfl
          · intro b1_ b2_ a_ w_ st x1_ x2_ y1_ y2_ hJ_
            have e13 : a_.eval (.tmp 13) = _ := st.slot 13 (by kernel_rfl)
            simp only [List.getD_cons_zero, List.getD_cons_succ] at e13
            refine op2_yield _ (by rfl) ?_ rfl (by decide) (by decide) hJ_
            simp only [execOp, e13]
            go_simp
            with_reducible rfl
          · intro b1_ b2_ a_ w_ st x1_ x2_ y1_ y2_ hJ_
            have e53 : a_.eval (.tmp 53) = _ := st.dep 6 _ 53 rfl rfl (by kernel_rfl)
            have e54 : a_.eval (.tmp 54) = _ := st.dep 7 _ 54 rfl rfl (by kernel_rfl)
            simp only [List.getD_cons_zero, List.getD_cons_succ] at e53 e54
            refine op2_yield _ (by rfl) ?_ rfl (by decide) (by decide) hJ_
            simp only [execOp, e53, e54]
            go_simp
            with_reducible rfl
          · intro b1_ b2_ a_ w_ st x1_ x2_ y1_ y2_ hJ_
            have e55 : a_.eval (.tmp 55) = _ := st.dep 8 _ 55 rfl rfl (by kernel_rfl)
            simp only [List.getD_cons_zero, List.getD_cons_succ] at e55
            refine op2_yield _ (by rfl) ?_ rfl (by decide) (by decide) hJ_
            simp only [execOp, e55]
            go_simp
            with_reducible rfl
          · intro b1_ b2_ a_ w_ st x1_ x2_ y1_ y2_ hJ_
            have e56 : a_.eval (.tmp 56) = _ := st.dep 9 _ 56 rfl rfl (by kernel_rfl)
            simp only [List.getD_cons_zero, List.getD_cons_succ] at e56
            obtain ⟨y0, y1, y2⟩ := FX.out w_ hJ_.2.2.2
            refine op2_yield _ (by rfl) ?_ rfl (by decide) (by decide) hJ_
            simp only [execOp, e56]
            go_simp
            with_reducible rfl
          · intro b1_ b2_ a_ w_ st x1_ x2_ y1_ y2_ hJ_
            have e47 : a_.eval (.tmp 47) = _ := st.dep 0 _ 47 rfl rfl (by kernel_rfl)
            have e52 : a_.eval (.tmp 52) = _ := st.dep 5 _ 52 rfl rfl (by kernel_rfl)
            have e57 : a_.eval (.tmp 57) = _ := st.dep 10 _ 57 rfl rfl (by kernel_rfl)
            simp only [List.getD_cons_zero, List.getD_cons_succ] at e47 e52 e57
            obtain rfl : b1_ = false := x1_ rfl
            exact op2_go Try.func12 (by kernel_rfl) rfl #[.pointer (some ⟨g, 0, none⟩), .int .i64 a, .int .i64 b] (by rfl) rfl (by simp [e47, e52, e57]) ((pass_ok g s a b HS.out.1 w_ hJ_.1).mono fun e w' hh => ⟨_, hh.1, VC_keep, .inr rfl, hh.2.1, hJ_.2.1.fr hh.2.2 N_r_a.out, hJ_.2.2.1.fr hh.2.2 N_o_a.out, Fr.above hJ_.2.2.2 hJ_.2.2.2.size hh.2.2 (fun i hi he => by have := G_a.out; omega)⟩)
          · intro b1_ b2_ a_ w_ st x1_ x2_ y1_ y2_ hJ_
            have e12 : a_.eval (.tmp 12) = _ := st.slot 12 (by kernel_rfl)
            simp only [List.getD_cons_zero, List.getD_cons_succ] at e12
            refine op2_yield _ (by rfl) ?_ rfl (by decide) (by decide) hJ_
            simp only [execOp, e12]
            go_simp
            with_reducible rfl
          · intro b1_ b2_ a_ w_ st x1_ x2_ y1_ y2_ hJ_
            have e3 : a_.eval (.tmp 3) = _ := st.slot 3 (by kernel_rfl)
            simp only [List.getD_cons_zero, List.getD_cons_succ] at e3
            refine op2_yield _ (by rfl) ?_ rfl (by decide) (by decide) hJ_
            simp only [execOp, e3]
            go_simp
            with_reducible rfl
          · intro b1_ b2_ a_ w_ st x1_ x2_ y1_ y2_ hJ_
            have e13 : a_.eval (.tmp 13) = _ := st.slot 13 (by kernel_rfl)
            simp only [List.getD_cons_zero, List.getD_cons_succ] at e13
            refine op2_yield _ (by rfl) ?_ rfl (by decide) (by decide) hJ_
            simp only [execOp, e13]
            go_simp
            with_reducible rfl
          · intro b1_ b2_ a_ w_ st x1_ x2_ y1_ y2_ hJ_
            have e60 : a_.eval (.tmp 60) = _ := st.dep 13 _ 60 rfl rfl (by kernel_rfl)
            have e61 : a_.eval (.tmp 61) = _ := st.dep 14 _ 61 rfl rfl (by kernel_rfl)
            simp only [List.getD_cons_zero, List.getD_cons_succ] at e60 e61
            refine op2_yield _ (by rfl) ?_ rfl (by decide) (by decide) hJ_
            simp only [execOp, e60, e61]
            go_simp
            with_reducible rfl
          · intro b1_ b2_ a_ w_ st x1_ x2_ y1_ y2_ hJ_
            have e62 : a_.eval (.tmp 62) = _ := st.dep 15 _ 62 rfl rfl (by kernel_rfl)
            simp only [List.getD_cons_zero, List.getD_cons_succ] at e62
            refine op2_yield _ (by rfl) ?_ rfl (by decide) (by decide) hJ_
            simp only [execOp, e62]
            go_simp
            with_reducible rfl
          · intro b1_ b2_ a_ w_ st x1_ x2_ y1_ y2_ hJ_
            have e63 : a_.eval (.tmp 63) = _ := st.dep 16 _ 63 rfl rfl (by kernel_rfl)
            simp only [List.getD_cons_zero, List.getD_cons_succ] at e63
            obtain ⟨y0, y1, y2⟩ := FX.out w_ hJ_.2.2.2
            refine op2_yield _ (by rfl) ?_ rfl (by decide) (by decide) hJ_
            simp only [execOp, e63]
            go_simp
            with_reducible rfl
          · intro b1_ b2_ a_ w_ st x1_ x2_ y1_ y2_ hJ_
            have e3 : a_.eval (.tmp 3) = _ := st.slot 3 (by kernel_rfl)
            simp only [List.getD_cons_zero, List.getD_cons_succ] at e3
            refine op2_yield _ (by rfl) ?_ rfl (by decide) (by decide) hJ_
            simp only [execOp, e3]
            go_simp
            with_reducible rfl
          · intro b1_ b2_ a_ w_ st x1_ x2_ y1_ y2_ hJ_
            have e13 : a_.eval (.tmp 13) = _ := st.slot 13 (by kernel_rfl)
            simp only [List.getD_cons_zero, List.getD_cons_succ] at e13
            refine op2_yield _ (by rfl) ?_ rfl (by decide) (by decide) hJ_
            simp only [execOp, e13]
            go_simp
            with_reducible rfl
          · intro b1_ b2_ a_ w_ st x1_ x2_ y1_ y2_ hJ_
            have e65 : a_.eval (.tmp 65) = _ := st.dep 18 _ 65 rfl rfl (by kernel_rfl)
            have e66 : a_.eval (.tmp 66) = _ := st.dep 19 _ 66 rfl rfl (by kernel_rfl)
            simp only [List.getD_cons_zero, List.getD_cons_succ] at e65 e66
            refine op2_yield _ (by rfl) ?_ rfl (by decide) (by decide) hJ_
            simp only [execOp, e65, e66]
            go_simp
            with_reducible rfl
          · intro b1_ b2_ a_ w_ st x1_ x2_ y1_ y2_ hJ_
            have e67 : a_.eval (.tmp 67) = _ := st.dep 20 _ 67 rfl rfl (by kernel_rfl)
            simp only [List.getD_cons_zero, List.getD_cons_succ] at e67
            refine op2_yield _ (by rfl) ?_ rfl (by decide) (by decide) hJ_
            simp only [execOp, e67]
            go_simp
            with_reducible rfl
          · intro b1_ b2_ a_ w_ st x1_ x2_ y1_ y2_ hJ_
            have e68 : a_.eval (.tmp 68) = _ := st.dep 21 _ 68 rfl rfl (by kernel_rfl)
            simp only [List.getD_cons_zero, List.getD_cons_succ] at e68
            obtain ⟨y0, y1, y2⟩ := FX.out w_ hJ_.2.2.2
            refine op2_yield _ (by rfl) ?_ rfl (by decide) (by decide) hJ_
            simp only [execOp, e68]
            go_simp
            with_reducible rfl
          · intro b1_ b2_ a_ w_ st x1_ x2_ y1_ y2_ hJ_
            have e59 : a_.eval (.tmp 59) = _ := st.dep 12 _ 59 rfl rfl (by kernel_rfl)
            have e64 : a_.eval (.tmp 64) = _ := st.dep 17 _ 64 rfl rfl (by kernel_rfl)
            have e69 : a_.eval (.tmp 69) = _ := st.dep 22 _ 69 rfl rfl (by kernel_rfl)
            simp only [List.getD_cons_zero, List.getD_cons_succ] at e59 e64 e69
            obtain rfl : b2_ = false := x2_ rfl
            exact op2_go Try.func18 (by kernel_rfl) rfl #[.pointer (some ⟨gr, 0, none⟩), .int .i64 a, .int .i64 b] (by rfl) rfl (by simp [e59, e64, e69]) ((passr_ok gr t a b OKR.out w_ hJ_.2.1).mono fun e w' hh => ⟨_, hh.1, VC_keep, .inr (by rw [EV.out]; rfl), hJ_.1.fr hh.2.2 N_a_r.out, hh.2.1, hJ_.2.2.1.fr hh.2.2 N_o_r.out, Fr.above hJ_.2.2.2 hJ_.2.2.2.size hh.2.2 (fun i hi he => by have := G_r.out; omega)⟩)
          · intro b1_ b2_ a_ w_ st x1_ x2_ y1_ y2_ hJ_
            have e58 : a_.eval (.tmp 58) = _ := st.dep 11 _ 58 rfl rfl (by kernel_rfl)
            have e70 : a_.eval (.tmp 70) = _ := st.dep 23 _ 70 rfl rfl (by kernel_rfl)
            simp only [List.getD_cons_zero, List.getD_cons_succ] at e58 e70
            refine op2_yield _ (by rfl) ?_ rfl (by decide) (by decide) hJ_
            simp only [execOp, e58, e70]
            go_simp
            with_reducible rfl
        case rgr13 =>
          intro w7 hj
          obtain ⟨j1, j2, j3, j4⟩ := (show Ob w7 g 44 (passS s a b).cells ∧ Ob w7 gr 47 (passR t a b).cells ∧ Ob w7 go 44 (passS so 2 0).cells ∧ Below w.heap.size w w7 from hj)
          simp only [putL, Act.put, List.headD_cons, List.tail_cons, List.setIfInBounds_toArray, List.set_cons_zero, List.set_cons_succ]
          have H_a7 := Aside0.mk j1
          have H_r7 := Aside0.mk j2
          have H_o7 := Aside0.mk j3
          have B7 := Aside0.mk j4
          clear hj j1 j2 j3 j4
          go_wp2_with (first
      | (go_at_call 21; (with_reducible refine (getline_ok g (passS s a b) _ H_a7.out).mono ?_); rintro e w8 ⟨rfl, h8, f8⟩; have B8 := Aside0.mk (Fr.above B7.out B7.out.size f8 (fun i hi he => by have := G_a.out; omega)); have H_a8 := Aside0.mk h8; have H_o8 := Aside0.mk (H_o7.out.fr f8 N_o_a.out); have H_r8 := Aside0.mk (H_r7.out.fr f8 N_r_a.out); clear h8 f8 B7 H_a7 H_o7 H_r7)
      | (go_at_call 22; (with_reducible refine (getliner_ok gr (passR t a b) _ H_r8.out).mono ?_); rintro e w9 ⟨rfl, h9, f9⟩; rw [ES.out.1]; have B9 := Aside0.mk (Fr.above B8.out B8.out.size f9 (fun i hi he => by have := G_r.out; omega)); have H_r9 := Aside0.mk h9; have H_a9 := Aside0.mk (H_a8.out.fr f9 N_a_r.out); have H_o9 := Aside0.mk (H_o8.out.fr f9 N_o_r.out); clear h9 f9 B8 H_a8 H_o8 H_r8)
      | (go_at_call 14; (with_reducible refine (request_ok g (passS s a b) _ H_a9.out).mono ?_); rintro e w10 ⟨rfl, h10, f10⟩; have B10 := Aside0.mk (Fr.above B9.out B9.out.size f10 (fun i hi he => by have := G_a.out; omega)); have H_a10 := Aside0.mk h10; have H_o10 := Aside0.mk (H_o9.out.fr f10 N_o_a.out); have H_r10 := Aside0.mk (H_r9.out.fr f10 N_r_a.out); clear h10 f10 B9 H_a9 H_o9 H_r9)
      | (go_at_call 23; (with_reducible refine (requestr_ok gr (passR t a b) _ H_r10.out).mono ?_); rintro e w11 ⟨rfl, h11, f11⟩; rw [ES.out.2]; have B11 := Aside0.mk (Fr.above B10.out B10.out.size f11 (fun i hi he => by have := G_r.out; omega)); have H_r11 := Aside0.mk h11; have H_a11 := Aside0.mk (H_a10.out.fr f11 N_a_r.out); have H_o11 := Aside0.mk (H_o10.out.fr f11 N_o_r.out); clear h11 f11 B10 H_a10 H_o10 H_r10))
          go_roundg (n - k)
          case measure => omega
          case rel => exact ⟨k + 1, passS s a b, passR t a b, passS so 2 0, by go_num, by omega, by omega, ⟨HS.out.1.pass a b, HR1.out⟩, ⟨HO2.out⟩, H_a11, H_r11, H_o11, B11⟩
      · have bw0 : (way == 0) = false := beq_eq_false_iff_ne.mpr hw0
        by_cases hw1 : way = 1
        · subst hw1
          have hc := HS.out.2.command a
          have HR1 := Aside0.mk hc.next
          have ES := Aside0.mk hc.same
          clear hc x0 x1 x2
          go_wp2_with fail
          refine region_known 6 13 [?rc16_0, ?rc16_1, ?rc16_2, ?rc16_3, ?rc16_4, ?rc16_5, .bool (okC a), ?rc16_7, ?rc16_8, ?rc16_9, ?rc16_10, ?rc16_11, ?rc16_12, .bool (okC a), ?rc16_14] (fun b1 b2 w' => Ob w' g 44 (cond b1 (commandS s a) s).cells ∧ Ob w' gr 47 (cond b2 (commandS t a) t).cells ∧ Ob w' go 44 (passS so 2 0).cells ∧ Below w.heap.size w w') (by kernel_rfl) (by kernel_rfl) (by kernel_rfl) (fun b1 b2 w1 w2 hb hj => ⟨hj.1.below hb, hj.2.1.below hb, hj.2.2.1.below hb, below_step hj.2.2.2 hb⟩) (⟨H_a6.out, H_r6.out, H_o6.out, B6.out⟩) ?rgo16 ?rgr16
          case rgo16 =>
            refine ⟨?_, ?_, ?_, ?_, ?_, ?_, ?_, ?_, ?_, ?_, ?_, ?_, ?_, ?_, ?_, trivial⟩
            · intro b1_ b2_ a_ w_ st x1_ x2_ y1_ y2_ hJ_
              have e10 : a_.eval (.tmp 10) = _ := st.slot 10 (by kernel_rfl)
              simp only [List.getD_cons_zero, List.getD_cons_succ] at e10
              refine op2_yield _ (by rfl) ?_ rfl (by decide) (by decide) hJ_
              simp only [execOp, e10]
              go_simp
              with_reducible rfl
            · intro b1_ b2_ a_ w_ st x1_ x2_ y1_ y2_ hJ_
              have e3 : a_.eval (.tmp 3) = _ := st.slot 3 (by kernel_rfl)
              simp only [List.getD_cons_zero, List.getD_cons_succ] at e3
              refine op2_yield _ (by rfl) ?_ rfl (by decide) (by decide) hJ_
              simp only [execOp, e3]
              go_simp
              with_reducible rfl
            · intro b1_ b2_ a_ w_ st x1_ x2_ y1_ y2_ hJ_
              have e13 : a_.eval (.tmp 13) = _ := st.slot 13 (by kernel_rfl)
              simp only [List.getD_cons_zero, List.getD_cons_succ] at e13
              refine op2_yield _ (by rfl) ?_ rfl (by decide) (by decide) hJ_
              simp only [execOp, e13]
              go_simp
              with_reducible rfl
            · intro b1_ b2_ a_ w_ st x1_ x2_ y1_ y2_ hJ_
              have e75 : a_.eval (.tmp 75) = _ := st.dep 1 _ 75 rfl rfl (by kernel_rfl)
              have e76 : a_.eval (.tmp 76) = _ := st.dep 2 _ 76 rfl rfl (by kernel_rfl)
              simp only [List.getD_cons_zero, List.getD_cons_succ] at e75 e76
              refine op2_yield _ (by rfl) ?_ rfl (by decide) (by decide) hJ_
              simp only [execOp, e75, e76]
              go_simp
              with_reducible rfl
            · intro b1_ b2_ a_ w_ st x1_ x2_ y1_ y2_ hJ_
              have e77 : a_.eval (.tmp 77) = _ := st.dep 3 _ 77 rfl rfl (by kernel_rfl)
              simp only [List.getD_cons_zero, List.getD_cons_succ] at e77
              refine op2_yield _ (by rfl) ?_ rfl (by decide) (by decide) hJ_
              simp only [execOp, e77]
              go_simp
              with_reducible rfl
            · intro b1_ b2_ a_ w_ st x1_ x2_ y1_ y2_ hJ_
              have e78 : a_.eval (.tmp 78) = _ := st.dep 4 _ 78 rfl rfl (by kernel_rfl)
              simp only [List.getD_cons_zero, List.getD_cons_succ] at e78
              obtain ⟨y0, y1, y2⟩ := FX.out w_ hJ_.2.2.2
              refine op2_yield _ (by rfl) ?_ rfl (by decide) (by decide) hJ_
              simp only [execOp, e78]
              go_simp
              with_reducible rfl
            · intro b1_ b2_ a_ w_ st x1_ x2_ y1_ y2_ hJ_
              have e74 : a_.eval (.tmp 74) = _ := st.dep 0 _ 74 rfl rfl (by kernel_rfl)
              have e79 : a_.eval (.tmp 79) = _ := st.dep 5 _ 79 rfl rfl (by kernel_rfl)
              simp only [List.getD_cons_zero, List.getD_cons_succ] at e74 e79
              obtain rfl : b1_ = false := x1_ rfl
              exact op2_go Try.func15 (by kernel_rfl) rfl #[.pointer (some ⟨g, 0, none⟩), .int .i64 a] (by rfl) rfl (by simp [e74, e79]) ((command_ok g s a w_ hJ_.1).mono fun e w' hh => ⟨_, hh.1, VC_keep, .inr rfl, hh.2.1, hJ_.2.1.fr hh.2.2 N_r_a.out, hJ_.2.2.1.fr hh.2.2 N_o_a.out, Fr.above hJ_.2.2.2 hJ_.2.2.2.size hh.2.2 (fun i hi he => by have := G_a.out; omega)⟩)
            · intro b1_ b2_ a_ w_ st x1_ x2_ y1_ y2_ hJ_
              have e12 : a_.eval (.tmp 12) = _ := st.slot 12 (by kernel_rfl)
              simp only [List.getD_cons_zero, List.getD_cons_succ] at e12
              refine op2_yield _ (by rfl) ?_ rfl (by decide) (by decide) hJ_
              simp only [execOp, e12]
              go_simp
              with_reducible rfl
            · intro b1_ b2_ a_ w_ st x1_ x2_ y1_ y2_ hJ_
              have e3 : a_.eval (.tmp 3) = _ := st.slot 3 (by kernel_rfl)
              simp only [List.getD_cons_zero, List.getD_cons_succ] at e3
              refine op2_yield _ (by rfl) ?_ rfl (by decide) (by decide) hJ_
              simp only [execOp, e3]
              go_simp
              with_reducible rfl
            · intro b1_ b2_ a_ w_ st x1_ x2_ y1_ y2_ hJ_
              have e13 : a_.eval (.tmp 13) = _ := st.slot 13 (by kernel_rfl)
              simp only [List.getD_cons_zero, List.getD_cons_succ] at e13
              refine op2_yield _ (by rfl) ?_ rfl (by decide) (by decide) hJ_
              simp only [execOp, e13]
              go_simp
              with_reducible rfl
            · intro b1_ b2_ a_ w_ st x1_ x2_ y1_ y2_ hJ_
              have e82 : a_.eval (.tmp 82) = _ := st.dep 8 _ 82 rfl rfl (by kernel_rfl)
              have e83 : a_.eval (.tmp 83) = _ := st.dep 9 _ 83 rfl rfl (by kernel_rfl)
              simp only [List.getD_cons_zero, List.getD_cons_succ] at e82 e83
              refine op2_yield _ (by rfl) ?_ rfl (by decide) (by decide) hJ_
              simp only [execOp, e82, e83]
              go_simp
              with_reducible rfl
            · intro b1_ b2_ a_ w_ st x1_ x2_ y1_ y2_ hJ_
              have e84 : a_.eval (.tmp 84) = _ := st.dep 10 _ 84 rfl rfl (by kernel_rfl)
              simp only [List.getD_cons_zero, List.getD_cons_succ] at e84
              refine op2_yield _ (by rfl) ?_ rfl (by decide) (by decide) hJ_
              simp only [execOp, e84]
              go_simp
              with_reducible rfl
            · intro b1_ b2_ a_ w_ st x1_ x2_ y1_ y2_ hJ_
              have e85 : a_.eval (.tmp 85) = _ := st.dep 11 _ 85 rfl rfl (by kernel_rfl)
              simp only [List.getD_cons_zero, List.getD_cons_succ] at e85
              obtain ⟨y0, y1, y2⟩ := FX.out w_ hJ_.2.2.2
              refine op2_yield _ (by rfl) ?_ rfl (by decide) (by decide) hJ_
              simp only [execOp, e85]
              go_simp
              with_reducible rfl
            · intro b1_ b2_ a_ w_ st x1_ x2_ y1_ y2_ hJ_
              have e81 : a_.eval (.tmp 81) = _ := st.dep 7 _ 81 rfl rfl (by kernel_rfl)
              have e86 : a_.eval (.tmp 86) = _ := st.dep 12 _ 86 rfl rfl (by kernel_rfl)
              simp only [List.getD_cons_zero, List.getD_cons_succ] at e81 e86
              obtain rfl : b2_ = false := x2_ rfl
              exact op2_go Try.func19 (by kernel_rfl) rfl #[.pointer (some ⟨gr, 0, none⟩), .int .i64 a] (by rfl) rfl (by simp [e81, e86]) ((commandr_ok gr t a w_ hJ_.2.1).mono fun e w' hh => ⟨_, hh.1, VC_keep, .inr (rfl), hJ_.1.fr hh.2.2 N_a_r.out, hh.2.1, hJ_.2.2.1.fr hh.2.2 N_o_r.out, Fr.above hJ_.2.2.2 hJ_.2.2.2.size hh.2.2 (fun i hi he => by have := G_r.out; omega)⟩)
            · intro b1_ b2_ a_ w_ st x1_ x2_ y1_ y2_ hJ_
              have e80 : a_.eval (.tmp 80) = _ := st.dep 6 _ 80 rfl rfl (by kernel_rfl)
              have e87 : a_.eval (.tmp 87) = _ := st.dep 13 _ 87 rfl rfl (by kernel_rfl)
              simp only [List.getD_cons_zero, List.getD_cons_succ] at e80 e87
              refine op2_yield _ (by rfl) ?_ rfl (by decide) (by decide) hJ_
              simp only [execOp, e80, e87]
              go_simp
              with_reducible rfl
          case rgr16 =>
            intro w7 hj
            obtain ⟨j1, j2, j3, j4⟩ := (show Ob w7 g 44 (commandS s a).cells ∧ Ob w7 gr 47 (commandS t a).cells ∧ Ob w7 go 44 (passS so 2 0).cells ∧ Below w.heap.size w w7 from hj)
            simp only [putL, Act.put, List.headD_cons, List.tail_cons, List.setIfInBounds_toArray, List.set_cons_zero, List.set_cons_succ]
            have H_a7 := Aside0.mk j1
            have H_r7 := Aside0.mk j2
            have H_o7 := Aside0.mk j3
            have B7 := Aside0.mk j4
            clear hj j1 j2 j3 j4
            go_wp2_with (first
      | (go_at_call 21; (with_reducible refine (getline_ok g (commandS s a) _ H_a7.out).mono ?_); rintro e w8 ⟨rfl, h8, f8⟩; have B8 := Aside0.mk (Fr.above B7.out B7.out.size f8 (fun i hi he => by have := G_a.out; omega)); have H_a8 := Aside0.mk h8; have H_o8 := Aside0.mk (H_o7.out.fr f8 N_o_a.out); have H_r8 := Aside0.mk (H_r7.out.fr f8 N_r_a.out); clear h8 f8 B7 H_a7 H_o7 H_r7)
      | (go_at_call 22; (with_reducible refine (getliner_ok gr (commandS t a) _ H_r8.out).mono ?_); rintro e w9 ⟨rfl, h9, f9⟩; rw [ES.out.1]; have B9 := Aside0.mk (Fr.above B8.out B8.out.size f9 (fun i hi he => by have := G_r.out; omega)); have H_r9 := Aside0.mk h9; have H_a9 := Aside0.mk (H_a8.out.fr f9 N_a_r.out); have H_o9 := Aside0.mk (H_o8.out.fr f9 N_o_r.out); clear h9 f9 B8 H_a8 H_o8 H_r8)
      | (go_at_call 14; (with_reducible refine (request_ok g (commandS s a) _ H_a9.out).mono ?_); rintro e w10 ⟨rfl, h10, f10⟩; have B10 := Aside0.mk (Fr.above B9.out B9.out.size f10 (fun i hi he => by have := G_a.out; omega)); have H_a10 := Aside0.mk h10; have H_o10 := Aside0.mk (H_o9.out.fr f10 N_o_a.out); have H_r10 := Aside0.mk (H_r9.out.fr f10 N_r_a.out); clear h10 f10 B9 H_a9 H_o9 H_r9)
      | (go_at_call 23; (with_reducible refine (requestr_ok gr (commandS t a) _ H_r10.out).mono ?_); rintro e w11 ⟨rfl, h11, f11⟩; rw [ES.out.2]; have B11 := Aside0.mk (Fr.above B10.out B10.out.size f11 (fun i hi he => by have := G_r.out; omega)); have H_r11 := Aside0.mk h11; have H_a11 := Aside0.mk (H_a10.out.fr f11 N_a_r.out); have H_o11 := Aside0.mk (H_o10.out.fr f11 N_o_r.out); clear h11 f11 B10 H_a10 H_o10 H_r10))
            go_roundg (n - k)
            case measure => omega
            case rel => exact ⟨k + 1, commandS s a, commandS t a, passS so 2 0, by go_num, by omega, by omega, ⟨HS.out.1.command a, HR1.out⟩, ⟨HO2.out⟩, H_a11, H_r11, H_o11, B11⟩
        · have bw1 : (way == 1) = false := beq_eq_false_iff_ne.mpr hw1
          by_cases hw2 : way = 2
          · subst hw2
            have hc := HS.out.2.remote a
            have HR1 := Aside0.mk hc.next
            have ES := Aside0.mk hc.same
            clear hc
            go_wp2_with (first
      | (go_at_call 13; (with_reducible refine (remote_ok g s a _ H_a6.out).mono ?_); rintro e w7 ⟨rfl, h7, f7⟩; have B7 := Aside0.mk (Fr.above B6.out B6.out.size f7 (fun i hi he => by have := G_a.out; omega)); have H_a7 := Aside0.mk h7; have H_o7 := Aside0.mk (H_o6.out.fr f7 N_o_a.out); have H_r7 := Aside0.mk (H_r6.out.fr f7 N_r_a.out); clear h7 f7 B6 H_a6 H_o6 H_r6; clear x0 x1 x2; obtain ⟨x0, x1, x2⟩ := FX.out _ B7.out)
      | (go_at_call 20; (with_reducible refine (remoter_ok gr t a _ H_r7.out).mono ?_); rintro e w8 ⟨rfl, h8, f8⟩; have B8 := Aside0.mk (Fr.above B7.out B7.out.size f8 (fun i hi he => by have := G_r.out; omega)); have H_r8 := Aside0.mk h8; have H_a8 := Aside0.mk (H_a7.out.fr f8 N_a_r.out); have H_o8 := Aside0.mk (H_o7.out.fr f8 N_o_r.out); clear h8 f8 B7 H_a7 H_o7 H_r7)
      | (go_at_call 21; (with_reducible refine (getline_ok g (remoteS s a) _ H_a8.out).mono ?_); rintro e w9 ⟨rfl, h9, f9⟩; have B9 := Aside0.mk (Fr.above B8.out B8.out.size f9 (fun i hi he => by have := G_a.out; omega)); have H_a9 := Aside0.mk h9; have H_o9 := Aside0.mk (H_o8.out.fr f9 N_o_a.out); have H_r9 := Aside0.mk (H_r8.out.fr f9 N_r_a.out); clear h9 f9 B8 H_a8 H_o8 H_r8)
      | (go_at_call 22; (with_reducible refine (getliner_ok gr (remoteS t a) _ H_r9.out).mono ?_); rintro e w10 ⟨rfl, h10, f10⟩; rw [ES.out.1]; have B10 := Aside0.mk (Fr.above B9.out B9.out.size f10 (fun i hi he => by have := G_r.out; omega)); have H_r10 := Aside0.mk h10; have H_a10 := Aside0.mk (H_a9.out.fr f10 N_a_r.out); have H_o10 := Aside0.mk (H_o9.out.fr f10 N_o_r.out); clear h10 f10 B9 H_a9 H_o9 H_r9)
      | (go_at_call 14; (with_reducible refine (request_ok g (remoteS s a) _ H_a10.out).mono ?_); rintro e w11 ⟨rfl, h11, f11⟩; have B11 := Aside0.mk (Fr.above B10.out B10.out.size f11 (fun i hi he => by have := G_a.out; omega)); have H_a11 := Aside0.mk h11; have H_o11 := Aside0.mk (H_o10.out.fr f11 N_o_a.out); have H_r11 := Aside0.mk (H_r10.out.fr f11 N_r_a.out); clear h11 f11 B10 H_a10 H_o10 H_r10)
      | (go_at_call 23; (with_reducible refine (requestr_ok gr (remoteS t a) _ H_r11.out).mono ?_); rintro e w12 ⟨rfl, h12, f12⟩; rw [ES.out.2]; have B12 := Aside0.mk (Fr.above B11.out B11.out.size f12 (fun i hi he => by have := G_r.out; omega)); have H_r12 := Aside0.mk h12; have H_a12 := Aside0.mk (H_a11.out.fr f12 N_a_r.out); have H_o12 := Aside0.mk (H_o11.out.fr f12 N_o_r.out); clear h12 f12 B11 H_a11 H_o11 H_r11))
            go_roundg (n - k)
            case measure => omega
            case rel => exact ⟨k + 1, remoteS s a, remoteS t a, passS so 2 0, by go_num, by omega, by omega, ⟨HS.out.1.remote a, HR1.out⟩, ⟨HO2.out⟩, H_a12, H_r12, H_o12, B12⟩
          · have bw2 : (way == 2) = false := beq_eq_false_iff_ne.mpr hw2
            have HR1 := Aside0.mk HS.out.2.next
            have ES := Aside0.mk HS.out.2.same
            go_wp2_with (first
      | (go_at_call 21; (with_reducible refine (getline_ok g s _ H_a6.out).mono ?_); rintro e w7 ⟨rfl, h7, f7⟩; have B7 := Aside0.mk (Fr.above B6.out B6.out.size f7 (fun i hi he => by have := G_a.out; omega)); have H_a7 := Aside0.mk h7; have H_o7 := Aside0.mk (H_o6.out.fr f7 N_o_a.out); have H_r7 := Aside0.mk (H_r6.out.fr f7 N_r_a.out); clear h7 f7 B6 H_a6 H_o6 H_r6)
      | (go_at_call 22; (with_reducible refine (getliner_ok gr t _ H_r7.out).mono ?_); rintro e w8 ⟨rfl, h8, f8⟩; rw [ES.out.1]; have B8 := Aside0.mk (Fr.above B7.out B7.out.size f8 (fun i hi he => by have := G_r.out; omega)); have H_r8 := Aside0.mk h8; have H_a8 := Aside0.mk (H_a7.out.fr f8 N_a_r.out); have H_o8 := Aside0.mk (H_o7.out.fr f8 N_o_r.out); clear h8 f8 B7 H_a7 H_o7 H_r7)
      | (go_at_call 14; (with_reducible refine (request_ok g s _ H_a8.out).mono ?_); rintro e w9 ⟨rfl, h9, f9⟩; have B9 := Aside0.mk (Fr.above B8.out B8.out.size f9 (fun i hi he => by have := G_a.out; omega)); have H_a9 := Aside0.mk h9; have H_o9 := Aside0.mk (H_o8.out.fr f9 N_o_a.out); have H_r9 := Aside0.mk (H_r8.out.fr f9 N_r_a.out); clear h9 f9 B8 H_a8 H_o8 H_r8)
      | (go_at_call 23; (with_reducible refine (requestr_ok gr t _ H_r9.out).mono ?_); rintro e w10 ⟨rfl, h10, f10⟩; rw [ES.out.2]; have B10 := Aside0.mk (Fr.above B9.out B9.out.size f10 (fun i hi he => by have := G_r.out; omega)); have H_r10 := Aside0.mk h10; have H_a10 := Aside0.mk (H_a9.out.fr f10 N_a_r.out); have H_o10 := Aside0.mk (H_o9.out.fr f10 N_o_r.out); clear h10 f10 B9 H_a9 H_o9 H_r9))
            go_roundg (n - k)
            case measure => omega
            case rel => exact ⟨k + 1, s, t, passS so 2 0, by go_num, by omega, by omega, ⟨HS.out.1, HR1.out⟩, ⟨HO2.out⟩, H_a10, H_r10, H_o10, B10⟩
    · go_wp2_with fail
      go_ret
      exact ⟨rfl, B5.out⟩
set_option maxHeartbeats 8000000 in
set_option maxRecDepth 100000 in
theorem plays_out (hold wait : Int) (r : Bool) (A : Option Addr) (n c : Nat) (w : World) (hn : 200 < n) (hm : n ≤ 9223372036854775807) :
    Calls Try.prog 7 #[.int .i64 hold, .int .i64 wait, .bool r, .slice A n c] w fun e w' => e = .returned (.bool true) ∧ Below w.heap.size w w' := by
  have h1 : (200 : Int) < (n : Int) := by omega
  clear hn
  go_enter Try.func7, Try.ntmps7
  go_wp2_with (first
      | (go_at_call 10; (with_reducible refine (alive_ok _).mono ?_); rintro e w1 ⟨rfl, hb1⟩; have HB1 := Aside0.mk hb1; clear hb1))
  go_ret
  exact ⟨rfl, HB1.out⟩
theorem walk (a0 a1 : Int) (a2 : Bool) (a3 : Option Addr) (len3 cap3 : Nat) (z3 : List (Int × Int × Int)) (W : World) (_h0 : (Lit.int .i64 a0).wf = true) (_h1 : (Lit.int .i64 a1).wf = true) (w3 : IsActs W a3 len3 cap3 z3) :
    Calls Try.prog 7 #[.int .i64 a0, .int .i64 a1, .bool a2, .slice a3 len3 cap3] W fun e w' => e = .returned (.bool true) ∧ Below W.heap.size W w' := by
  rcases Nat.lt_or_ge 200 len3 with h | h
  · exact plays_out a0 a1 a2 a3 len3 cap3 W h w3.len.2
  · exact plays_in a0 a1 a2 a3 len3 cap3 z3 W w3 h

end Go.Proofs.Ytijjmhgcfhkffaa.ApsPlaysW
