/- Two ends that fail and hear each other let each other in again: the walk. -/
import Derived.Test.YtflgngnkfcfhpaaReF
import Derived.Test.YtflgngnkfcfhpaaReO
namespace Go.Proofs.Ytflgngnkfcfhpaa.ReMeetsW
open Go.RowKit Go.Proofs.YtflgngnkfcfhpaaW.PrintWords Go.Proofs.YtflgngnkfcfhpaaW.PrintLast Go.Proofs.YtflgngnkfcfhpaaW.PrintMore Go.Proofs.Ytflgngnkfcfhpaa.K Go.Proofs.Ytflgngnkfcfhpaa.ReP Go.Proofs.Ytflgngnkfcfhpaa.ReA Go.Proofs.Ytflgngnkfcfhpaa.ReB Go.Proofs.Ytflgngnkfcfhpaa.ReC Go.Proofs.Ytflgngnkfcfhpaa.ReD Go.Proofs.Ytflgngnkfcfhpaa.ReF Go.Proofs.Ytflgngnkfcfhpaa.ReO
set_option linter.unusedVariables false
set_option linter.unusedSimpArgs false
attribute [local go_sem] max2_int min2_int max_two min_two

attribute [local go_sem] eq39
def Away (g : Nat) (v u : Value) : Prop := ∀ k, some k = u.ownBlock → ¬ foot g v k
theorem Away.mv {w w1 : World} {g : Nat} {v v1 u : Value} (h : Away g v u) (m : Mv g v v1 w w1) (hl : ∀ k, some k = u.ownBlock → k < w.heap.size) : Away g v1 u := by
  intro k hk hf
  rcases hf with hf | hf
  · exact h k hk (.inl hf)
  · rcases m.nx k hf with e | e
    · exact h k hk (.inr e)
    · have := hl k hk; omega
theorem Away.none (g : Nat) (v : Value) : Away g v (.slice none 0 0) := fun k hk => by simp [Value.ownBlock] at hk
structure Meet (w0 w : World) (ga gb : Nat) (va vb vx vy : Value) (A B : En) (X Y : List (Int × Int)) : Prop where
  a : IsO 42 w0.heap.size w ga va A.cells A.out
  b : IsO 42 w0.heap.size w gb vb B.cells B.out
  x : Own PK 39 w0.heap.size w vx X
  y : Own PK 39 w0.heap.size w vy Y
  ab : Apart ga va gb vb
  xa : Away ga va vx
  xb : Away gb vb vx
  ya : Away ga va vy
  yb : Away gb vb vy
  ga_ : w0.heap.size ≤ ga
  gb_ : w0.heap.size ≤ gb
  below : Below w0.heap.size w0 w
section
variable {w0 w w1 : World} {ga gb : Nat} {va vb vx vy v1 : Value} {A B E1 : En} {X Y Z : List (Int × Int)}
theorem Meet.step (T : Meet w0 w ga gb va vb vx vy A B X Y) (hb : Below w.heap.size w w1) : Meet w0 w1 ga gb va vb vx vy A B X Y :=
  ⟨T.a.below hb, T.b.below hb, T.x.below hb, T.y.below hb, T.ab, T.xa, T.xb, T.ya, T.yb, T.ga_, T.gb_, below_step T.below hb⟩
theorem Meet.moveA (T : Meet w0 w ga gb va vb vx vy A B X Y) (m : Mv ga va v1 w w1) (i : IsO 42 w0.heap.size w1 ga v1 E1.cells E1.out) : Meet w0 w1 ga gb v1 vb vx vy E1 B X Y :=
  ⟨i, T.b.mv m T.ab, own_fr T.x m.fr T.xa, own_fr T.y m.fr T.ya, T.ab.mv m T.b, T.xa.mv m (fun k hk => (own_b T.x k hk).2), T.xb, T.ya.mv m (fun k hk => (own_b T.y k hk).2), T.yb, T.ga_, T.gb_, T.a.down T.ga_ m T.below⟩
theorem Meet.moveB (T : Meet w0 w ga gb va vb vx vy A B X Y) (m : Mv gb vb v1 w w1) (i : IsO 42 w0.heap.size w1 gb v1 E1.cells E1.out) : Meet w0 w1 ga gb va v1 vx vy A E1 X Y :=
  ⟨T.a.mv m T.ab.symm, i, own_fr T.x m.fr T.xb, own_fr T.y m.fr T.yb, (T.ab.symm.mv m T.a).symm, T.xa, T.xb.mv m (fun k hk => (own_b T.x k hk).2), T.ya, T.yb.mv m (fun k hk => (own_b T.y k hk).2), T.ga_, T.gb_, T.b.down T.gb_ m T.below⟩
theorem Meet.newX (T : Meet w0 w ga gb va vb vx vy A B X Y) {wp : World} (hp : w0.heap.size ≤ wp.heap.size) (ha : ∀ k, foot ga va k → k < wp.heap.size) (hb : ∀ k, foot gb vb k → k < wp.heap.size) (o : Own PK 39 wp.heap.size w v1 Z) : Meet w0 w ga gb va vb v1 vy A B Z Y :=
  ⟨T.a, T.b, o.lower hp, T.y, T.ab, fun k hk hf => by have := (own_b o k hk).1; have := ha k hf; omega, fun k hk hf => by have := (own_b o k hk).1; have := hb k hf; omega, T.ya, T.yb, T.ga_, T.gb_, T.below⟩
theorem Meet.newY (T : Meet w0 w ga gb va vb vx vy A B X Y) {wp : World} (hp : w0.heap.size ≤ wp.heap.size) (ha : ∀ k, foot ga va k → k < wp.heap.size) (hb : ∀ k, foot gb vb k → k < wp.heap.size) (o : Own PK 39 wp.heap.size w v1 Z) : Meet w0 w ga gb va vb vx v1 A B X Z :=
  ⟨T.a, T.b, T.x, o.lower hp, T.ab, T.xa, T.xb, fun k hk hf => by have := (own_b o k hk).1; have := ha k hf; omega, fun k hk hf => by have := (own_b o k hk).1; have := hb k hf; omega, T.ga_, T.gb_, T.below⟩
theorem foot_nil {g n : Nat} (h : g < n) : ∀ k, foot g (.slice none 0 0) k → k < n := fun k hk => hk.elim (fun e => e ▸ h) (fun e => by simp [Value.ownBlock] at e)
theorem Meet.outA (T : Meet w0 w ga gb va vb vx vy A B X Y) (m : Mv ga va (.slice none 0 0) w w1) (i : IsO 42 w0.heap.size w1 ga (.slice none 0 0) A.cells []) (o : Own PK 39 w.heap.size w1 v1 Z) : Meet w0 w1 ga gb (.slice none 0 0) vb v1 vy (outE A []) B Z Y :=
  (T.moveA (E1 := outE A []) m i).newX T.below.size (foot_nil T.a.tab.lt) T.b.lt o
theorem Meet.outB (T : Meet w0 w ga gb va vb vx vy A B X Y) (m : Mv gb vb (.slice none 0 0) w w1) (i : IsO 42 w0.heap.size w1 gb (.slice none 0 0) B.cells []) (o : Own PK 39 w.heap.size w1 v1 Z) : Meet w0 w1 ga gb va (.slice none 0 0) vx v1 A (outE B []) X Z :=
  (T.moveB (E1 := outE B []) m i).newY T.below.size T.a.lt (foot_nil T.b.tab.lt) o
end
theorem pair0 {w : World} {B b c : Nat} {p q : Int} (h : Own PK 39 B w (.slice (some ⟨b, 0, none⟩) 1 c) [(p, q)]) : w.cell? ⟨b, 0, none⟩ = some (.int .i64 p) ∧ w.cell? ⟨b, 1, none⟩ = some (.int .i64 q) := by
  obtain ⟨ad, hA, p0, p1⟩ := pair_at h.rds 0 (by omega)
  cases hA
  rw [add_at] at p0 p1
  exact ⟨p0, p1⟩
def stK (f a t : Int) (i : Nat) : En := if (i : Int) < f then ⟨f, a, 1, t, f - i, []⟩ else ⟨f, a, 2, t, a, [(1, t)]⟩
def gE (f a t : Int) : En := ⟨f, a, 2, t, a, [(1, t)]⟩
theorem startK (f a : Int) (h1 : 1 ≤ f) (h2 : f ≤ 50) (h3 : 1 ≤ a) (h4 : a ≤ 50) : failE (newE f a) = stK f a 1 0 ∧ failE (failE (newE f a)) = stK f a 2 0 := by
  have e1 : cutQ f 1 1000 = f := by unfold cutQ; (repeat' split) <;> omega
  have e2 : cutQ a 1 1048576 = a := by unfold cutQ; (repeat' split) <;> omega
  unfold stK failE newE
  rw [if_pos (by omega), if_pos (by omega), e1, e2]
  simp
theorem noteK (f a t : Int) (i : Nat) (h : (i : Int) < f) : noteE (stK f a t i) true = stK f a t (i + 1) := by
  unfold noteE
  have es : stK f a t i = ⟨f, a, 1, t, f - i, []⟩ := by unfold stK; rw [if_pos h]
  rw [es]
  simp only [noteL]
  rw [if_neg (by simp)]
  simp only [if_true]
  by_cases hz : f - (i : Int) - 1 = 0
  · rw [if_pos hz]
    unfold stK
    rw [if_neg (by omega)]
    rfl
  · rw [if_neg hz]
    unfold stK
    rw [if_pos (by omega)]
    simp [leftE]
    omega
theorem okK (f a t : Int) (i : Nat) (h1 : 1 ≤ f) (h2 : f ≤ 50) (h3 : 1 ≤ a) (h4 : a ≤ 50) (t0 : 0 ≤ t) (t1 : t < 256) : Ok (stK f a t i) := by
  unfold stK
  split <;> (refine ⟨?_, ?_, ?_, ?_, ?_, ?_, ?_, ?_, ?_⟩ <;> simp <;> omega)
theorem lenK (f a t : Int) (i : Nat) : ((stK f a t i).out.length + 1) * 16 ≤ 140737488355328 := by
  unfold stK
  split <;> simp
theorem endK (f a t : Int) (i : Nat) (h : ¬ (i : Int) < f) : stK f a t i = gE f a t := by unfold stK; rw [if_neg h]; rfl
theorem passK (f a t : Int) (h3 : 1 ≤ a) (h4 : a ≤ 50) : passE (outE (gE f a t) []) a = gE f a t := by
  have e1 : passN a = a := by unfold passN cutQ; (repeat' split) <;> omega
  have h := passL_asks 1 ((passN a).toNat + 1) (outE (gE f a t) []) 0 rfl rfl (by omega) (by show (0 : Int) < a; omega) (by rw [e1]; omega)
  have e2 : ((1 : Nat) : Int) * (outE (gE f a t) []).again + 0 = a := by show (1 : Int) * a + 0 = a; omega
  rw [e2, e1] at h
  unfold passE
  rw [if_neg (by simp [outE, gE]), e1, h]
  simp [leftE, outE, gE]
theorem okG (f a t : Int) (h1 : 1 ≤ f) (h2 : f ≤ 50) (h3 : 1 ≤ a) (h4 : a ≤ 50) (t0 : 0 ≤ t) (t1 : t < 256) : Ok (gE f a t) := by
  unfold gE
  refine ⟨?_, ?_, ?_, ?_, ?_, ?_, ?_, ?_, ?_⟩ <;> simp <;> omega

set_option maxHeartbeats 8000000 in
set_option maxRecDepth 100000 in
theorem meets_in (f a l : Int) (w : World) (h1 : 1 ≤ f) (h2 : f ≤ 50) (h3 : 1 ≤ a) (h4 : a ≤ 50) (h5 : 0 ≤ l) (h6 : l ≤ 10) :
    Calls Try.prog 5 #[.int .i64 f, .int .i64 a, .int .i64 l] w fun e w' => e = .returned (.bool true) ∧ Below w.heap.size w w' := by
  have HB0 := Aside0.mk (Below.refl w.heap.size w)
  have ST := Aside0.mk (startK f a h1 h2 h3 h4)
  have NT := Aside0.mk (noteK f a)
  have OK1 := Aside0.mk (fun i => okK f a 1 i h1 h2 h3 h4 (by omega) (by omega))
  have OK2 := Aside0.mk (fun i => okK f a 2 i h1 h2 h3 h4 (by omega) (by omega))
  have LK := Aside0.mk (lenK f a)
  have EN := Aside0.mk (endK f a)
  have PK1 := Aside0.mk (passK f a 1 h3 h4)
  have PK2 := Aside0.mk (passK f a 2 h3 h4)
  have OG1 := Aside0.mk ((okG f a 1 h1 h2 h3 h4 (by omega) (by omega)).out [])
  have OG2 := Aside0.mk ((okG f a 2 h1 h2 h3 h4 (by omega) (by omega)).out [])
  obtain ⟨p, hp⟩ : ∃ p : Nat, (p : Int) = f := ⟨f.toNat, by omega⟩
  obtain ⟨q, hq⟩ : ∃ q : Nat, (q : Int) = l := ⟨l.toNat, by omega⟩
  go_enter Try.func5, Try.ntmps5
  go_wp2_with (first
      | (go_at_call 7; (with_reducible refine (alive_ok _).mono ?_); rintro e w1 ⟨rfl, hb1⟩; have HB1 := Aside0.mk hb1; clear hb1)
      | (go_at_call 8; have hcall := new_ok f a w.heap.size _ HB1.out.size; (with_reducible refine hcall.mono ?_); clear hcall; rintro e w2 ⟨ga, rfl, hg, i, hb⟩; have G_a := Aside0.mk (Nat.le_trans HB1.out.size hg); have B2 := Aside0.mk (below_step HB1.out hb); have I_a2 := Aside0.mk i; clear hg i hb)
      | (go_at_call 8; have hcall := new_ok f a w.heap.size _ B2.out.size; (with_reducible refine hcall.mono ?_); clear hcall; rintro e w3 ⟨gb, rfl, hg, i, hb⟩; have T3 : Aside0 (Meet w w3 ga gb (.slice none 0 0) (.slice none 0 0) (.slice none 0 0) (.slice none 0 0) (newE f a) (newE f a) [] []) := Aside0.mk ⟨I_a2.out.below hb, i, Own.nil _ _ _ _, Own.nil _ _ _ _, apart_new I_a2.out hg, Away.none _ _, Away.none _ _, Away.none _ _, Away.none _ _, G_a.out, Nat.le_trans B2.out.size hg, below_step B2.out hb⟩; clear hg i hb)
      | (go_at_call 9; have hcall := fail_ok w.heap.size ga _ (newE f a) (Ok.new f a) _ T3.out.below.size T3.out.a; (with_reducible refine hcall.mono ?_); clear hcall; rintro e w4 ⟨rfl, i, m⟩; have T4 := Aside0.mk (T3.out.moveA m i); clear i m)
      | (go_at_call 9; have hcall := fail_ok w.heap.size gb _ (newE f a) (Ok.new f a) _ T4.out.below.size T4.out.b; (with_reducible refine hcall.mono ?_); clear hcall; rintro e w5 ⟨rfl, i, m⟩; have T5 := Aside0.mk (T4.out.moveB m i); clear i m)
      | (go_at_call 9; have hcall := fail_ok w.heap.size gb _ (failE (newE f a)) (Ok.new f a).fail _ T5.out.below.size T5.out.b; (with_reducible refine hcall.mono ?_); clear hcall; rintro e w6 ⟨rfl, i, m⟩; have T6 := Aside0.mk (T5.out.moveB m i); clear i m))
  have T6' := T6.out
  rw [ST.out.2, ST.out.1] at T6'
  replace T6 := Aside0.mk T6'
  clear T6' T3 T4 T5 B2 I_a2 G_a
  go_loopg [10] (p + 1) (fun kq v10 w' => ∃ (i : Nat) (va vb : Value), v10 = .int .i64 i ∧ i ≤ p ∧ kq = p + 1 - i ∧ Aside0 (Meet w w' ga gb va vb (.slice none 0 0) (.slice none 0 0) (stK f a 1 i) (stK f a 2 i) [] []))
  case atStart => exact ⟨0, _, _, by simp, by omega, by omega, T6⟩
  case round =>
    clear T6
    obtain ⟨i, va, vb, rfl, hi, hkq, T7⟩ := hrel
    by_cases hlt : (i : Int) < f
    · go_wp2_with (first
      | (go_at_call 11; have hcall := note_ok w.heap.size ga _ (stK f a 1 i) true (OK1.out i) (LK.out 1 i) _ T7.out.below.size T7.out.a; (with_reducible refine hcall.mono ?_); clear hcall; rintro e w8 ⟨rfl, u2, ii, m⟩; have T8 := Aside0.mk (T7.out.moveA m ii); clear ii m)
      | (go_at_call 11; have hcall := note_ok w.heap.size gb _ (stK f a 2 i) true (OK2.out i) (LK.out 2 i) _ T8.out.below.size T8.out.b; (with_reducible refine hcall.mono ?_); clear hcall; rintro e w9 ⟨rfl, u3, ii, m⟩; have T9 := Aside0.mk (T8.out.moveB m ii); clear ii m))
      have T9' := T9.out
      rw [NT.out 1 i (by omega), NT.out 2 i (by omega)] at T9'
      replace T9 := Aside0.mk T9'
      clear T9'
      go_roundg (p - i)
      case measure => omega
      case rel => exact ⟨i + 1, _, _, by go_num, by omega, by omega, T9⟩
    · have T7' := T7.out
      rw [EN.out 1 i (by omega), EN.out 2 i (by omega)] at T7'
      replace T7 := Aside0.mk T7'
      clear T7' hi hkq
      have L0 : Aside0 (((0 : Nat) + 1) * 16 ≤ 140737488355328) := ⟨by decide⟩
      have L1 : Aside0 ((1 : Nat) * 16 ≤ 140737488355328) := ⟨by decide⟩
      have LA2 : Aside0 ((inputE (outE (gE f a 1) []) true 2).out.length * 16 ≤ 140737488355328) := ⟨by show (1 : Nat) * 16 ≤ _; decide⟩
      have LB2 : Aside0 ((inputE (outE (gE f a 2) []) true 1).out.length * 16 ≤ 140737488355328) := ⟨by show (1 : Nat) * 16 ≤ _; decide⟩
      have LA3 : Aside0 (((outE (inputE (outE (gE f a 1) []) true 2) []).out.length + 1) * 16 ≤ 140737488355328) := ⟨by show ((0 : Nat) + 1) * 16 ≤ _; decide⟩
      have LB3 : Aside0 (((outE (inputE (outE (gE f a 2) []) true 1) []).out.length + 1) * 16 ≤ 140737488355328) := ⟨by show ((0 : Nat) + 1) * 16 ≤ _; decide⟩
      have LP : Aside0 (((0 : Nat) + (passN a).toNat + 2) * 16 ≤ 140737488355328) := ⟨by have := passN_b a; omega⟩
      have OA3 : Aside0 (Ok (outE (inputE (outE (gE f a 1) []) true 2) [])) := ⟨(OG1.out.input true 2).out []⟩
      have OB3 : Aside0 (Ok (outE (inputE (outE (gE f a 2) []) true 1) [])) := ⟨(OG2.out.input true 1).out []⟩
      go_wp2_with fail
      go_loopg [11] (q + 2) (fun kq v11 w' => ∃ (i : Nat) (va vb vx vy : Value) (A B : En) (X Y : List (Int × Int)), v11 = .int .i64 i ∧ i ≤ q + 1 ∧ kq = q + 2 - i ∧ ((i ≤ q ∧ A = gE f a 1 ∧ B = gE f a 2) ∨ (i = q + 1 ∧ A.state = 0 ∧ B.state = 0)) ∧ Aside0 (Meet w w' ga gb va vb vx vy A B X Y))
      case atStart => exact ⟨0, _, _, _, _, _, _, _, _, by simp, by omega, by omega, .inl ⟨by omega, rfl, rfl⟩, T7⟩
      case round =>
        clear T7
        obtain ⟨i, va, vb, vx, vy, A, B, X, Y, rfl, hi, hkq, hc, T8⟩ := hrel
        rcases hc with ⟨hiq, rfl, rfl⟩ | ⟨rfl, hsa, hsb⟩
        · by_cases hlt : (i : Int) < l
          · go_wp2_with (first
      | (go_at_call 20; have hcall := output_ok w.heap.size ga _ (gE f a 1) L1.out _ T8.out.below.size T8.out.a; (with_reducible refine hcall.mono ?_); clear hcall; rintro e w9 ⟨v1, rfl, o1, ii, m⟩; obtain ⟨bx, bxc, hv, _, _, pp⟩ := own_pair (n := 1) o1 rfl (by omega); subst hv; clear pp; have T9 := Aside0.mk (T8.out.outA m ii o1); clear ii m o1)
      | (go_at_call 20; have hcall := output_ok w.heap.size gb _ (gE f a 2) L1.out _ T9.out.below.size T9.out.b; (with_reducible refine hcall.mono ?_); clear hcall; rintro e w10 ⟨v1, rfl, o1, ii, m⟩; obtain ⟨by_, by_c, hv, _, _, pp⟩ := own_pair (n := 1) o1 rfl (by omega); subst hv; clear pp; have T10 := Aside0.mk (T9.out.outB m ii o1); clear ii m o1)
      | (go_at_call 16; have hcall := pass_ok w.heap.size ga _ (outE (gE f a 1) []) a OG1.out LP.out _ T10.out.below.size T10.out.a; (with_reducible refine hcall.mono ?_); clear hcall; rintro e w11 ⟨rfl, u2, ii, m⟩; have T11 := Aside0.mk (T10.out.moveA m ii); clear ii m)
      | (go_at_call 16; have hcall := pass_ok w.heap.size gb _ (outE (gE f a 2) []) a OG2.out LP.out _ T11.out.below.size T11.out.b; (with_reducible refine hcall.mono ?_); clear hcall; rintro e w12 ⟨rfl, u3, ii, m⟩; have T12 := Aside0.mk (T11.out.moveB m ii); clear ii m))
            have T12' := T12.out
            rw [PK1.out, PK2.out] at T12'
            replace T12 := Aside0.mk T12'
            clear T12'
            go_roundg (q + 1 - i)
            case measure => omega
            case rel => exact ⟨i + 1, _, _, _, _, _, _, _, _, by go_num, by omega, by omega, .inl ⟨by omega, rfl, rfl⟩, T12⟩
          · go_wp2_with (first
      | (go_at_call 20; have hcall := output_ok w.heap.size ga _ (gE f a 1) L1.out _ T8.out.below.size T8.out.a; (with_reducible refine hcall.mono ?_); clear hcall; rintro e w9 ⟨v1, rfl, o1, ii, m⟩; obtain ⟨bx1, bx1c, hv, _, _, pp⟩ := own_pair (n := 1) o1 rfl (by omega); subst hv; clear pp; have T9 := Aside0.mk (T8.out.outA m ii o1); clear ii m o1)
      | (go_at_call 20; have hcall := output_ok w.heap.size gb _ (gE f a 2) L1.out _ T9.out.below.size T9.out.b; (with_reducible refine hcall.mono ?_); clear hcall; rintro e w10 ⟨v1, rfl, o1, ii, m⟩; obtain ⟨by1, by1c, hv, _, _, pp⟩ := own_pair (n := 1) o1 rfl (by omega); subst hv; clear pp; have T10 := Aside0.mk (T9.out.outB m ii o1); clear ii m o1))
            clear T8 T9
            go_loopg [14] 2 (fun kq v14 w' => ∃ (j : Nat) (va vb : Value) (E : En), v14 = .int .i64 j ∧ j ≤ 1 ∧ kq = 2 - j ∧ ((j = 0 ∧ E = (outE (gE f a 2) [])) ∨ (j = 1 ∧ E = (inputE (outE (gE f a 2) []) true 1))) ∧ Aside0 (Meet w w' ga gb va vb (.slice (some ⟨bx1, 0, none⟩) 1 bx1c) (.slice (some ⟨by1, 0, none⟩) 1 by1c) (outE (gE f a 1) []) E [(1, 1)] [(1, 2)]))
            case atStart => exact ⟨0, _, _, _, by simp, by omega, by omega, .inl ⟨rfl, rfl⟩, T10⟩
            case round =>
              clear T10
              obtain ⟨j, va, vb, E, rfl, hj, hkq, hc, T11⟩ := hrel
              rcases hc with ⟨rfl, rfl⟩ | ⟨rfl, rfl⟩
              · obtain ⟨p0, p1⟩ := pair0 T11.out.x
                go_wp2_with fail
                refine region_tail 13 (by kernel_rfl) (by kernel_rfl) ?_
                intro w12 hb hc hf hh
                replace p0 := (hc _).trans p0
                replace p1 := (hc _).trans p1
                have T12 := Aside0.mk (T11.out.step hb)
                clear hb hc hf hh T11
                simp only [List.take_succ_cons, List.take_zero, List.drop_succ_cons, List.drop_zero]
                repeat still_step
                refine wpStill_nil ?_
                go_wp2_with (first
      | (go_at_call 12; have hcall := input_ok w.heap.size gb _ (outE (gE f a 2) []) true 1 (by omega) (by omega) OG2.out L0.out _ T12.out.below.size T12.out.b; (with_reducible refine hcall.mono ?_); clear hcall; rintro e w13 ⟨rfl, u2, ii, m⟩; have T13 := Aside0.mk (T12.out.moveB m ii); clear ii m))
                go_roundg 1
                case measure => omega
                case rel => exact ⟨1, _, _, _, by simp, by omega, by omega, .inr ⟨rfl, rfl⟩, T13⟩
              · clear hj hkq
                go_wp2_with fail
                go_loopg [15] 2 (fun kq v15 w' => ∃ (j : Nat) (va vb : Value) (E : En), v15 = .int .i64 j ∧ j ≤ 1 ∧ kq = 2 - j ∧ ((j = 0 ∧ E = (outE (gE f a 1) [])) ∨ (j = 1 ∧ E = (inputE (outE (gE f a 1) []) true 2))) ∧ Aside0 (Meet w w' ga gb va vb (.slice (some ⟨bx1, 0, none⟩) 1 bx1c) (.slice (some ⟨by1, 0, none⟩) 1 by1c) E (inputE (outE (gE f a 2) []) true 1) [(1, 1)] [(1, 2)]))
                case atStart => exact ⟨0, _, _, _, by simp, by omega, by omega, .inl ⟨rfl, rfl⟩, T11⟩
                case round =>
                  clear T11
                  obtain ⟨j, va, vb, E, rfl, hj, hkq, hc, T12⟩ := hrel
                  rcases hc with ⟨rfl, rfl⟩ | ⟨rfl, rfl⟩
                  · obtain ⟨p0, p1⟩ := pair0 T12.out.y
                    go_wp2_with fail
                    refine region_tail 13 (by kernel_rfl) (by kernel_rfl) ?_
                    intro w13 hb hc hf hh
                    replace p0 := (hc _).trans p0
                    replace p1 := (hc _).trans p1
                    have T13 := Aside0.mk (T12.out.step hb)
                    clear hb hc hf hh T12
                    simp only [List.take_succ_cons, List.take_zero, List.drop_succ_cons, List.drop_zero]
                    repeat still_step
                    refine wpStill_nil ?_
                    go_wp2_with (first
      | (go_at_call 12; have hcall := input_ok w.heap.size ga _ (outE (gE f a 1) []) true 2 (by omega) (by omega) OG1.out L0.out _ T13.out.below.size T13.out.a; (with_reducible refine hcall.mono ?_); clear hcall; rintro e w14 ⟨rfl, u2, ii, m⟩; have T14 := Aside0.mk (T13.out.moveA m ii); clear ii m))
                    go_roundg 1
                    case measure => omega
                    case rel => exact ⟨1, _, _, _, by simp, by omega, by omega, .inr ⟨rfl, rfl⟩, T14⟩
                  · clear hj hkq
                    go_wp2_with (first
      | (go_at_call 20; have hcall := output_ok w.heap.size ga _ (inputE (outE (gE f a 1) []) true 2) LA2.out _ T12.out.below.size T12.out.a; (with_reducible refine hcall.mono ?_); clear hcall; rintro e w13 ⟨v1, rfl, o1, ii, m⟩; obtain ⟨bx2, bx2c, hv, _, _, pp⟩ := own_pair (n := 1) o1 rfl (by omega); subst hv; clear pp; have T13 := Aside0.mk (T12.out.outA m ii o1); clear ii m o1)
      | (go_at_call 20; have hcall := output_ok w.heap.size gb _ (inputE (outE (gE f a 2) []) true 1) LB2.out _ T13.out.below.size T13.out.b; (with_reducible refine hcall.mono ?_); clear hcall; rintro e w14 ⟨v1, rfl, o1, ii, m⟩; obtain ⟨by2, by2c, hv, _, _, pp⟩ := own_pair (n := 1) o1 rfl (by omega); subst hv; clear pp; have T14 := Aside0.mk (T13.out.outB m ii o1); clear ii m o1))
                    clear T12 T13
                    go_loopg [16] 2 (fun kq v16 w' => ∃ (j : Nat) (va vb : Value) (E : En), v16 = .int .i64 j ∧ j ≤ 1 ∧ kq = 2 - j ∧ ((j = 0 ∧ E = (outE (inputE (outE (gE f a 2) []) true 1) [])) ∨ (j = 1 ∧ E = (inputE (outE (inputE (outE (gE f a 2) []) true 1) []) false 2))) ∧ Aside0 (Meet w w' ga gb va vb (.slice (some ⟨bx2, 0, none⟩) 1 bx2c) (.slice (some ⟨by2, 0, none⟩) 1 by2c) (outE (inputE (outE (gE f a 1) []) true 2) []) E [(2, 2)] [(2, 1)]))
                    case atStart => exact ⟨0, _, _, _, by simp, by omega, by omega, .inl ⟨rfl, rfl⟩, T14⟩
                    case round =>
                      clear T14
                      obtain ⟨j, va, vb, E, rfl, hj, hkq, hc, T15⟩ := hrel
                      rcases hc with ⟨rfl, rfl⟩ | ⟨rfl, rfl⟩
                      · obtain ⟨p0, p1⟩ := pair0 T15.out.x
                        go_wp2_with fail
                        refine region_tail 13 (by kernel_rfl) (by kernel_rfl) ?_
                        intro w16 hb hc hf hh
                        replace p0 := (hc _).trans p0
                        replace p1 := (hc _).trans p1
                        have T16 := Aside0.mk (T15.out.step hb)
                        clear hb hc hf hh T15
                        simp only [List.take_succ_cons, List.take_zero, List.drop_succ_cons, List.drop_zero]
                        repeat still_step
                        refine wpStill_nil ?_
                        go_wp2_with (first
      | (go_at_call 12; have hcall := input_ok w.heap.size gb _ (outE (inputE (outE (gE f a 2) []) true 1) []) false 2 (by omega) (by omega) OB3.out LB3.out _ T16.out.below.size T16.out.b; (with_reducible refine hcall.mono ?_); clear hcall; rintro e w17 ⟨rfl, u2, ii, m⟩; have T17 := Aside0.mk (T16.out.moveB m ii); clear ii m))
                        go_roundg 1
                        case measure => omega
                        case rel => exact ⟨1, _, _, _, by simp, by omega, by omega, .inr ⟨rfl, rfl⟩, T17⟩
                      · clear hj hkq
                        go_wp2_with fail
                        go_loopg [17] 2 (fun kq v17 w' => ∃ (j : Nat) (va vb : Value) (E : En), v17 = .int .i64 j ∧ j ≤ 1 ∧ kq = 2 - j ∧ ((j = 0 ∧ E = (outE (inputE (outE (gE f a 1) []) true 2) [])) ∨ (j = 1 ∧ E = (inputE (outE (inputE (outE (gE f a 1) []) true 2) []) false 1))) ∧ Aside0 (Meet w w' ga gb va vb (.slice (some ⟨bx2, 0, none⟩) 1 bx2c) (.slice (some ⟨by2, 0, none⟩) 1 by2c) E (inputE (outE (inputE (outE (gE f a 2) []) true 1) []) false 2) [(2, 2)] [(2, 1)]))
                        case atStart => exact ⟨0, _, _, _, by simp, by omega, by omega, .inl ⟨rfl, rfl⟩, T15⟩
                        case round =>
                          clear T15
                          obtain ⟨j, va, vb, E, rfl, hj, hkq, hc, T16⟩ := hrel
                          rcases hc with ⟨rfl, rfl⟩ | ⟨rfl, rfl⟩
                          · obtain ⟨p0, p1⟩ := pair0 T16.out.y
                            go_wp2_with fail
                            refine region_tail 13 (by kernel_rfl) (by kernel_rfl) ?_
                            intro w17 hb hc hf hh
                            replace p0 := (hc _).trans p0
                            replace p1 := (hc _).trans p1
                            have T17 := Aside0.mk (T16.out.step hb)
                            clear hb hc hf hh T16
                            simp only [List.take_succ_cons, List.take_zero, List.drop_succ_cons, List.drop_zero]
                            repeat still_step
                            refine wpStill_nil ?_
                            go_wp2_with (first
      | (go_at_call 12; have hcall := input_ok w.heap.size ga _ (outE (inputE (outE (gE f a 1) []) true 2) []) false 1 (by omega) (by omega) OA3.out LA3.out _ T17.out.below.size T17.out.a; (with_reducible refine hcall.mono ?_); clear hcall; rintro e w18 ⟨rfl, u2, ii, m⟩; have T18 := Aside0.mk (T17.out.moveA m ii); clear ii m))
                            go_roundg 1
                            case measure => omega
                            case rel => exact ⟨1, _, _, _, by simp, by omega, by omega, .inr ⟨rfl, rfl⟩, T18⟩
                          · clear hj hkq
                            go_wp2_with fail
                            go_roundg (q + 1 - i)
                            case measure => omega
                            case rel => exact ⟨i + 1, _, _, _, _, _, _, _, _, by go_num, by omega, by omega, .inr ⟨by omega, rfl, rfl⟩, T16⟩
        · have hge : ¬ ((q + 1 : Nat) : Int) ≤ l := by omega
          go_wp2_with (first
      | (go_at_call 10; have hcall := state_ok w.heap.size ga _ A _ T8.out.below.size T8.out.a; (with_reducible refine hcall.mono ?_); clear hcall; rintro e w' ⟨rfl, rfl⟩)
      | (go_at_call 10; have hcall := state_ok w.heap.size gb _ B _ T8.out.below.size T8.out.b; (with_reducible refine hcall.mono ?_); clear hcall; rintro e w' ⟨rfl, rfl⟩))
          go_ret
          exact ⟨rfl, T8.out.below⟩
set_option maxHeartbeats 8000000 in
set_option maxRecDepth 100000 in
theorem walk (a0 a1 a2 : Int) (W : World) (_h0 : (Lit.int .i64 a0).wf = true) (_h1 : (Lit.int .i64 a1).wf = true) (_h2 : (Lit.int .i64 a2).wf = true) :
    Calls Try.prog 5 #[.int .i64 a0, .int .i64 a1, .int .i64 a2] W fun e w' => e = .returned (.bool true) ∧ Below W.heap.size W w' := by
  have HB0 := Aside0.mk (Below.refl W.heap.size W)
  by_cases h : (1 ≤ a0 ∧ a0 ≤ 50) ∧ (1 ≤ a1 ∧ a1 ≤ 50) ∧ (0 ≤ a2 ∧ a2 ≤ 10)
  · exact meets_in a0 a1 a2 W h.1.1 h.1.2 h.2.1.1 h.2.1.2 h.2.2.1 h.2.2.2
  · have h : a0 < 1 ∨ 50 < a0 ∨ a1 < 1 ∨ 50 < a1 ∨ a2 < 0 ∨ 10 < a2 := by omega
    clear _h0 _h1 _h2
    by_cases a1_ : a0 < 1
    · clear h
      go_enter Try.func5, Try.ntmps5
      go_wp2_with (first
      | (go_at_call 7; (with_reducible refine (alive_ok _).mono ?_); rintro e w1 ⟨rfl, hb1⟩; have HB1 := Aside0.mk hb1; clear hb1))
      go_ret
      exact ⟨rfl, HB1.out⟩
    · by_cases a2_ : 50 < a0
      · clear h
        go_enter Try.func5, Try.ntmps5
        go_wp2_with (first
      | (go_at_call 7; (with_reducible refine (alive_ok _).mono ?_); rintro e w1 ⟨rfl, hb1⟩; have HB1 := Aside0.mk hb1; clear hb1))
        go_ret
        exact ⟨rfl, HB1.out⟩
      · by_cases a3_ : a1 < 1
        · clear h
          go_enter Try.func5, Try.ntmps5
          go_wp2_with (first
      | (go_at_call 7; (with_reducible refine (alive_ok _).mono ?_); rintro e w1 ⟨rfl, hb1⟩; have HB1 := Aside0.mk hb1; clear hb1))
          go_ret
          exact ⟨rfl, HB1.out⟩
        · by_cases a4_ : 50 < a1
          · clear h
            go_enter Try.func5, Try.ntmps5
            go_wp2_with (first
      | (go_at_call 7; (with_reducible refine (alive_ok _).mono ?_); rintro e w1 ⟨rfl, hb1⟩; have HB1 := Aside0.mk hb1; clear hb1))
            go_ret
            exact ⟨rfl, HB1.out⟩
          · by_cases a5_ : a2 < 0
            · clear h
              go_enter Try.func5, Try.ntmps5
              go_wp2_with (first
      | (go_at_call 7; (with_reducible refine (alive_ok _).mono ?_); rintro e w1 ⟨rfl, hb1⟩; have HB1 := Aside0.mk hb1; clear hb1))
              go_ret
              exact ⟨rfl, HB1.out⟩
            · have a6_ : 10 < a2 := by omega
              clear h
              go_enter Try.func5, Try.ntmps5
              go_wp2_with (first
      | (go_at_call 7; (with_reducible refine (alive_ok _).mono ?_); rintro e w1 ⟨rfl, hb1⟩; have HB1 := Aside0.mk hb1; clear hb1))
              go_ret
              exact ⟨rfl, HB1.out⟩

end Go.Proofs.Ytflgngnkfcfhpaa.ReMeetsW
