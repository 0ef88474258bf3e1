/- Readers of frames: plain law. No condition. -/
import Derived.Test.YtlcemeligolabaaFcC
import Derived.Test.YtlcemeligolabaaOctPure
namespace Go.Proofs.Ytlcemeligolabaa.FmP
open Go.RowKit Go.Proofs.Ytlcemeligolabaa.FcP Go.Proofs.Ytlcemeligolabaa.FcA Go.Proofs.Ytlcemeligolabaa.FcB Go.Proofs.Ytlcemeligolabaa.FcC Go.Proofs.Ytlcemeligolabaa.OctPure
set_option linter.unusedVariables false
set_option linter.unusedSimpArgs false
/-- A reader. -/
structure Re where
  wide : Bool
  most : Int
  st : Int
  b : List Int
def Re.take (R : Re) (c : Int) : Re := ⟨R.wide, R.most, if R.most < ((R.b.length + 1 : Nat) : Int) then 4 else 2, R.b ++ [c]⟩
def Re.clr (R : Re) : Re := ⟨R.wide, R.most, 1, []⟩
def endK (wide : Bool) (b : List Int) : Int × List Int :=
  if b.length ≤ sizeT wide then (2, []) else if tailL (b.take (b.length - sizeT wide)) wide = b.drop (b.length - sizeT wide) then (1, b.take (b.length - sizeT wide)) else (4, [])
def Re.told (R : Re) : Int × List Int := if R.st = 2 then endK R.wide R.b else if R.st = 3 then (5, []) else if R.st = 4 then (3, []) else (0, [])
def Re.push (R : Re) (c : Int) : Re :=
  if c = 126 then R.clr else if R.st = 0 ∨ R.st = 4 then R else if R.st = 3 then R.take (x32 c) else if c = 125 then ⟨R.wide, R.most, 3, R.b⟩ else R.take c
def Re.out (R : Re) (c : Int) : Int × List Int := if c = 126 then R.told else (0, [])
structure Ok (R : Re) : Prop where
  m0 : 0 ≤ R.most
  m1 : R.most ≤ 65540
  s0 : 0 ≤ R.st
  s1 : R.st ≤ 4
  len : (R.b.length : Int) ≤ R.most + 1
  free : R.st ≠ 4 → (R.b.length : Int) ≤ R.most
  oct : octOk R.b
theorem octOk.snoc {l : List Int} (h : octOk l) {c : Int} (c0 : 0 ≤ c) (c1 : c ≤ 255) : octOk (l ++ [c]) := by
  intro x hx
  rcases List.mem_append.1 hx with hx | hx
  · exact h x hx
  · simp at hx
    subst hx
    exact ⟨c0, c1⟩
theorem octOk.nil : octOk [] := fun x hx => by simp at hx
theorem Ok.take {R : Re} (k : Ok R) (h : R.st ≠ 4) {c : Int} (c0 : 0 ≤ c) (c1 : c ≤ 255) : Ok (R.take c) := by
  have := k.free h
  refine ⟨k.m0, k.m1, ?_, ?_, ?_, ?_, octOk.snoc k.oct c0 c1⟩
  · unfold Re.take; simp only; split <;> omega
  · unfold Re.take; simp only; split <;> omega
  · simp [Re.take]; omega
  · intro hs
    unfold Re.take at hs ⊢
    simp only at hs ⊢
    split at hs
    · exact absurd rfl hs
    · simp; omega
theorem Ok.clr {R : Re} (k : Ok R) : Ok R.clr := ⟨k.m0, k.m1, by simp [Re.clr], by simp [Re.clr], by simp [Re.clr]; have := k.m0; omega, fun _ => by simp [Re.clr]; exact k.m0, octOk.nil⟩
theorem Ok.push {R : Re} (k : Ok R) {c : Int} (c0 : 0 ≤ c) (c1 : c ≤ 255) : Ok (R.push c) := by
  unfold Re.push
  split
  · exact k.clr
  · split
    · exact k
    · rename_i h
      split
      · have := x32_in c c0 c1
        exact k.take (fun e => h (Or.inr e)) this.1 this.2
      · split
        · exact ⟨k.m0, k.m1, by simp, by simp, k.len, fun _ => k.free (fun e => h (Or.inr e)), k.oct⟩
        · exact k.take (fun e => h (Or.inr e)) c0 c1
/-- The reference's reader. -/
structure Rr where
  most : Int
  wide : Bool
  inn : Bool
  b : List Int
  n : Int
  esc : Bool
  long : Bool
def Rr.told (r : Rr) : Int × List Int :=
  if r.inn = false ∨ r.b = [] then (0, []) else if r.long = true then (3, []) else if r.esc = true then (5, []) else endK r.wide (unO false r.b []).1
def Rr.clr (r : Rr) : Rr := ⟨r.most, r.wide, true, [], 0, false, false⟩
def Rr.push (r : Rr) (c : Int) : Rr :=
  if c = 126 then r.clr else if r.inn = false ∨ r.long = true then r else if c = 125 ∧ r.esc = false then ⟨r.most, r.wide, r.inn, r.b ++ [c], r.n, true, r.long⟩
  else ⟨r.most, r.wide, r.inn, r.b ++ [c], r.n + 1, false, decide (r.n + 1 > r.most + ((sizeT r.wide : Nat) : Int))⟩
def Rr.out (r : Rr) (c : Int) : Int × List Int := if c = 126 then r.told else (0, [])
theorem sizeT_b (b : Bool) : 2 ≤ sizeT b ∧ sizeT b ≤ 4 := by unfold sizeT; split <;> omega
structure OkR (r : Rr) : Prop where
  m0 : 1 ≤ r.most
  m1 : r.most ≤ 65536
  n0 : 0 ≤ r.n
  n1 : r.long = false → r.n ≤ r.most + ((sizeT r.wide : Nat) : Int)
  n2 : r.n ≤ 65541
  len : (r.b.length : Int) ≤ 2 * r.n + 1
  esc : r.esc = false → (r.b.length : Int) ≤ 2 * r.n
  oct : octOk r.b
theorem OkR.clr {r : Rr} (k : OkR r) : OkR r.clr := ⟨k.m0, k.m1, by simp [Rr.clr], fun _ => by simp [Rr.clr]; have := k.m0; omega, by simp [Rr.clr], by simp [Rr.clr], fun _ => by simp [Rr.clr], octOk.nil⟩
theorem OkR.push {r : Rr} (k : OkR r) {c : Int} (c0 : 0 ≤ c) (c1 : c ≤ 255) : OkR (r.push c) := by
  unfold Rr.push
  split
  · exact k.clr
  · split
    · exact k
    · rename_i h
      have hl : r.long = false := by
        cases hh : r.long
        · rfl
        · exact absurd (Or.inr hh) h
      have := k.n1 hl
      have := k.n0
      have := k.m1
      have := sizeT_b r.wide
      split
      · rename_i he
        have := k.esc he.2
        exact ⟨k.m0, k.m1, k.n0, k.n1, k.n2, by simp; omega, by simp, octOk.snoc k.oct c0 c1⟩
      · have := k.len
        refine ⟨k.m0, k.m1, ?_, ?_, ?_, ?_, ?_, octOk.snoc k.oct c0 c1⟩
        · show 0 ≤ r.n + 1
          omega
        · intro hd
          simp only [decide_eq_false_iff_not] at hd
          show r.n + 1 ≤ r.most + ((sizeT r.wide : Nat) : Int)
          omega
        · show r.n + 1 ≤ 65541
          omega
        · show ((r.b ++ [c]).length : Int) ≤ 2 * (r.n + 1) + 1
          simp
          omega
        · intro _
          show ((r.b ++ [c]).length : Int) ≤ 2 * (r.n + 1)
          simp
          omega
/-- What was taken reads so far as acc. -/
def Un (l : List Int) (s : Bool) (acc : List Int) : Prop := ∀ t, unO false (l ++ t) [] = unO s t acc
theorem Un.nil : Un [] false [] := fun _ => rfl
theorem Un.esc {l acc : List Int} (h : Un l false acc) : Un (l ++ [125]) true acc := fun t => by
  rw [List.append_assoc, h]
  rfl
theorem Un.turn {l acc : List Int} (h : Un l true acc) {c : Int} (hc : c ≠ 126) : Un (l ++ [c]) false (acc ++ [x32 c]) := fun t => by
  rw [List.append_assoc, h]
  show unO true (c :: t) acc = _
  rw [unO, if_neg hc]
theorem Un.plain {l acc : List Int} (h : Un l false acc) {c : Int} (hc : c ≠ 126) (h5 : c ≠ 125) : Un (l ++ [c]) false (acc ++ [c]) := fun t => by
  rw [List.append_assoc, h]
  show unO false (c :: t) acc = _
  rw [unO, if_neg h5, if_neg hc]
theorem Un.end_ {l acc : List Int} (h : Un l false acc) : (unO false l []).1 = acc := by
  have := h []
  rw [List.append_nil] at this
  rw [this]
  rfl
/-- Both readers stand alike. -/
structure Sim (R : Re) (r : Rr) : Prop where
  wide : R.wide = r.wide
  most : R.most = r.most + ((sizeT r.wide : Nat) : Int)
  at_ : (R.st = 0 ∧ r.inn = false) ∨ (R.st = 1 ∧ R.b = [] ∧ r.inn = true ∧ r.b = [] ∧ r.n = 0 ∧ r.esc = false ∧ r.long = false) ∨
    (R.st = 2 ∧ r.inn = true ∧ r.b ≠ [] ∧ Un r.b false R.b ∧ r.n = (R.b.length : Int) ∧ r.esc = false ∧ r.long = false) ∨
    (R.st = 3 ∧ r.inn = true ∧ r.b ≠ [] ∧ Un r.b true R.b ∧ r.n = (R.b.length : Int) ∧ r.esc = true ∧ r.long = false) ∨
    (R.st = 4 ∧ r.inn = true ∧ r.b ≠ [] ∧ r.long = true)
theorem Sim.told {R : Re} {r : Rr} (s : Sim R r) : R.told = r.told := by
  unfold Re.told Rr.told
  rw [s.wide]
  rcases s.at_ with ⟨h1, h2⟩ | ⟨h1, h2, h3, h4, h5, h6, h7⟩ | ⟨h1, h2, h3, h4, h5, h6, h7⟩ | ⟨h1, h2, h3, h4, h5, h6, h7⟩ | ⟨h1, h2, h3, h4⟩
  · simp [h1, h2]
  · simp [h1, h4]
  · simp [h1, h2, h3, h6, h7, h4.end_]
  · simp [h1, h2, h3, h6, h7]
  · simp [h1, h2, h3, h4]
theorem Sim.taken {R : Re} {r : Rr} (s : Sim R r) {c c2 : Int} (hi : r.inn = true) (hn : r.n = (R.b.length : Int)) (hu : Un (r.b ++ [c]) false (R.b ++ [c2])) :
    Sim (R.take c2) ⟨r.most, r.wide, r.inn, r.b ++ [c], r.n + 1, false, decide (r.n + 1 > r.most + ((sizeT r.wide : Nat) : Int))⟩ := by
  refine ⟨s.wide, s.most, ?_⟩
  have := s.most
  by_cases h : R.most < ((R.b.length + 1 : Nat) : Int)
  · refine Or.inr (Or.inr (Or.inr (Or.inr ⟨by simp only [Re.take]; rw [if_pos h], hi, by simp, ?_⟩)))
    simp only [decide_eq_true_eq]
    omega
  · refine Or.inr (Or.inr (Or.inl ⟨by simp only [Re.take]; rw [if_neg h], hi, by simp, hu, ?_, rfl, ?_⟩))
    · simp [Re.take]
      omega
    · simp only [decide_eq_false_iff_not]
      omega
theorem Sim.push {R : Re} {r : Rr} (s : Sim R r) (c : Int) : Sim (R.push c) (r.push c) := by
  unfold Re.push Rr.push
  by_cases hc : c = 126
  · rw [if_pos hc, if_pos hc]
    exact ⟨s.wide, s.most, Or.inr (Or.inl ⟨rfl, rfl, rfl, rfl, rfl, rfl, rfl⟩)⟩
  · rw [if_neg hc, if_neg hc]
    rcases s.at_ with ⟨h1, h2⟩ | ⟨h1, h2, h3, h4, h5, h6, h7⟩ | ⟨h1, h2, h3, h4, h5, h6, h7⟩ | ⟨h1, h2, h3, h4, h5, h6, h7⟩ | ⟨h1, h2, h3, h4⟩
    · rw [if_pos (Or.inl h1), if_pos (Or.inl h2)]
      exact s
    · rw [if_neg (by omega), if_neg (by omega)]
      by_cases h : c = 125
      · rw [if_pos h, if_neg (by simp [h3, h7]), if_pos ⟨h, h6⟩]
        refine ⟨s.wide, s.most, Or.inr (Or.inr (Or.inr (Or.inl ⟨rfl, h3, by simp, ?_, ?_, rfl, h7⟩)))⟩
        · rw [h, h4, h2]
          exact Un.nil.esc
        · simp [h5, h2]
      · rw [if_neg h, if_neg (by simp [h3, h7]), if_neg (fun e => h e.1)]
        refine s.taken h3 (by simp [h5, h2]) ?_
        rw [h4, h2]
        exact Un.nil.plain hc h
    · rw [if_neg (by omega), if_neg (by omega)]
      by_cases h : c = 125
      · rw [if_pos h, if_neg (by simp [h2, h7]), if_pos ⟨h, h6⟩]
        refine ⟨s.wide, s.most, Or.inr (Or.inr (Or.inr (Or.inl ⟨rfl, h2, by simp, ?_, h5, rfl, h7⟩)))⟩
        rw [h]
        exact h4.esc
      · rw [if_neg h, if_neg (by simp [h2, h7]), if_neg (fun e => h e.1)]
        exact s.taken h2 h5 (h4.plain hc h)
    · rw [if_neg (by omega), if_pos h1, if_neg (by simp [h2, h7]), if_neg (by simp [h6])]
      exact s.taken h2 h5 (h4.turn hc)
    · rw [if_pos (Or.inr h1), if_pos (Or.inr h4)]
      exact s
theorem Sim.out {R : Re} {r : Rr} (s : Sim R r) (c : Int) : R.out c = r.out c := by
  unfold Re.out Rr.out
  rw [s.told]
def cut5 (n : Int) : Int := if n < 1 then 1 else if n > 65536 then 65536 else n
def newR (n : Int) (wide : Bool) : Re := ⟨wide, cut5 n + ((sizeT wide : Nat) : Int), 0, []⟩
def newS (n : Int) (wide : Bool) : Rr := ⟨cut5 n, wide, false, [], 0, false, false⟩
theorem cut5_b (n : Int) : 1 ≤ cut5 n ∧ cut5 n ≤ 65536 := by
  unfold cut5
  (repeat' split) <;> omega
theorem Ok.new (n : Int) (wide : Bool) : Ok (newR n wide) := by
  have a := cut5_b n
  have b := sizeT_b wide
  refine ⟨?_, ?_, by simp [newR], by simp [newR], ?_, ?_, octOk.nil⟩ <;> simp [newR] <;> omega
theorem OkR.new (n : Int) (wide : Bool) : OkR (newS n wide) := by
  have a := cut5_b n
  have b := sizeT_b wide
  refine ⟨a.1, a.2, by simp [newS], ?_, by simp [newS], by simp [newS], by simp [newS], octOk.nil⟩
  simp [newS]
  omega
theorem Sim.new (n : Int) (wide : Bool) : Sim (newR n wide) (newS n wide) := ⟨rfl, rfl, Or.inl ⟨rfl, rfl⟩⟩
def after (R : Re) (l : List Int) : Re := l.foldl Re.push R
def hear (R : Re) : List Int → List (List Int)
  | [] => []
  | c :: l => (if (R.out c).1 = 1 then [(R.out c).2] else []) ++ hear (R.push c) l
theorem hear_append (l m : List Int) : ∀ R : Re, hear R (l ++ m) = hear R l ++ hear (after R l) m := by
  induction l with
  | nil => intro R; rfl
  | cons c l ih => intro R; rw [List.cons_append, hear, hear, ih, List.append_assoc]; rfl
theorem after_append (R : Re) (l m : List Int) : after R (l ++ m) = after (after R l) m := List.foldl_append ..
theorem after_keep (l : List Int) : ∀ R : Re, (after R l).wide = R.wide ∧ (after R l).most = R.most := by
  induction l with
  | nil => intro R; exact ⟨rfl, rfl⟩
  | cons c l ih =>
    intro R
    have := ih (R.push c)
    show (after (R.push c) l).wide = _ ∧ _
    rw [this.1]
    refine ⟨?_, this.2.trans ?_⟩ <;> (unfold Re.push; (repeat' split) <;> rfl)
theorem after_ok (l : List Int) : ∀ {R : Re}, Ok R → octOk l → Ok (after R l) := by
  induction l with
  | nil => intro R k h; exact k
  | cons c l ih =>
    intro R k h
    have hc := h c (by simp)
    exact ih (k.push hc.1 hc.2) (fun x hx => h x (by simp [hx]))
theorem hear_noflag (l : List Int) (h : ∀ c ∈ l, c ≠ 126) : ∀ R : Re, hear R l = [] := by
  induction l with
  | nil => intro R; rfl
  | cons c l ih =>
    intro R
    rw [hear, ih (fun x hx => h x (by simp [hx]))]
    unfold Re.out
    rw [if_neg (h c (by simp))]
    rfl
theorem take_free (R : Re) (c : Int) (h : ((R.b.length + 1 : Nat) : Int) ≤ R.most) : R.take c = ⟨R.wide, R.most, 2, R.b ++ [c]⟩ := by
  unfold Re.take
  rw [if_neg (by omega)]
theorem giant_stays (l : List Int) (h : ∀ c ∈ l, c ≠ 126) : ∀ R : Re, R.st = 4 → (after R l).st = 4 := by
  induction l with
  | nil => intro R h; exact h
  | cons c l ih =>
    intro R hs
    refine ih (fun x hx => h x (by simp [hx])) _ ?_
    unfold Re.push
    rw [if_neg (h c (by simp)), if_pos (Or.inr hs)]
    exact hs
/-- A stuffed octet is taken. -/
theorem after_one (R : Re) (h : R.st = 1 ∨ R.st = 2) (y : Int) : after R (if y = 126 ∨ y = 125 then [125, x32 y] else [y]) = R.take y := by
  by_cases hy : y = 126 ∨ y = 125
  · rw [if_pos hy]
    show (R.push 125).push (x32 y) = _
    have e1 : R.push 125 = ⟨R.wide, R.most, 3, R.b⟩ := by
      unfold Re.push
      rw [if_neg (by omega), if_neg (by omega), if_neg (by omega), if_pos rfl]
    rw [e1]
    unfold Re.push
    rcases hy with rfl | rfl
    · rw [x32_126, if_neg (by omega), if_neg (by simp), if_pos rfl, x32_94]
      rfl
    · rw [x32_125, if_neg (by omega), if_neg (by simp), if_pos rfl, x32_93]
      rfl
  · rw [if_neg hy]
    show R.push y = _
    unfold Re.push
    rw [if_neg (fun e => hy (Or.inl e)), if_neg (by omega), if_neg (by omega), if_neg (fun e => hy (Or.inr e))]
theorem stuffO_cons (y : Int) (ys : List Int) : stuffO (y :: ys) = (if y = 126 ∨ y = 125 then [125, x32 y] else [y]) ++ stuffO ys := by
  rw [stuffO]
  split <;> rfl
theorem after_stuff (x : List Int) : ∀ R : Re, (R.st = 1 ∨ R.st = 2) → ((R.b.length + x.length : Nat) : Int) ≤ R.most → x ≠ [] → after R (stuffO x) = ⟨R.wide, R.most, 2, R.b ++ x⟩ := by
  induction x with
  | nil => intro R _ _ h; exact absurd rfl h
  | cons y ys ih =>
    intro R hs hl _
    simp only [List.length_cons] at hl
    rw [stuffO_cons, after_append, after_one R hs, take_free R y (by omega)]
    by_cases hy : ys = []
    · subst hy
      rfl
    · rw [ih _ (Or.inr rfl) (by simp; omega) hy]
      simp
theorem after_giant (x : List Int) : ∀ R : Re, (R.st = 1 ∨ R.st = 2) → (R.b.length : Int) ≤ R.most → R.most < ((R.b.length + x.length : Nat) : Int) → (after R (stuffO x)).st = 4 := by
  induction x with
  | nil => intro R _ h1 h2; simp at h2; omega
  | cons y ys ih =>
    intro R hs h1 h2
    simp only [List.length_cons] at h2
    rw [stuffO_cons, after_append, after_one R hs]
    by_cases h : ((R.b.length + 1 : Nat) : Int) ≤ R.most
    · rw [take_free R y h]
      exact ih _ (Or.inr rfl) (by simp; omega) (by simp; omega)
    · refine giant_stays _ (stuffO_noflag ys) _ ?_
      unfold Re.take
      simp only
      rw [if_pos (by omega)]
/-- The octets between the Flags. -/
def midL (l : List Int) (wide : Bool) : List Int := stuffO (l ++ tailL l wide)
def frameL (l : List Int) (wide : Bool) : List Int := 126 :: (midL l wide ++ [126])
theorem endK_sum (l : List Int) (wide : Bool) : endK wide (l ++ tailL l wide) = if l = [] then (2, []) else (1, l) := by
  have hl := tailL_len l wide
  have h0 := sizeT_b wide
  unfold endK
  by_cases h : l = []
  · rw [if_pos (by rw [h]; simp [tailL_len]), if_pos h]
  · have hn : 0 < l.length := List.length_pos_iff.2 h
    have e : (l ++ tailL l wide).length - sizeT wide = l.length := by rw [List.length_append, hl]; omega
    rw [if_neg (by rw [List.length_append, hl]; omega), e, List.take_left, List.drop_left, if_pos rfl, if_neg h]
theorem hear_flag (R : Re) (l : List Int) : hear R (126 :: l) = (if R.told.1 = 1 then [R.told.2] else []) ++ hear R.clr l := by
  rw [hear]
  unfold Re.out Re.push
  rw [if_pos rfl, if_pos rfl]
/-- A reader behind a Flag. -/
def beg (wide : Bool) (m : Int) : Re := ⟨wide, m, 1, []⟩
theorem hear_beg_flag (wide : Bool) (m : Int) (l : List Int) : hear (beg wide m) (126 :: l) = hear (beg wide m) l := by
  rw [hear_flag]
  rfl
theorem after_flag (R : Re) (l : List Int) : after R (126 :: l) = after (beg R.wide R.most) l := by
  show after (R.push 126) l = _
  unfold Re.push
  rw [if_pos rfl]
  rfl
theorem after_last (R : Re) (l : List Int) : after R (l ++ [126]) = beg R.wide R.most := by
  rw [after_append, after_flag]
  show beg (after R l).wide (after R l).most = _
  rw [(after_keep l R).1, (after_keep l R).2]
theorem hear_mid (wide : Bool) (m : Int) (l : List Int) (hm : ((sizeT wide : Nat) : Int) ≤ m) :
    hear (beg wide m) (midL l wide ++ [126]) = if l ≠ [] ∧ ((l.length + sizeT wide : Nat) : Int) ≤ m then [l] else [] := by
  have hlen : (l ++ tailL l wide).length = l.length + sizeT wide := by rw [List.length_append, tailL_len]
  have h0 := sizeT_b wide
  rw [hear_append, hear_noflag (midL l wide) (stuffO_noflag _), List.nil_append, hear_flag]
  have e : hear (after (beg wide m) (midL l wide)).clr [] = [] := rfl
  rw [e, List.append_nil]
  by_cases hl : ((l.length + sizeT wide : Nat) : Int) ≤ m
  · have hne : l ++ tailL l wide ≠ [] := by
      intro h
      rw [h] at hlen
      simp at hlen
      omega
    have et : (after (beg wide m) (midL l wide)).told = if l = [] then (2, []) else (1, l) := by
      rw [midL, after_stuff _ _ (Or.inl rfl) (by rw [hlen]; simp [beg]; omega) hne]
      exact endK_sum l wide
    rw [et]
    by_cases h : l = []
    · rw [if_pos h, if_neg (by decide), if_neg (fun q => q.1 h)]
    · rw [if_neg h, if_pos rfl, if_pos ⟨h, hl⟩]
  · have hg : (after (beg wide m) (midL l wide)).st = 4 := after_giant _ _ (Or.inl rfl) (by simp [beg]; omega) (by rw [hlen]; simp [beg]; omega)
    have et : (after (beg wide m) (midL l wide)).told = (3, []) := by
      unfold Re.told
      rw [hg]
      rfl
    rw [et, if_neg (by decide), if_neg (fun q => hl q.2)]
theorem hear_frame (R : Re) (l : List Int) (hm : ((sizeT R.wide : Nat) : Int) ≤ R.most) :
    hear R (frameL l R.wide) = (if R.told.1 = 1 then [R.told.2] else []) ++ (if l ≠ [] ∧ ((l.length + sizeT R.wide : Nat) : Int) ≤ R.most then [l] else []) := by
  rw [frameL, hear_flag, ← hear_mid _ _ l hm]
  rfl
theorem midL_len (l : List Int) (wide : Bool) : (midL l wide).length ≤ 2 * l.length + 8 := by
  have := (stuffO_len (l ++ tailL l wide)).2
  rw [List.length_append, tailL_len] at this
  have := sizeT_b wide
  unfold midL
  omega
theorem frameL_len (l : List Int) (wide : Bool) : (frameL l wide).length ≤ 2 * l.length + 10 := by
  have := midL_len l wide
  simp [frameL]
  omega
theorem sum_oct {l : List Int} (h : octOk l) (wide : Bool) : octOk (l ++ tailL l wide) := by
  intro x hx
  rcases List.mem_append.1 hx with hx | hx
  · exact h x hx
  · exact tailL_b l wide x hx
theorem midL_oct {l : List Int} (h : octOk l) (wide : Bool) : octOk (midL l wide) := stuffO_ok _ (sum_oct h wide)
theorem frameL_oct {l : List Int} (h : octOk l) (wide : Bool) : octOk (frameL l wide) := by
  intro x hx
  simp only [frameL, List.mem_cons, List.mem_append, List.mem_nil_iff, or_false] at hx
  rcases hx with rfl | hx | rfl
  · omega
  · exact midL_oct h wide x hx
  · omega
theorem hear_oct (l : List Int) : ∀ {R : Re}, Ok R → octOk l → ∀ x ∈ hear R l, octOk x ∧ x.length ≤ 65541 := by
  induction l with
  | nil => intro R _ _ x hx; simp [hear] at hx
  | cons c l ih =>
    intro R k h x hx
    have hc := h c (by simp)
    rw [hear] at hx
    rcases List.mem_append.1 hx with hx | hx
    · split at hx
      · rename_i h1
        simp at hx
        subst hx
        unfold Re.out Re.told endK at h1 ⊢
        have := k.len
        have := k.m1
        split at h1
        · rw [if_pos (by assumption)]
          split at h1
          · rw [if_pos (by assumption)]
            split
            · exact ⟨octOk.nil, by simp⟩
            · split
              · exact ⟨fun y hy => k.oct y (List.mem_of_mem_take hy), by simp; omega⟩
              · exact ⟨octOk.nil, by simp⟩
          · rw [if_neg (by assumption)]
            (repeat' split) <;> exact ⟨octOk.nil, by simp⟩
        · rw [if_neg (by assumption)]
          exact ⟨octOk.nil, by simp⟩
      · simp at hx
    · exact ih (k.push hc.1 hc.2) (fun y hy => h y (by simp [hy])) x hx
end Go.Proofs.Ytlcemeligolabaa.FmP
