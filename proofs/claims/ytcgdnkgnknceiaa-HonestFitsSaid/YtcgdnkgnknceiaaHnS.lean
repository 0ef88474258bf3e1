/- Contracts of begins, EqualFunc, IndexFunc. -/
import Derived.Test.YtcgdnkgnknceiaaHnD
namespace Go.Proofs.Ytcgdnkgnknceiaa.HnS
open Go.RowKit Go.Proofs.YtcgdnkgnknceiaaW.PrintWords Go.Proofs.YtcgdnkgnknceiaaW.PrintLast Go.Proofs.YtcgdnkgnknceiaaW.PrintMore Go.Proofs.Ytcgdnkgnknceiaa.K Go.Proofs.Ytcgdnkgnknceiaa.OpenC Go.Proofs.Ytcgdnkgnknceiaa.HnA Go.Proofs.Ytcgdnkgnknceiaa.HnB Go.Proofs.Ytcgdnkgnknceiaa.HnC Go.Proofs.Ytcgdnkgnknceiaa.HnD
set_option linter.unusedVariables false
set_option linter.unusedSimpArgs false
attribute [local go_sem] max2_int min2_int max_two min_two

theorem sw {f : FuncId} {args : Array Value} {w : World} {v : Value} (h : Calls Try.prog f args w fun e w' => e = .returned v ∧ w' = w) : Calls Try.prog f args w fun e w' => e = .returned v ∧ w = w' := h.mono fun _ _ h => ⟨h.1, h.2.symm⟩
set_option maxHeartbeats 8000000 in
set_option maxRecDepth 100000 in
theorem bgn1_ok (A1 A2 : Option Addr) (n1 n2 c1 c2 : Nat) (a b : List Int) (w : World) (r1 : Rds (Kd.int .u8) w A1 n1 c1 a) (r2 : Rds (Kd.int .u8) w A2 n2 c2 b) (o1 : oct a) (o2 : oct b) :
    Calls Try.prog 23 #[.slice A1 n1 c1, .slice A2 n2 c2] w fun e w' => e = .returned (.bool (decide (a = b))) ∧ w = w' := by
  have E := Aside0.mk (sw (equal_ok A1 A2 n1 n2 c1 c2 a b w r1 r2 o1 o2))
  clear r1 r2 o1 o2
  go_enter Try.func23, Try.ntmps23
  go_wp2_with (first | (go_at_call 16; (with_reducible refine E.out.mono ?_); rintro e wK ⟨rfl, rfl⟩))
  first | go_ret | go_ret2 | ((try simp only [Exit.inBlock, Exit.then]); refine bodyPost_ret (results_tmp3 rfl _ _ _) rfl ?_) | go_end0
  exact ⟨rfl, rfl⟩
set_option maxHeartbeats 8000000 in
set_option maxRecDepth 100000 in
theorem eqf_ok (A1 : Option Addr) (n1 c1 : Nat) (g : List (List Int)) (A2 : Option Addr) (n2 c2 : Nat) (s : List (List Int)) (w : World) (r1 : Grid w A1 n1 c1 g) (r2 : Grid w A2 n2 c2 s) :
    Calls Try.prog 22 #[.slice A1 n1 c1, .slice A2 n2 c2, .func (.func 23) #[] #[]] w fun e w' => e = .returned (.bool (decide (g = s))) ∧ w = w' := by
  have R1 := Aside0.mk r1
  have R2 := Aside0.mk r2
  have HN1 := Aside0.mk r1.len
  have HN2 := Aside0.mk r2.len
  have hcn := r2.cap
  have hmn := r2.max
  have hcn1 := r1.cap
  have hmn1 := r1.max
  clear r1 r2
  by_cases hl : n1 = n2
  · subst hl
    go_enter Try.func22, Try.ntmps22
    go_wp2
    go_loopg [7, 8, 9, 17] (n1 + 1) (fun kq v7 v8 v9 v17 w' => ∃ (i : Nat), v17 = .int .i64 i ∧ i ≤ n1 ∧ kq = n1 + 1 - i ∧ Aside0 (g.take i = s.take i) ∧ w = w')
    case atStart => exact ⟨0, rfl, by omega, by omega, ⟨rfl⟩, rfl⟩
    case round =>
      obtain ⟨i, rfl, hi, hkq, GG, rfl⟩ := hrel
      by_cases hlt : i < n1
      · obtain ⟨x, ad, A3, n3, c3, hx, hA, hc, hr, ho, hm⟩ := gget R1.out i hlt
        cases hA
        obtain ⟨y, ad2, A4, n4, c4, hy, hA2, hc4, hr4, ho4, hm4⟩ := gget R2.out i hlt
        cases hA2
        have T1 := Aside0.mk (take_sg g i x hx)
        have T2 := Aside0.mk (take_sg s i y hy)
        have EQ := Aside0.mk (bgn1_ok A3 A4 n3 n4 c3 c4 x y w hr hr4 ho ho4)
        have HX := Aside0.mk hx
        have HY := Aside0.mk hy
        clear hr ho hx hr4 ho4 hy
        by_cases he : x = y
        · have GN : Aside0 (g.take (i + 1) = s.take (i + 1)) := ⟨by rw [T1.out, T2.out, GG.out, he]⟩
          rw [show decide (x = y) = true by simp [he]] at EQ
          clear he
          go_wp2_with (first | (go_at_call 23; (with_reducible refine EQ.out.mono ?_); rintro e wK ⟨rfl, rfl⟩))
          go_roundg (n1 - i)
          case measure => omega
          case rel => exact ⟨i + 1, by go_num, by omega, by omega, GN, rfl⟩
        · have PB : Aside0 (decide (g = s) = false) := ⟨by
            rw [decide_eq_false_iff_not]
            intro e
            rw [e, HY.out] at HX
            have := HX.out
            simp at this
            exact he this.symm⟩
          rw [show decide (x = y) = false by simp [he]] at EQ
          clear he
          go_wp2_with (first | (go_at_call 23; (with_reducible refine EQ.out.mono ?_); rintro e wK ⟨rfl, rfl⟩))
          first | go_ret | go_ret2 | ((try simp only [Exit.inBlock, Exit.then]); refine bodyPost_ret (results_tmp3 rfl _ _ _) rfl ?_) | go_end0
          exact ⟨by rw [PB.out]; rfl, rfl⟩
      · have hi2 : i = n1 := by omega
        subst hi2
        have PB : Aside0 (decide (g = s) = true) := ⟨by
          have := GG.out
          rw [List.take_of_length_le (by have := HN1.out; omega), List.take_of_length_le (by have := HN2.out; omega)] at this
          rw [this]
          simp⟩
        clear GG
        go_wp2_with fail
        first | go_ret | go_ret2 | ((try simp only [Exit.inBlock, Exit.then]); refine bodyPost_ret (results_tmp3 rfl _ _ _) rfl ?_) | go_end0
        exact ⟨by rw [PB.out]; rfl, rfl⟩
  · have PB : Aside0 (decide (g = s) = false) := ⟨by
      rw [decide_eq_false_iff_not]
      intro e
      have := HN1.out
      have := HN2.out
      rw [e] at *
      omega⟩
    have b0 : (((n1 : Nat) : Int) == ((n2 : Nat) : Int)) = false := by simp; omega
    clear hl
    go_enter Try.func22, Try.ntmps22
    go_wp2
    first | go_ret | go_ret2 | ((try simp only [Exit.inBlock, Exit.then]); refine bodyPost_ret (results_tmp3 rfl _ _ _) rfl ?_) | go_end0
    exact ⟨by rw [PB.out]; rfl, rfl⟩
/-- Does the list begin the other one? -/
def beginsB (a b : List (List Int)) : Bool := decide (a.length ≤ b.length ∧ a = b.take a.length)
theorem grid_take {w : World} {A : Option Addr} {n c m : Nat} {zs : List (List Int)} (h : Grid w A n c zs) (hm : m ≤ n) : Grid w A m c (zs.take m) := by
  have hl := h.len
  have hc := h.cap
  have hx := h.max
  exact ⟨by rw [List.length_take]; omega, by omega, by omega, fun i x hi => by
    have h1 : i < (zs.take m).length := (List.getElem?_eq_some_iff.1 hi).1
    rw [List.length_take] at h1
    rw [List.getElem?_take_of_lt (by omega)] at hi
    exact h.at_ i x hi⟩

set_option maxHeartbeats 8000000 in
set_option maxRecDepth 100000 in
theorem begins_ok (A1 : Option Addr) (n1 c1 : Nat) (g : List (List Int)) (A2 : Option Addr) (n2 c2 : Nat) (s : List (List Int)) (w : World) (r1 : Grid w A1 n1 c1 g) (r2 : Grid w A2 n2 c2 s) :
    Calls Try.prog 20 #[.slice A1 n1 c1, .slice A2 n2 c2] w fun e w' => e = .returned (.bool (beginsB g s)) ∧ w = w' := by
  have hl1 := r1.len
  have hl2 := r2.len
  have hcn := r2.cap
  have hmn := r2.max
  have hmn1 := r1.max
  by_cases h : n1 ≤ n2
  · have EQ := eqf_ok A1 n1 c1 g A2 n1 c2 (s.take n1) w r1 (grid_take r2 h)
    have PB : Aside0 (beginsB g s = decide (g = s.take n1)) := ⟨by
      unfold beginsB
      rw [← hl1, ← hl2]
      congr 1
      simp [h]⟩
    have hi : ((n1 : Nat) : Int) ≤ ((n2 : Nat) : Int) := by omega
    have hi2 : ((n1 : Nat) : Int) ≤ ((c2 : Nat) : Int) := by omega
    have hi3 : n1 ≤ c2 := by omega
    obtain ⟨b, hb⟩ : ∃ b, b = decide (g = s.take n1) := ⟨_, rfl⟩
    rw [← hb] at EQ PB
    have EQ := Aside0.mk EQ
    clear r1 r2 hl1 hl2 hb
    go_enter Try.func20, Try.ntmps20
    go_wp2_with (first | (go_at_call 22; (with_reducible refine EQ.out.mono ?_); rintro e wK ⟨rfl, rfl⟩))
    first | go_ret | go_ret2 | ((try simp only [Exit.inBlock, Exit.then]); refine bodyPost_ret (results_tmp3 rfl _ _ _) rfl ?_) | go_end0
    exact ⟨by rw [PB.out]; rfl, rfl⟩
  · have PB : Aside0 (beginsB g s = false) := ⟨by
      unfold beginsB
      rw [decide_eq_false_iff_not, ← hl1, ← hl2]
      exact fun q => h q.1⟩
    have hi : ¬ ((n1 : Nat) : Int) ≤ ((n2 : Nat) : Int) := by omega
    clear r1 r2 hl1 hl2 h
    go_enter Try.func20, Try.ntmps20
    go_wp2
    first | go_ret | go_ret2 | ((try simp only [Exit.inBlock, Exit.then]); refine bodyPost_ret (results_tmp3 rfl _ _ _) rfl ?_) | go_end0
    exact ⟨by rw [PB.out]; rfl, rfl⟩

set_option maxHeartbeats 8000000 in
set_option maxRecDepth 100000 in
theorem rbegins_ok (A1 : Option Addr) (n1 c1 : Nat) (g : List (List Int)) (A2 : Option Addr) (n2 c2 : Nat) (s : List (List Int)) (w : World) (r1 : Grid w A1 n1 c1 g) (r2 : Grid w A2 n2 c2 s) :
    Calls Try.prog 21 #[.slice A1 n1 c1, .slice A2 n2 c2] w fun e w' => e = .returned (.bool (beginsB g s)) ∧ Below w.heap.size w w' := by
  have hl1 := r1.len
  have hl2 := r2.len
  have hcn := r2.cap
  have hmn := r2.max
  have hmn1 := r1.max
  by_cases h : n1 ≤ n2
  · have EQ := same_ok A1 n1 c1 g A2 n1 c2 (s.take n1) w r1 (grid_take r2 h)
    have PB : Aside0 (beginsB g s = decide (g = s.take n1)) := ⟨by
      unfold beginsB
      rw [← hl1, ← hl2]
      congr 1
      simp [h]⟩
    have hi : ((n1 : Nat) : Int) ≤ ((n2 : Nat) : Int) := by omega
    have hi2 : ((n1 : Nat) : Int) ≤ ((c2 : Nat) : Int) := by omega
    have hi3 : n1 ≤ c2 := by omega
    obtain ⟨b, hb⟩ : ∃ b, b = decide (g = s.take n1) := ⟨_, rfl⟩
    rw [← hb] at EQ PB
    have EQ := Aside0.mk EQ
    clear r1 r2 hl1 hl2 hb
    go_enter Try.func21, Try.ntmps21
    go_wp2_with (first | (go_at_call 13; (with_reducible refine EQ.out.mono ?_); rintro e wK ⟨rfl, hb⟩; have HB := Aside0.mk hb; clear hb))
    first | go_ret | go_ret2 | ((try simp only [Exit.inBlock, Exit.then]); refine bodyPost_ret (results_tmp3 rfl _ _ _) rfl ?_) | go_end0
    exact ⟨by rw [PB.out]; rfl, HB.out⟩
  · have PB : Aside0 (beginsB g s = false) := ⟨by
      unfold beginsB
      rw [decide_eq_false_iff_not, ← hl1, ← hl2]
      exact fun q => h q.1⟩
    have hi : ¬ ((n1 : Nat) : Int) ≤ ((n2 : Nat) : Int) := by omega
    clear r1 r2 hl1 hl2 h
    go_enter Try.func21, Try.ntmps21
    go_wp2
    first | go_ret | go_ret2 | ((try simp only [Exit.inBlock, Exit.then]); refine bodyPost_ret (results_tmp3 rfl _ _ _) rfl ?_) | go_end0
    exact ⟨by rw [PB.out]; rfl, Below.refl _ _⟩

end Go.Proofs.Ytcgdnkgnknceiaa.HnS
