/- Contracts of Part, and of the reference. -/
import Derived.Test.YtcgdnkgnknceiaaHnA
namespace Go.Proofs.Ytcgdnkgnknceiaa.HnB
open Go.RowKit Go.Proofs.YtcgdnkgnknceiaaW.PrintWords Go.Proofs.YtcgdnkgnknceiaaW.PrintLast Go.Proofs.YtcgdnkgnknceiaaW.PrintMore Go.Proofs.Ytcgdnkgnknceiaa.K Go.Proofs.Ytcgdnkgnknceiaa.OpenC Go.Proofs.Ytcgdnkgnknceiaa.HnA
set_option linter.unusedVariables false
set_option linter.unusedSimpArgs false
attribute [local go_sem] max2_int min2_int max_two min_two

/-- What is left of a list when another one has gone by. -/
def remStep (g : List (List Int)) (b : List Int) : List (List Int) := if g.head? = some b then g.tail else g
def rem (g s : List (List Int)) : List (List Int) := s.foldl remStep g
theorem rem_snoc (g s : List (List Int)) (b : List Int) : rem g (s ++ [b]) = remStep (rem g s) b := by simp [rem, List.foldl_append]
theorem rem_nil (s : List (List Int)) : rem [] s = [] := by
  induction s with
  | nil => rfl
  | cons b s ih => exact ih
theorem remStep_len (g : List (List Int)) (b : List Int) : (remStep g b).length ≤ g.length := by unfold remStep; split <;> simp
theorem rem_len (s : List (List Int)) : ∀ g : List (List Int), (rem g s).length ≤ g.length ∧ g.length ≤ (rem g s).length + s.length := by
  induction s with
  | nil => intro g; exact ⟨Nat.le_refl _, Nat.le_refl _⟩
  | cons b s ih =>
    intro g
    have := ih (remStep g b)
    have h1 := remStep_len g b
    have h2 : g.length ≤ (remStep g b).length + 1 := by unfold remStep; split <;> simp <;> omega
    show (rem (remStep g b) s).length ≤ _ ∧ _ ≤ (rem (remStep g b) s).length + _
    rw [List.length_cons]
    omega
theorem rem_sub : ∀ (s g : List (List Int)), List.Sublist g s → rem g s = [] := by
  intro s
  induction s with
  | nil => intro g h; cases h; rfl
  | cons b s ih =>
    intro g h
    show rem (remStep g b) s = []
    refine ih _ ?_
    unfold remStep
    split
    · rename_i hh
      cases g with
      | nil => simp at hh
      | cons x g =>
        simp at hh
        subst hh
        cases h with
        | cons _ h => exact (List.sublist_cons_self _ _).trans h
        | cons_cons _ h => exact h
    · rename_i hh
      cases h with
      | cons _ h => exact h
      | cons_cons _ h => simp at hh
theorem rem_drop (s : List (List Int)) : ∀ g : List (List Int), ∃ k, k ≤ g.length ∧ rem g s = g.drop k := by
  induction s with
  | nil => intro g; exact ⟨0, Nat.zero_le _, rfl⟩
  | cons b s ih =>
    intro g
    obtain ⟨k, hk, e⟩ := ih (remStep g b)
    by_cases h : g.head? = some b
    · have e2 : remStep g b = g.tail := by unfold remStep; rw [if_pos h]
      rw [e2] at e hk
      cases g with
      | nil => simp at h
      | cons x g => exact ⟨k + 1, by simpa using hk, by show rem (remStep (x :: g) b) s = _; rw [e2, e]; rfl⟩
    · have e2 : remStep g b = g := by unfold remStep; rw [if_neg h]
      rw [e2] at e hk
      exact ⟨k, hk, by show rem (remStep g b) s = _; rw [e2, e]⟩
def partB (g s : List (List Int)) : Bool := (rem g s).isEmpty
theorem grid_tail {w : World} {ad : Addr} {k c : Nat} {x : List Int} {zs : List (List Int)} (h : Grid w (some ad) (k + 1) c (x :: zs)) : Grid w (some ⟨ad.block, ad.off + 1, none⟩) k (c - 1) zs := by
  have hl := h.len
  have hc := h.cap
  have hm := h.max
  simp at hl
  refine ⟨hl, by omega, by omega, fun i y hy => ?_⟩
  obtain ⟨ad', v, hA, hcell, hv⟩ := h.at_ (i + 1) y (by simpa using hy)
  cases hA
  refine ⟨_, v, rfl, ?_, hv⟩
  rw [show ad.add (i + 1) = ⟨ad.block, ad.off + (i + 1), none⟩ from rfl] at hcell
  rw [add_at, show ad.off + 1 + i = ad.off + (i + 1) by omega]
  exact hcell
theorem grid_none {w : World} {c : Nat} {A : Option Addr} : Grid w A 0 c [] := ⟨rfl, Nat.zero_le _, by omega, fun i x hx => by simp at hx⟩
set_option maxHeartbeats 8000000 in
set_option maxRecDepth 100000 in
theorem part_ok (A1 : Option Addr) (n1 c1 : Nat) (g : List (List Int)) (A2 : Option Addr) (n2 c2 : Nat) (s : List (List Int)) (w : World) (r1 : Grid w A1 n1 c1 g) (r2 : Grid w A2 n2 c2 s) :
    Calls Try.prog 9 #[.slice A1 n1 c1, .slice A2 n2 c2] w fun e w' => e = .returned (.bool (partB g s)) ∧ w' = w := by
  have G1 := Aside0.mk (show Grid w A1 n1 c1 (rem g (s.take 0)) from r1)
  have R2 := Aside0.mk r2
  have HN := Aside0.mk r2.len
  have hcn := r2.cap
  have hmn := r2.max
  clear r1 r2
  go_enter Try.func9, Try.ntmps9
  go_wp2
  go_loopg [0, 6, 9] (n2 + 1) (fun kq v0 v6 v9 w' => ∃ (i : Nat) (Ag : Option Addr) (ng cg : Nat), v0 = .slice Ag ng cg ∧ v9 = .int .i64 i ∧ i ≤ n2 ∧ kq = n2 + 1 - i ∧ Aside0 (Grid w Ag ng cg (rem g (s.take i))) ∧ w = w')
  case atStart => exact ⟨0, _, _, _, rfl, rfl, by omega, by omega, G1, rfl⟩
  case round =>
    clear G1
    obtain ⟨i, Ag, ng, cg, rfl, rfl, hi, hkq, GG, rfl⟩ := hrel
    have hgm := GG.out.max
    by_cases hlt : i < n2
    · obtain ⟨x, ad, A3, n3, c3, hx, hA, hc, hr, ho, hm⟩ := gget R2.out i hlt
      cases hA
      have TS := Aside0.mk (take_sg s i x hx)
      have R3 := Aside0.mk hr
      have O3 := Aside0.mk ho
      clear hr ho hx
      have GL := Aside0.mk GG.out.len
      cases hg : rem g (s.take i) with
      | nil =>
        obtain rfl : ng = 0 := by rw [GL.out, hg]; rfl
        have GN : Aside0 (Grid w Ag 0 cg (rem g (s.take (i + 1)))) := ⟨by rw [TS.out, rem_snoc, hg]; exact grid_none⟩
        clear hg GG GL
        go_wp2_with fail
        go_roundg (n2 - i)
        case measure => omega
        case rel => exact ⟨i + 1, _, _, _, rfl, by go_num, by omega, by omega, GN, rfl⟩
      | cons y g' =>
        obtain ⟨k, rfl⟩ : ∃ k, ng = k + 1 := ⟨g'.length, by rw [GL.out, hg]; rfl⟩
        have GY := GG.out
        rw [hg] at GY
        obtain ⟨y', ad2, A4, n4, c4, hy, hA2, hc4, hr4, ho4, hm4⟩ := gget GY 0 (by omega)
        simp at hy
        subst hy
        cases hA2
        rw [show ad2.add 0 = ad2 from rfl] at hc4
        have hcap := GY.cap
        have EQ := Aside0.mk (equal_ok A4 A3 n4 n3 c4 c3 y x w hr4 R3.out ho4 O3.out)
        have GT := Aside0.mk (grid_tail GY)
        have GS := Aside0.mk (show rem g (s.take (i + 1)) = remStep (y :: g') x by rw [TS.out, rem_snoc, hg])
        have GO := Aside0.mk GY
        have hk0 : (0 : Int) < ((k + 1 : Nat) : Int) := by omega
        clear hg GG GL GY hr4 ho4
        by_cases he : y = x
        · have e1 : decide (y = x) = true := by simp [he]
          rw [e1] at EQ
          have GN : Aside0 (rem g (s.take (i + 1)) = g') := ⟨by rw [GS.out, remStep, if_pos (by rw [he]; rfl)]; rfl⟩
          clear e1 he
          by_cases hc1 : cg = 1
          · subst hc1
            obtain rfl : k = 0 := by omega
            have GE : Aside0 (g' = []) := ⟨List.eq_nil_of_length_eq_zero (by have := GO.out.len; rw [List.length_cons] at this; omega)⟩
            go_wp2_with (first | (go_at_call 16; (with_reducible refine EQ.out.mono ?_); rintro e wK ⟨rfl, rfl⟩))
            go_roundg (n2 - i)
            case measure => omega
            case rel => exact ⟨i + 1, _, _, _, rfl, by go_num, by omega, by omega, ⟨by rw [GN.out, GE.out]; exact grid_none⟩, rfl⟩
          · go_wp2_with (first | (go_at_call 16; (with_reducible refine EQ.out.mono ?_); rintro e wK ⟨rfl, rfl⟩))
            go_roundg (n2 - i)
            case measure => omega
            case rel => exact ⟨i + 1, _, _, _, rfl, by go_num, by omega, by omega, ⟨by rw [GN.out]; exact GT.out⟩, rfl⟩
        · have e1 : decide (y = x) = false := by simp [he]
          rw [e1] at EQ
          have GN : Aside0 (rem g (s.take (i + 1)) = y :: g') := ⟨by rw [GS.out, remStep, if_neg (by simpa using he)]⟩
          clear e1 he
          go_wp2_with (first | (go_at_call 16; (with_reducible refine EQ.out.mono ?_); rintro e wK ⟨rfl, rfl⟩))
          go_roundg (n2 - i)
          case measure => omega
          case rel => exact ⟨i + 1, _, _, _, rfl, by go_num, by omega, by omega, ⟨by rw [GN.out]; exact GO.out⟩, rfl⟩
    · have hi2 : i = n2 := by omega
      subst hi2
      have GL := GG.out.len
      rw [List.take_of_length_le (by have := HN.out; omega)] at GL
      have PB : Aside0 (partB g s = decide (ng = 0)) := ⟨by
        unfold partB
        rw [GL]
        cases rem g s <;> simp⟩
      clear GL GG
      by_cases h0 : ng = 0
      · subst h0
        go_wp2_with fail
        first | go_ret | go_ret2 | ((try simp only [Exit.inBlock, Exit.then]); refine bodyPost_ret (results_tmp3 rfl _ _ _) rfl ?_) | go_end0
        exact ⟨by rw [PB.out]; rfl, rfl⟩
      · have b0 : (((ng : Nat) : Int) == 0) = false := by simp; omega
        have PB2 : Aside0 (partB g s = false) := ⟨by rw [PB.out]; simp [h0]⟩
        clear PB
        go_wp2_with fail
        first | go_ret | go_ret2 | ((try simp only [Exit.inBlock, Exit.then]); refine bodyPost_ret (results_tmp3 rfl _ _ _) rfl ?_) | go_end0
        exact ⟨by rw [PB2.out]; rfl, rfl⟩

end Go.Proofs.Ytcgdnkgnknceiaa.HnB
