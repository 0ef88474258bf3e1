/- Contract of alive; rows of headers. -/
import Derived.Test.YtcgdnkgnknceiaaHnC
namespace Go.Proofs.Ytcgdnkgnknceiaa.HnD
open Go.RowKit Go.Proofs.YtcgdnkgnknceiaaW.PrintWords Go.Proofs.YtcgdnkgnknceiaaW.PrintLast Go.Proofs.YtcgdnkgnknceiaaW.PrintMore Go.Proofs.Ytcgdnkgnknceiaa.K Go.Proofs.Ytcgdnkgnknceiaa.OpenC Go.Proofs.Ytcgdnkgnknceiaa.HnA Go.Proofs.Ytcgdnkgnknceiaa.HnB Go.Proofs.Ytcgdnkgnknceiaa.HnC
set_option linter.unusedVariables false
set_option linter.unusedSimpArgs false
attribute [local go_sem] max2_int min2_int max_two min_two

theorem mk30 (W : World) : (Instr.makeSlice 30 (.int .i64 1) (.int .i64 1)).run Try.prog W = .ok (.slice (some ⟨W.heap.size, 0, none⟩) 1 1) (W.alloc (.cells #[.slice none 0 0] 22)) := by
  have h := print_make_of (P := Try.prog) 30 22 (.slice none 0 0) 24 Try.underlying30 (by kernel_rfl) rfl (by decide) 1 (by omega) W
  have e : madeCells #[.slice none 0 0] 1 = #[.slice none 0 0] := by
    apply Array.ext
    · simp [madeCells]
    · intro i h1 h2
      simp [madeCells, Nat.mod_one]
  rw [e] at h
  exact h
set_option maxHeartbeats 8000000 in
set_option maxRecDepth 100000 in
theorem cutnil_ok (w : World) : Calls Try.prog 11 #[.slice none 0 0, .int .i64 0] w fun e w' => e = .returned (.slice (some ⟨w.heap.size, 0, none⟩) 1 1) ∧ Below w.heap.size w w' := by
  have mk := mk30 w
  go_enter Try.func11, Try.ntmps11
  go_wp2
  go_loopg [5, 12] 1 (fun kq v5 v12 w' => v5 = .slice (some ⟨w.heap.size, 0, none⟩) 1 1 ∧ v12 = .int .i64 0 ∧ kq = 1 ∧ Aside0 (Below w.heap.size w w'))
  case atStart => exact ⟨rfl, rfl, rfl, ⟨below_alloc (Below.refl _ _) _⟩⟩
  case round =>
    obtain ⟨rfl, rfl, rfl, B⟩ := hrel
    go_wp2_with fail
    first | go_ret | go_ret2 | ((try simp only [Exit.inBlock, Exit.then]); refine bodyPost_ret (results_tmp3 rfl _ _ _) rfl ?_) | go_end0
    exact ⟨rfl, B.out⟩
theorem oct_lit (w : World) (o : Obj) : Oct ((w.alloc (.cells #[.int .u8 1] 5)).alloc o) (.slice (some ⟨w.heap.size, 0, none⟩) 1 1) [1] :=
  ⟨⟨_, _, _, rfl, ((lit8 0 w [1] (Nat.zero_le _) (by simp)).rds.alloc o), by omega⟩, fun x hx => by simp at hx; omega⟩
theorem grid_lit (w : World) : Grid ((w.alloc (.cells #[.int .u8 1] 5)).alloc (.cells #[.slice (some ⟨w.heap.size, 0, none⟩) 1 1] 26)) (some ⟨w.heap.size + 1, 0, none⟩) 1 1 [[1]] := by
  refine ⟨rfl, Nat.le_refl _, by omega, fun i x hx => ?_⟩
  have hi : i = 0 := by
    have := (List.getElem?_eq_some_iff.1 hx).1
    simpa using this
  subst hi
  simp at hx
  subst hx
  refine ⟨_, _, rfl, ?_, oct_lit w _⟩
  have := Ob.new (w.alloc (.cells #[.int .u8 1] 5)) 26 [.slice (some ⟨w.heap.size, 0, none⟩) 1 1]
  rw [World.size_alloc] at this
  exact this.at_ 0 rfl
set_option maxHeartbeats 8000000 in
set_option maxRecDepth 100000 in
theorem alive_ok (w : World) : Calls Try.prog 7 #[] w fun e w' => e = .returned (.bool true) ∧ Below w.heap.size w w' := by
  have P1 := Aside0.mk (part_ok none 0 0 [] none 0 0 [] w grid_none grid_none)
  have P2 := Aside0.mk (part_ok (some ⟨w.heap.size + 1, 0, none⟩) 1 1 [[1]] none 0 0 [] _ (grid_lit w) grid_none)
  rw [show partB [] [] = true from rfl] at P1
  rw [show partB [[1]] [] = false from rfl] at P2
  go_enter Try.func7, Try.ntmps7
  go_wp2_with (first
    | (go_at_call 9; (with_reducible refine P1.out.mono ?_); rintro e wK ⟨rfl, rfl⟩)
    | (go_at_call 9; (with_reducible refine P2.out.mono ?_); rintro e wK ⟨rfl, rfl⟩)
    | (go_at_call 11; (with_reducible refine (cutnil_ok _).mono ?_); rintro e wL ⟨rfl, hb⟩; have HB := Aside0.mk hb; clear hb))
  first | go_ret | go_ret2 | ((try simp only [Exit.inBlock, Exit.then]); refine bodyPost_ret (results_tmp3 rfl _ _ _) rfl ?_) | go_end0
  exact ⟨rfl, below_step (below_alloc (below_alloc (Below.refl _ _) _) _) HB.out⟩
abbrev encH (h : Option Addr × Nat × Nat) : Value := .slice h.1 h.2.1 h.2.2
abbrev HK : Kd (Option Addr × Nat × Nat) := Kd.scalar encH (fun _ => rfl)
theorem info26 : (Try.prog.info? 26).map (fun i => (i.zero, i.size, i.bytes)) = some (some (.slice none 0 0), 1, 24) := by kernel_rfl
/-- A row of headers of the call's own; what they lead to was there before. -/
structure HRow (w w' : World) (v : Value) (L : List (List Int)) : Prop where
  out : ∃ hs, Own HK 26 w.heap.size w' v hs ∧ hs.length = L.length ∧ ∀ (i : Nat) (h : Option Addr × Nat × Nat) (x : List Int), hs[i]? = some h → L[i]? = some x → Oct w (encH h) x
theorem HRow.nil (w w' : World) : HRow w w' (.slice none 0 0) [] := ⟨[], Own.nil _ _ _ _, rfl, fun i h x hh => by simp at hh⟩
theorem HRow.below {w w' w2 : World} {v : Value} {L : List (List Int)} (h : HRow w w' v L) (hb : Below w'.heap.size w' w2) : HRow w w2 v L := by
  obtain ⟨hs, ho, hl, hx⟩ := h.out
  exact ⟨hs, ho.below hb, hl, hx⟩
theorem HRow.slice {w w' : World} {v : Value} {L : List (List Int)} (h : HRow w w' v L) {n : Nat} (hn : L.length = n) : ∃ A c, v = .slice A n c ∧ n ≤ c := by
  obtain ⟨hs, ho, hl, hx⟩ := h.out
  exact ho.sliceN (hl.trans hn)
theorem HRow.grid {w w' : World} {A : Option Addr} {n c : Nat} {L : List (List Int)} (h : HRow w w' (.slice A n c) L) (hb : Below w.heap.size w w') (hm : n ≤ 9223372036854775807) : Grid w' A n c L := by
  obtain ⟨hs, ho, hl, hx⟩ := h.out
  have hr := ho.rds
  refine ⟨hr.len.trans hl, hr.cap, hm, fun i x hi => ?_⟩
  have hi2 : i < L.length := (List.getElem?_eq_some_iff.1 hi).1
  have hi3 : hs[i]? = some (hs[i]'(by omega)) := by simp
  obtain ⟨g, hA, _, _, hc, _⟩ := Own.elem (enc := encH) (h1 := fun _ => rfl) (none, 0, 0) ho i (by rw [hr.len, hl]; exact hi2)
  subst hA
  refine ⟨⟨g, 0, none⟩, encH (hs[i]'(by omega)), rfl, ?_, (hx i _ x hi3 hi).below hb⟩
  rw [add_at, Nat.zero_add, hc]
  simp [rdOf, List.getD_eq_getElem?_getD, hi3]
section
variable {ops : Array Oper} {rest : List Oper} {o : Oper} {a : Act} {Q : Exit → Act → World → Prop}
/-- append of one header. -/
theorem app_hdr {w W : World} {v : Value} {L : List (List Int)} {A : Option Addr} {n c : Nat} {y : List Int}
    (s x : Operand) (hgd : o.guard = none) (ho : o.op = .call { callee := .builtin .append, args := #[s, x], argTypes := #[22, 22] })
    (hs : a.eval s = v) (hx : a.eval x = .slice (some ⟨W.heap.size, 0, none⟩) 1 1)
    (HO : HRow w W v L) (HB : Below w.heap.size w W) (hy : Oct w (.slice A n c) y) (hl : (L.length + 1) * 24 ≤ 140737488355328)
    (h : ∀ v1 w1, HRow w w1 v1 (L ++ [y]) → Below w.heap.size w w1 → wpList Try.prog ops Q rest (a.put o.dst v1) w1) :
    wpList Try.prog ops Q (o :: rest) a (W.alloc (.cells #[.slice A n c] 26)) := by
  obtain ⟨hs', hown, hlen, hrd⟩ := HO.out
  refine Kd.R_append HK (w0 := w) w.heap.size hgd s x 22 26 (.slice none 0 0) 24 ho Try.underlying22 info26 rfl Nat.zero_lt_one (by decide) v hs' (A, n, c) [.slice A n c] (fun _ => True) (fun _ => False) hs hx rfl (fun _ h => h.elim) (fun _ _ => trivial) hown.out HB HB.size (by rw [hlen]; exact hl) ?_
  intro v1 w1 h1 h2 h3 _
  refine h v1 w1 ⟨hs' ++ [(A, n, c)], ⟨h1⟩, by simp [hlen], fun i hh z e1 e2 => ?_⟩ h2
  by_cases hi : i < hs'.length
  · rw [List.getElem?_append_left hi] at e1
    rw [List.getElem?_append_left (by omega)] at e2
    exact hrd i hh z e1 e2
  · have hi2 : i = hs'.length := by
      have := (List.getElem?_eq_some_iff.1 e1).1
      simp at this
      omega
    subst hi2
    rw [List.getElem?_append_right (Nat.le_refl _)] at e1
    rw [hlen, List.getElem?_append_right (Nat.le_refl _)] at e2
    simp at e1 e2
    subst e1 e2
    exact hy
end

end Go.Proofs.Ytcgdnkgnknceiaa.HnD
