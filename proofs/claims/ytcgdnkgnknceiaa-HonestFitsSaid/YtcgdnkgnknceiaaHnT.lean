/- Contracts of Sessions. -/
import Derived.Test.YtcgdnkgnknceiaaHnS
namespace Go.Proofs.Ytcgdnkgnknceiaa.HnT
open Go.RowKit Go.Proofs.YtcgdnkgnknceiaaW.PrintWords Go.Proofs.YtcgdnkgnknceiaaW.PrintLast Go.Proofs.YtcgdnkgnknceiaaW.PrintMore Go.Proofs.Ytcgdnkgnknceiaa.K Go.Proofs.Ytcgdnkgnknceiaa.OpenC Go.Proofs.Ytcgdnkgnknceiaa.HnA Go.Proofs.Ytcgdnkgnknceiaa.HnB Go.Proofs.Ytcgdnkgnknceiaa.HnC Go.Proofs.Ytcgdnkgnknceiaa.HnD Go.Proofs.Ytcgdnkgnknceiaa.HnS
set_option linter.unusedVariables false
set_option linter.unusedSimpArgs false
attribute [local go_sem] max2_int min2_int max_two min_two

def skip (h : List (List Int)) : List (List (List Int)) → Option (List (List (List Int)))
  | [] => none
  | s :: ss => if beginsB h s = true then some ss else skip h ss
def sess : List (List (List Int)) → List (List (List Int)) → Bool
  | [], _ => true
  | h :: hs, said => if h = [] then sess hs said else match skip h said with | none => false | some r => sess hs r
theorem sess_cons (h : List (List Int)) (hs said : List (List (List Int))) : sess (h :: hs) said = if h = [] then sess hs said else match skip h said with | none => false | some r => sess hs r := rfl
theorem g3get {w : World} {A : Option Addr} {n c : Nat} {l : List (List (List Int))} (h : Grid3 w A n c l) (i : Nat) (hi : i < n) : ∃ x ad A1 n1 c1, l[i]? = some x ∧ A = some ad ∧ w.cell? (ad.add i) = some (.slice A1 n1 c1) ∧ Grid w A1 n1 c1 x := by
  have hx : l[i]? = some (l[i]'(by have := h.len; omega)) := by simp
  obtain ⟨ad, v, hA, hc, hv⟩ := h.at_ i _ hx
  obtain ⟨A1, n1, c1, rfl, r⟩ := hv.out
  exact ⟨_, ad, A1, n1, c1, hx, hA, hc, r⟩
theorem drop_cons {α : Type} (l : List α) (k : Nat) (y : α) (h : l[k]? = some y) : l.drop k = y :: l.drop (k + 1) := by
  obtain ⟨hk, e⟩ := List.getElem?_eq_some_iff.1 h
  rw [List.drop_eq_getElem_cons hk, e]
theorem add_form {w : World} {ad : Addr} {k : Nat} {v : Value} (h : w.cell? (ad.add k) = some v) : ad.add k = ⟨ad.block, ad.off + k, none⟩ := by
  cases k with
  | zero =>
    have hs := World.cell?_spot h
    obtain ⟨b, o, s⟩ := ad
    have e : (⟨b, o, s⟩ : Addr).add 0 = ⟨b, o, s⟩ := rfl
    rw [e] at hs ⊢
    simp only at hs
    subst hs
    rfl
  | succ k => rfl
theorem g3_drop {w : World} {ad : Addr} {n c m : Nat} {zs : List (List (List Int))} (h : Grid3 w (some ad) n c zs) (hm : m ≤ n) : Grid3 w (some ⟨ad.block, ad.off + m, none⟩) (n - m) (c - m) (zs.drop m) := by
  have hl := h.len
  have hc := h.cap
  have hx := h.max
  refine ⟨by rw [List.length_drop]; omega, by omega, by omega, fun i x hi => ?_⟩
  rw [List.getElem?_drop] at hi
  obtain ⟨ad', v, hA, hcell, hv⟩ := h.at_ (m + i) x hi
  cases hA
  refine ⟨_, v, rfl, ?_, hv⟩
  rw [add_form hcell] at hcell
  rw [add_at, show ad.off + m + i = ad.off + (m + i) by omega]
  exact hcell
theorem g3_none {w : World} {c : Nat} {A : Option Addr} : Grid3 w A 0 c [] := ⟨rfl, Nat.zero_le _, by omega, fun i x hx => by simp at hx⟩
set_option maxHeartbeats 8000000 in
set_option maxRecDepth 100000 in
theorem ses1_ok (A : Option Addr) (n c : Nat) (s : List (List Int)) (Ah : Option Addr) (nh ch : Nat) (h : List (List Int)) (g : Nat) (w : World) (hc : w.cell? ⟨g, 0, none⟩ = some (.slice Ah nh ch)) (r1 : Grid w Ah nh ch h) (r2 : Grid w A n c s) :
    Calls Try.prog 19 #[.slice A n c, .pointer (some ⟨g, 0, none⟩)] w fun e w' => e = .returned (.bool (beginsB h s)) ∧ w = w' := by
  have E := Aside0.mk (begins_ok Ah nh ch h A n c s w r1 r2)
  clear r1 r2
  go_enter Try.func19, Try.ntmps19
  go_wp2_with (first | (go_at_call 20; (with_reducible refine E.out.mono ?_); rintro e wK ⟨rfl, rfl⟩))
  first | go_ret | go_ret2 | ((try simp only [Exit.inBlock, Exit.then]); refine bodyPost_ret (results_tmp3 rfl _ _ _) rfl ?_) | go_end0
  exact ⟨rfl, rfl⟩
set_option maxHeartbeats 8000000 in
set_option maxRecDepth 100000 in
theorem index_ok (A : Option Addr) (n c : Nat) (said : List (List (List Int))) (Ah : Option Addr) (nh ch : Nat) (h : List (List Int)) (g : Nat) (w : World) (hc : w.cell? ⟨g, 0, none⟩ = some (.slice Ah nh ch)) (r1 : Grid w Ah nh ch h) (r2 : Grid3 w A n c said) :
    Calls Try.prog 18 #[.slice A n c, .func (.func 19) #[] #[.pointer (some ⟨g, 0, none⟩)]] w fun e w' => (∃ r : Int, e = .returned (.int .i64 r) ∧ ((r = -1 ∧ skip h said = none) ∨ ∃ j : Nat, j < n ∧ r = (j : Int) ∧ skip h said = some (said.drop (j + 1)))) ∧ w = w' := by
  have R1 := Aside0.mk r1
  have R2 := Aside0.mk r2
  have HC := Aside0.mk hc
  have HN := Aside0.mk r2.len
  have hcn := r2.cap
  have hmn := r2.max
  clear r1 r2 hc
  go_enter Try.func18, Try.ntmps18
  go_wp2
  go_loopg [5, 8] (n + 1) (fun kq v5 v8 w' => ∃ (i : Nat), v8 = .int .i64 i ∧ i ≤ n ∧ kq = n + 1 - i ∧ Aside0 (skip h said = skip h (said.drop i)) ∧ w = w')
  case atStart => exact ⟨0, rfl, by omega, by omega, ⟨rfl⟩, rfl⟩
  case round =>
    obtain ⟨i, rfl, hi, hkq, GG, rfl⟩ := hrel
    by_cases hlt : i < n
    · obtain ⟨x, ad, A3, n3, c3, hx, hA, hcell, hr⟩ := g3get R2.out i hlt
      cases hA
      have DC := Aside0.mk (drop_cons said i x hx)
      have EQ := Aside0.mk (ses1_ok A3 n3 c3 x Ah nh ch h g w HC.out R1.out hr)
      clear hr hx
      cases hb : beginsB h x
      · rw [hb] at EQ
        have GN : Aside0 (skip h said = skip h (said.drop (i + 1))) := ⟨by rw [GG.out, DC.out, skip, if_neg (by rw [hb]; decide)]⟩
        clear hb
        go_wp2_with (first | (go_at_call 19; (with_reducible refine EQ.out.mono ?_); rintro e wK ⟨rfl, rfl⟩))
        go_roundg (n - i)
        case measure => omega
        case rel => exact ⟨i + 1, by go_num, by omega, by omega, GN, rfl⟩
      · rw [hb] at EQ
        have GN : Aside0 (skip h said = some (said.drop (i + 1))) := ⟨by rw [GG.out, DC.out, skip, if_pos hb]⟩
        clear hb
        go_wp2_with (first | (go_at_call 19; (with_reducible refine EQ.out.mono ?_); rintro e wK ⟨rfl, rfl⟩))
        first | go_ret | go_ret2 | ((try simp only [Exit.inBlock, Exit.then]); refine bodyPost_ret (results_tmp3 rfl _ _ _) rfl ?_) | go_end0
        exact ⟨⟨_, rfl, .inr ⟨i, hlt, rfl, GN.out⟩⟩, rfl⟩
    · have hi2 : i = n := by omega
      subst hi2
      have GN : Aside0 (skip h said = none) := ⟨by rw [GG.out, List.drop_eq_nil_of_le (by have := HN.out; omega)]; rfl⟩
      clear GG
      go_wp2_with fail
      first | go_ret | go_ret2 | ((try simp only [Exit.inBlock, Exit.then]); refine bodyPost_ret (results_tmp3 rfl _ _ _) rfl ?_) | go_end0
      exact ⟨⟨_, rfl, .inl ⟨rfl, GN.out⟩⟩, rfl⟩
theorem g3_cut {w : World} {ad : Addr} {n c j : Nat} {zs : List (List (List Int))} (h : Grid3 w (some ad) n c zs) (hj : j < n) : (c = j + 1 → Grid3 w (some ad) (n - (j + 1)) 0 (zs.drop (j + 1))) ∧ Grid3 w (some (ad.add (j + 1))) (n - (j + 1)) (c - (j + 1)) (zs.drop (j + 1)) := by
  refine ⟨fun hc => ?_, g3_drop h (by omega)⟩
  have hl := h.len
  have hcp := h.cap
  have e : n - (j + 1) = 0 := by omega
  rw [e, List.drop_eq_nil_of_le (by omega)]
  exact g3_none
theorem index_none {A : Option Addr} {n c : Nat} {said : List (List (List Int))} {Ah : Option Addr} {nh ch : Nat} {h : List (List Int)} {g : Nat} {w : World} (hc : w.cell? ⟨g, 0, none⟩ = some (.slice Ah nh ch)) (r1 : Grid w Ah nh ch h) (r2 : Grid3 w A n c said) (hs : skip h said = none) :
    Calls Try.prog 18 #[.slice A n c, .func (.func 19) #[] #[.pointer (some ⟨g, 0, none⟩)]] w fun e w' => e = .returned (.int .i64 (-1)) ∧ w = w' :=
  (index_ok A n c said Ah nh ch h g w hc r1 r2).mono fun e w' q => by
    obtain ⟨⟨r, he, hr⟩, hw⟩ := q
    rcases hr with ⟨rfl, _⟩ | ⟨j, _, _, hj⟩
    · exact ⟨he, hw⟩
    · rw [hs] at hj
      cases hj
theorem index_some {A : Option Addr} {n c : Nat} {said : List (List (List Int))} {Ah : Option Addr} {nh ch : Nat} {h : List (List Int)} {g : Nat} {w : World} {rest : List (List (List Int))} (hc : w.cell? ⟨g, 0, none⟩ = some (.slice Ah nh ch)) (r1 : Grid w Ah nh ch h) (r2 : Grid3 w A n c said) (hs : skip h said = some rest) :
    Calls Try.prog 18 #[.slice A n c, .func (.func 19) #[] #[.pointer (some ⟨g, 0, none⟩)]] w fun e w' => (∃ j : Nat, e = .returned (.int .i64 (j : Int)) ∧ j < n ∧ rest = said.drop (j + 1)) ∧ w = w' :=
  (index_ok A n c said Ah nh ch h g w hc r1 r2).mono fun e w' q => by
    obtain ⟨⟨r, he, hr⟩, hw⟩ := q
    rcases hr with ⟨_, h0⟩ | ⟨j, hj, rfl, hj2⟩
    · rw [hs] at h0
      cases h0
    · rw [hs] at hj2
      cases hj2
      exact ⟨⟨j, he, hj, rfl⟩, hw⟩
set_option maxHeartbeats 8000000 in
set_option maxRecDepth 100000 in
theorem sessions_ok (A1 : Option Addr) (n1 c1 : Nat) (heard : List (List (List Int))) (A2 : Option Addr) (n2 c2 : Nat) (said : List (List (List Int))) (w : World) (r1 : Grid3 w A1 n1 c1 heard) (r2 : Grid3 w A2 n2 c2 said) :
    Calls Try.prog 14 #[.slice A1 n1 c1, .slice A2 n2 c2] w fun e w' => e = .returned (.bool (sess heard said)) ∧ Below w.heap.size w w' := by
  have R1 := Aside0.mk r1
  have G2 := Aside0.mk (show Grid3 w A2 n2 c2 said from r2)
  have HN := Aside0.mk r1.len
  have hcn := r1.cap
  have hmn := r1.max
  have hmf : ∀ (fn : Fn) (first cap : Array Value) (w : World), (Instr.makeFunc fn first cap).run Try.prog w = .ok (.func fn first cap) w := fun _ _ _ _ => rfl
  clear r1 r2
  go_enter Try.func14, Try.ntmps14
  go_wp2
  go_loopg [1, 6, 7, 10] (n1 + 1) (fun kq v1 v6 v7 v10 w' => ∃ (i : Nat) (As : Option Addr) (ns cs : Nat) (cur : List (List (List Int))), v1 = .slice As ns cs ∧ v10 = .int .i64 i ∧ i ≤ n1 ∧ kq = n1 + 1 - i ∧ Aside0 (sess heard said = sess (heard.drop i) cur) ∧ Aside0 (Grid3 w As ns cs cur) ∧ Aside0 (Below w.heap.size w w'))
  case atStart => exact ⟨0, _, _, _, _, rfl, rfl, by omega, by omega, ⟨rfl⟩, G2, ⟨Below.refl _ _⟩⟩
  case round =>
    clear G2
    obtain ⟨i, As, ns, cs, cur, rfl, rfl, hi, hkq, SS, G2, B2⟩ := hrel
    by_cases hlt : i < n1
    · obtain ⟨x, ad, A3, n3, c3, hx, hA, hcell, hr⟩ := g3get R1.out i hlt
      cases hA
      have DC := Aside0.mk (drop_cons heard i x hx)
      have R3 := Aside0.mk hr
      have hc' := (B2.out.cell (World.block_lt_of_cell? w _ hcell)).trans hcell
      have L3 := Aside0.mk hr.len
      clear hr hx hcell
      have CA : Aside0 ((wr.alloc (.cells #[.slice A3 n3 c3] 22)).cell? ⟨wr.heap.size, 0, none⟩ = some (.slice A3 n3 c3)) := ⟨(Ob.new wr 22 [.slice A3 n3 c3]).at_ 0 rfl⟩
      have BA := Aside0.mk (below_alloc (Below.refl wr.heap.size wr) (.cells #[.slice A3 n3 c3] 22))
      by_cases h0 : n3 = 0
      · subst h0
        have GN : Aside0 (sess heard said = sess (heard.drop (i + 1)) cur) := ⟨by rw [SS.out, DC.out, sess_cons, if_pos (List.eq_nil_of_length_eq_zero L3.out.symm)]⟩
        go_wp2_with fail
        go_roundg (n1 - i)
        case measure => omega
        case rel => exact ⟨i + 1, _, _, _, cur, rfl, by go_num, by omega, by omega, GN, G2, ⟨below_step B2.out BA.out⟩⟩
      · have b0 : (((n3 : Nat) : Int) == 0) = false := by simp; omega
        have GN := SS.out
        rw [DC.out, sess_cons, if_neg (fun e => h0 (by have := L3.out; rw [e] at this; simpa using this))] at GN
        have GN := Aside0.mk GN
        clear h0 SS
        cases hsk : skip x cur with
        | none =>
          rw [hsk] at GN
          have IX := Aside0.mk (index_none (g := wr.heap.size) CA.out (R3.out.below (below_step B2.out BA.out)) (Grid3.below G2.out (below_step B2.out BA.out)) hsk)
          clear hsk
          go_wp2_with (first | (go_at_call 18; (with_reducible refine IX.out.mono ?_); rintro e wK ⟨rfl, rfl⟩))
          first | go_ret | go_ret2 | ((try simp only [Exit.inBlock, Exit.then]); refine bodyPost_ret (results_tmp3 rfl _ _ _) rfl ?_) | go_end0
          exact ⟨by rw [GN.out]; rfl, below_step B2.out BA.out⟩
        | some rest =>
          rw [hsk] at GN
          have IX := Aside0.mk (index_some (g := wr.heap.size) CA.out (R3.out.below (below_step B2.out BA.out)) (Grid3.below G2.out (below_step B2.out BA.out)) hsk)
          have hns : 0 < ns := by
            rcases Nat.eq_zero_or_pos ns with h | h
            · have := G2.out.len
              rw [h] at this
              rw [List.eq_nil_of_length_eq_zero this.symm] at hsk
              cases hsk
            · exact h
          obtain ⟨_, ad2, _, _, _, _, hA2, _⟩ := g3get G2.out 0 hns
          subst hA2
          have hncs := G2.out.cap
          have hnmx := G2.out.max
          clear hsk
          go_wp2_with (first | (go_at_call 18; (with_reducible refine IX.out.mono ?_); rintro e wK ⟨⟨j, rfl, hj, hrest⟩, rfl⟩; have GC := Aside0.mk (g3_cut G2.out hj); have GN2 := Aside0.mk (show sess heard said = sess (heard.drop (i + 1)) (cur.drop (j + 1)) by rw [GN.out, hrest]); clear hrest))
          · go_roundg (n1 - i)
            case measure => omega
            case rel => exact ⟨i + 1, _, _, _, _, rfl, by go_num, by omega, by omega, GN2, ⟨GC.out.1 (by omega)⟩, ⟨below_step B2.out BA.out⟩⟩
          · go_roundg (n1 - i)
            case measure => omega
            case rel => exact ⟨i + 1, _, _, _, _, rfl, by go_num, by omega, by omega, GN2, ⟨GC.out.2⟩, ⟨below_step B2.out BA.out⟩⟩
    · have hi2 : i = n1 := by omega
      subst hi2
      have GN : Aside0 (sess heard said = true) := ⟨by rw [SS.out, List.drop_eq_nil_of_le (by have := HN.out; omega)]; rfl⟩
      clear SS
      go_wp2_with fail
      first | go_ret | go_ret2 | ((try simp only [Exit.inBlock, Exit.then]); refine bodyPost_ret (results_tmp3 rfl _ _ _) rfl ?_) | go_end0
      exact ⟨by rw [GN.out]; rfl, B2.out⟩

end Go.Proofs.Ytcgdnkgnknceiaa.HnT
