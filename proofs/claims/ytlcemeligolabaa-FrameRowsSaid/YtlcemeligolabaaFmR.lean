/- Contracts of the reference's reader of frames. -/
import Derived.Test.YtlcemeligolabaaFmC
namespace Go.Proofs.Ytlcemeligolabaa.FmR
open Go.RowKit Go.Proofs.YtlcemeligolabaaW.PrintWords Go.Proofs.YtlcemeligolabaaW.PrintLast Go.Proofs.YtlcemeligolabaaW.PrintMore Go.Proofs.Ytlcemeligolabaa.K Go.Proofs.Ytlcemeligolabaa.FmP Go.Proofs.Ytlcemeligolabaa.FmA Go.Proofs.Ytlcemeligolabaa.FmB Go.Proofs.Ytlcemeligolabaa.FmC Go.Proofs.Ytlcemeligolabaa.FcP Go.Proofs.Ytlcemeligolabaa.FcA Go.Proofs.Ytlcemeligolabaa.FcB Go.Proofs.Ytlcemeligolabaa.FcC Go.Proofs.Ytlcemeligolabaa.FcR Go.Proofs.Ytlcemeligolabaa.FcD Go.Proofs.Ytlcemeligolabaa.FcE Go.Proofs.Ytlcemeligolabaa.FcF Go.Proofs.Ytlcemeligolabaa.OctPure
set_option linter.unusedVariables false
set_option linter.unusedSimpArgs false
attribute [local go_sem] max2_int min2_int max_two min_two

theorem unO_oct (l : List Int) (h : octOk l) : ∀ (s : Bool) (acc : List Int), octOk acc → octOk (unO s l acc).1 := by
  induction l with
  | nil => intro s acc ha; cases s <;> simp [unO] <;> first | exact ha | exact octOk.nil
  | cons x xs ih =>
    intro s acc ha
    have hx := h x (by simp)
    have ih' := ih (fun y hy => h y (by simp [hy]))
    cases s with
    | false =>
      unfold unO
      split
      · exact ih' true acc ha
      · split
        · exact octOk.nil
        · exact ih' false _ (octOk.snoc ha hx.1 hx.2)
    | true =>
      unfold unO
      split
      · exact octOk.nil
      · exact ih' false _ (octOk.snoc ha (x32_in x hx.1 hx.2).1 (x32_in x hx.1 hx.2).2)
structure IsS (w : World) (p : Nat) (v : Value) (r : Rr) : Prop where
  tab : Ob w p 47 [.int .i64 r.most, .bool r.wide, .bool r.inn, v, .int .i64 r.n, .bool r.esc, .bool r.long]
  row : Own (Kd.int .u8) 5 0 w v r.b
theorem IsS.ne {w : World} {p : Nat} {v : Value} {r : Rr} (i : IsS w p v r) : ∀ k, some k = v.ownBlock → k ≠ p := i.row.ne i.tab (by decide)
theorem IsS.fr {w w' : World} {p : Nat} {v : Value} {r : Rr} {S : Nat → Prop} (i : IsS w p v r) (hf : Fr S w w') (h1 : ¬ S p) (h2 : ∀ k, some k = v.ownBlock → ¬ S k) : IsS w' p v r := ⟨i.tab.fr hf h1, i.row.fr hf h2⟩
theorem IsS.below {w w' : World} {p : Nat} {v : Value} {r : Rr} (i : IsS w p v r) (hb : Below w.heap.size w w') : IsS w' p v r := ⟨i.tab.below hb, i.row.fr (S := fun _ => False) (Fr.of_below hb) (fun _ _ h => h)⟩
theorem IsS.put {w : World} {p : Nat} {v : Value} {r : Rr} (i : IsS w p v r) (j : Nat) (u : Value) (r' : Rr) (h1 : [.int .i64 r'.most, .bool r'.wide, .bool r'.inn, v, .int .i64 r'.n, .bool r'.esc, .bool r'.long] = ([.int .i64 r.most, .bool r.wide, .bool r.inn, v, .int .i64 r.n, .bool r.esc, .bool r.long] : List Value).set j u) (h2 : r'.b = r.b) : IsS (w.setCell ⟨p, j, none⟩ u) p v r' :=
  ⟨by rw [h1]; exact i.tab.set j u, by rw [h2]; exact i.row.fr (Fr.put (Fr.refl (fun x => x = p) w) j u) (fun k hk => i.ne k hk)⟩
theorem IsS.taken {w w1 : World} {p : Nat} {v v1 : Value} {r : Rr} {c : Int} (i : IsS w p v r) (HO1 : Own (Kd.int .u8) 5 0 w1 v1 (r.b ++ [c])) (F1 : Fr (fun k => some k = v.ownBlock) w w1) (N1 : Nw w v v1) :
    IsS (w1.setCell ⟨p, 3, none⟩ v1) p v1 ⟨r.most, r.wide, r.inn, r.b ++ [c], r.n, r.esc, r.long⟩ := by
  have t1 := i.tab.fr F1 (fun h => i.ne p h rfl)
  have hn : ∀ k, some k = v1.ownBlock → k ≠ p := fun k hk e => by
    rcases N1 k hk with h | h
    · exact i.ne k h e
    · have := i.tab.lt
      omega
  exact ⟨t1.set 3 v1, HO1.fr (Fr.put (Fr.refl (fun x => x = p) w1) 3 v1) (fun k hk => hn k hk)⟩
theorem rcut_ok (n : Int) (w : World) : Calls Try.prog 23 #[.int .i64 n, .int .i64 1, .int .i64 65536] w fun e w' => e = .returned (.int .i64 (cut5 n)) ∧ w = w' := by
  have key : (n < 1 ∧ cut5 n = 1) ∨ (¬ n < 1 ∧ n > 65536 ∧ cut5 n = 65536) ∨ (¬ n < 1 ∧ ¬ n > 65536 ∧ cut5 n = n) := by
    unfold cut5
    (repeat' split) <;> omega
  rcases key with ⟨h1, e⟩ | ⟨h1, h2, e⟩ | ⟨h1, h2, e⟩
  all_goals
    rw [e]
    clear e
    go_enter Try.func23, Try.ntmps23
    go_wp2
    go_ret
    exact ⟨rfl, rfl⟩
set_option maxHeartbeats 8000000 in
set_option maxRecDepth 100000 in
theorem newr_ok (n : Int) (wide : Bool) (w : World) : Calls Try.prog 14 #[.int .i64 n, .bool wide] w fun e w' => ∃ p, e = .returned (.pointer (some ⟨p, 0, none⟩)) ∧ w.heap.size ≤ p ∧ IsS w' p (.slice none 0 0) (newS n wide) ∧ Below w.heap.size w w' := by
  go_enter Try.func14, Try.ntmps14
  go_wp2_with (first | (go_at_call 23; (with_reducible refine (rcut_ok n _).mono ?_); rintro e wK ⟨rfl, rfl⟩))
  first | go_ret | go_ret2 | ((try simp only [Exit.inBlock, Exit.then]); refine bodyPost_ret (results_tmp3 rfl _ _ _) rfl ?_) | go_end0 | refine bodyPost_ret0 rfl rfl ?_
  exact ⟨_, rfl, Nat.le_refl _, ⟨Ob.new _ 47 _, Own.nil _ _ _ _⟩, below_alloc (Below.refl _ _) _⟩
set_option maxHeartbeats 8000000 in
set_option maxRecDepth 100000 in
theorem rends_ok (p : Nat) (v : Value) (r : Rr) (k : OkR r) (w : World) (i : IsS w p v r) :
    Calls Try.prog 24 #[.pointer (some ⟨p, 0, none⟩)] w fun e w' => ∃ u, e = .returned (.tuple #[.int .i64 r.told.1, u]) ∧ Own (Kd.int .u8) 5 w.heap.size w' u r.told.2 ∧ Below w.heap.size w w' := by
  obtain ⟨n, hn⟩ : ∃ n, n = r.b.length := ⟨_, rfl⟩
  obtain ⟨A, cp, rfl, hcp⟩ := i.row.sliceN hn.symm
  have hn1 : n ≤ 200000 := by have := k.len; have := k.n2; omega
  have c1 := i.tab.at_ 1 (v := .bool r.wide) rfl
  have c2 := i.tab.at_ 2 (v := .bool r.inn) rfl
  have c3 := i.tab.at_ 3 (v := .slice A n cp) rfl
  have c5 := i.tab.at_ 5 (v := .bool r.esc) rfl
  have c6 := i.tab.at_ 6 (v := .bool r.long) rfl
  have I0 := Aside0.mk i
  by_cases h1 : r.inn = false
  · have HE : r.told = (0, []) := by unfold Rr.told; rw [if_pos (Or.inl h1)]
    rw [HE]
    rw [h1] at c2
    clear HE h1 i k hn
    go_enter Try.func24, Try.ntmps24
    go_wp2
    first | go_ret | go_ret2 | ((try simp only [Exit.inBlock, Exit.then]); refine bodyPost_ret (results_tmp3 rfl _ _ _) rfl ?_) | go_end0 | refine bodyPost_ret0 rfl rfl ?_
    exact ⟨_, rfl, Own.nil _ _ _ _, Below.refl _ _⟩
  have h1t : r.inn = true := by simpa using h1
  rw [h1t] at c2
  by_cases h2 : n = 0
  · have HE : r.told = (0, []) := by unfold Rr.told; rw [if_pos (Or.inr (List.eq_nil_of_length_eq_zero (by omega)))]
    rw [HE]
    have b0 : (((n : Nat) : Int) == 0) = true := by simp; omega
    clear HE h1 h1t i k hn h2
    go_enter Try.func24, Try.ntmps24
    go_wp2
    first | go_ret | go_ret2 | ((try simp only [Exit.inBlock, Exit.then]); refine bodyPost_ret (results_tmp3 rfl _ _ _) rfl ?_) | go_end0 | refine bodyPost_ret0 rfl rfl ?_
    exact ⟨_, rfl, Own.nil _ _ _ _, Below.refl _ _⟩
  have b0 : (((n : Nat) : Int) == 0) = false := by simp; omega
  have h12 : ¬ (r.inn = false ∨ r.b = []) := by
    rintro (h | h)
    · exact h1 h
    · rw [h] at hn
      exact h2 hn
  cases h3 : r.long
  case true =>
    have HE : r.told = (3, []) := by unfold Rr.told; rw [if_neg h12, if_pos h3]
    rw [HE]
    rw [h3] at c6
    clear HE h1 h1t i k hn h2 h12 h3
    go_enter Try.func24, Try.ntmps24
    go_wp2
    first | go_ret | go_ret2 | ((try simp only [Exit.inBlock, Exit.then]); refine bodyPost_ret (results_tmp3 rfl _ _ _) rfl ?_) | go_end0 | refine bodyPost_ret0 rfl rfl ?_
    exact ⟨_, rfl, Own.nil _ _ _ _, Below.refl _ _⟩
  case false =>
  rw [h3] at c6
  cases h4 : r.esc
  case true =>
    have HE : r.told = (5, []) := by unfold Rr.told; rw [if_neg h12, if_neg (by rw [h3]; decide), if_pos h4]
    rw [HE]
    rw [h4] at c5
    clear HE h1 h1t i k hn h2 h12 h3 h4
    go_enter Try.func24, Try.ntmps24
    go_wp2
    first | go_ret | go_ret2 | ((try simp only [Exit.inBlock, Exit.then]); refine bodyPost_ret (results_tmp3 rfl _ _ _) rfl ?_) | go_end0 | refine bodyPost_ret0 rfl rfl ?_
    exact ⟨_, rfl, Own.nil _ _ _ _, Below.refl _ _⟩
  case false =>
  rw [h4] at c5
  have HT : r.told = endK r.wide (unO false r.b []).1 := by unfold Rr.told; rw [if_neg h12, if_neg (by rw [h3]; decide), if_neg (by rw [h4]; decide)]
  rw [HT]
  have UNR := OctO.unref_ok A n cp r.b w (i.row.rds) (by omega)
  have UO := unO_oct r.b k.oct false [] octOk.nil
  have UL := unO_len r.b false []
  obtain ⟨x, hx⟩ : ∃ x, x = (unO false r.b []).1 := ⟨_, rfl⟩
  obtain ⟨er, her⟩ : ∃ er, er = (unO false r.b []).2 := ⟨_, rfl⟩
  rw [← hx] at UNR UO UL ⊢
  rw [← her] at UNR
  obtain ⟨nx, hnx⟩ : ∃ nx, nx = x.length := ⟨_, rfl⟩
  rw [← hnx] at UNR
  have hnx2 : nx ≤ 200000 := by simp at UL; omega
  obtain ⟨q, hq⟩ : ∃ q, q = sizeT r.wide := ⟨_, rfl⟩
  have hq4 : q ≤ 4 := by rw [hq]; exact (sizeT_b r.wide).2
  have TLN : Aside0 (∀ w', Calls Try.prog 25 #[.bool r.wide] w' fun e w'' => e = .returned (.int .i64 ((q : Nat) : Int)) ∧ w' = w'') := ⟨fun w' => by rw [hq]; exact tailn_ok r.wide w'⟩
  have UNR := Aside0.mk UNR
  clear HT h1 h1t i k hn h2 h12 h3 h4 UL her hx
  by_cases hg : nx ≤ q
  · have HE : endK r.wide x = (2, []) := by unfold endK; rw [if_pos (by rw [← hnx, ← hq]; exact hg)]
    rw [HE]
    have hgi : ((nx : Nat) : Int) < 1 + ((q : Nat) : Int) := by omega
    clear HE hnx hq UO hg
    go_enter Try.func24, Try.ntmps24
    go_wp2_with (first | (go_at_call 32; (with_reducible refine (UNR.out).mono ?_); rintro e w1 ⟨A1, cp1, rfl, ho, hb⟩; have O1 := Aside0.mk ho; have B1 := Aside0.mk hb; clear c1 c2 c3 c5 c6; have c1 := (I0.out.below hb).tab.at_ 1 (v := .bool r.wide) rfl; clear ho hb) | (go_at_call 25; (with_reducible refine (TLN.out _).mono ?_); rintro e wK ⟨rfl, rfl⟩))
    first | go_ret | go_ret2 | ((try simp only [Exit.inBlock, Exit.then]); refine bodyPost_ret (results_tmp3 rfl _ _ _) rfl ?_) | go_end0 | refine bodyPost_ret0 rfl rfl ?_
    exact ⟨_, rfl, Own.nil _ _ _ _, B1.out⟩
  · obtain ⟨m, hm⟩ : ∃ m, nx = m + q := ⟨nx - q, by omega⟩
    have hmq : x.length - sizeT r.wide = m := by rw [← hnx, ← hq]; omega
    have hnq : ¬ x.length ≤ sizeT r.wide := by rw [← hnx, ← hq]; exact hg
    have hgi : ¬ ((nx : Nat) : Int) < 1 + ((q : Nat) : Int) := by omega
    by_cases he : tailL (x.take m) r.wide = x.drop m
    · have HE : endK r.wide x = (1, x.take m) := by unfold endK; rw [if_neg hnq, hmq, if_pos he]
      rw [HE]
      have CK : Aside0 (∀ w' A1 cp1, Own (Kd.int .u8) 5 w.heap.size w' (.slice A1 nx cp1) x → Calls Try.prog 33 #[.slice A1 nx cp1, .bool r.wide] w' fun e w'' => ∃ v, e = .returned (.tuple #[v, .int .i64 0]) ∧ Own (Kd.int .u8) 5 w'.heap.size w'' v (x.take m) ∧ Below w'.heap.size w' w'') :=
        ⟨fun w' A1 cp1 j => rcheck_good A1 nx cp1 m x r.wide w' j.rds UO (by omega) (by rw [← hq]; exact hm) he⟩
      clear HE hnx hq UO hg hmq hnq he hm
      go_enter Try.func24, Try.ntmps24
      go_wp2_with (first | (go_at_call 32; (with_reducible refine (UNR.out).mono ?_); rintro e w1 ⟨A1, cp1, rfl, ho, hb⟩; have O1 := Aside0.mk ho; have B1 := Aside0.mk hb; clear c1 c2 c3 c5 c6; have c1 := (I0.out.below hb).tab.at_ 1 (v := .bool r.wide) rfl; clear ho hb) | (go_at_call 25; (with_reducible refine (TLN.out _).mono ?_); rintro e wK ⟨rfl, rfl⟩) | (go_at_call 33; (with_reducible refine (CK.out _ _ _ O1.out).mono ?_); rintro e w2 ⟨u, rfl, ho, hb⟩; have O2 := Aside0.mk ho; have B2 := Aside0.mk (below_step B1.out hb); have HS := Aside0.mk B1.out.size; clear ho hb))
      first | go_ret | go_ret2 | ((try simp only [Exit.inBlock, Exit.then]); refine bodyPost_ret (results_tmp3 rfl _ _ _) rfl ?_) | go_end0 | refine bodyPost_ret0 rfl rfl ?_
      exact ⟨_, rfl, O2.out.lower HS.out, B2.out⟩
    · have HE : endK r.wide x = (4, []) := by unfold endK; rw [if_neg hnq, hmq, if_neg he]
      rw [HE]
      have CK : Aside0 (∀ w' A1 cp1, Own (Kd.int .u8) 5 w.heap.size w' (.slice A1 nx cp1) x → Calls Try.prog 33 #[.slice A1 nx cp1, .bool r.wide] w' fun e w'' => e = .returned (.tuple #[.slice none 0 0, .int .i64 2]) ∧ Below w'.heap.size w' w'') :=
        ⟨fun w' A1 cp1 j => rcheck_bad A1 nx cp1 m x r.wide w' j.rds UO (by omega) (by rw [← hq]; exact hm) he⟩
      clear HE hnx hq UO hg hmq hnq he hm
      go_enter Try.func24, Try.ntmps24
      go_wp2_with (first | (go_at_call 32; (with_reducible refine (UNR.out).mono ?_); rintro e w1 ⟨A1, cp1, rfl, ho, hb⟩; have O1 := Aside0.mk ho; have B1 := Aside0.mk hb; clear c1 c2 c3 c5 c6; have c1 := (I0.out.below hb).tab.at_ 1 (v := .bool r.wide) rfl; clear ho hb) | (go_at_call 25; (with_reducible refine (TLN.out _).mono ?_); rintro e wK ⟨rfl, rfl⟩) | (go_at_call 33; (with_reducible refine (CK.out _ _ _ O1.out).mono ?_); rintro e w2 ⟨rfl, hb⟩; have B2 := Aside0.mk (below_step B1.out hb); clear hb))
      first | go_ret | go_ret2 | ((try simp only [Exit.inBlock, Exit.then]); refine bodyPost_ret (results_tmp3 rfl _ _ _) rfl ?_) | go_end0 | refine bodyPost_ret0 rfl rfl ?_
      exact ⟨_, rfl, Own.nil _ _ _ _, B2.out⟩

end Go.Proofs.Ytlcemeligolabaa.FmR
