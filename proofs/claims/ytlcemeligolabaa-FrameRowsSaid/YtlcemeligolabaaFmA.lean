/- Contracts of a reader of frames. -/
import Derived.Test.YtlcemeligolabaaFmP
import Derived.Test.YtlcemeligolabaaFcE
import Derived.Test.YtlcemeligolabaaOctO
import Derived.Deep.RegionLaw
namespace Go.Proofs.Ytlcemeligolabaa.FmA
open Go.RowKit Go.Proofs.YtlcemeligolabaaW.PrintWords Go.Proofs.YtlcemeligolabaaW.PrintLast Go.Proofs.YtlcemeligolabaaW.PrintMore Go.Proofs.Ytlcemeligolabaa.K Go.Proofs.Ytlcemeligolabaa.FmP Go.Proofs.Ytlcemeligolabaa.FcP Go.Proofs.Ytlcemeligolabaa.FcA Go.Proofs.Ytlcemeligolabaa.FcB Go.Proofs.Ytlcemeligolabaa.FcC Go.Proofs.Ytlcemeligolabaa.FcR Go.Proofs.Ytlcemeligolabaa.FcD Go.Proofs.Ytlcemeligolabaa.FcE Go.Proofs.Ytlcemeligolabaa.OctPure
set_option linter.unusedVariables false
set_option linter.unusedSimpArgs false
attribute [local go_sem] max2_int min2_int max_two min_two

section
variable {ops : Array Oper} {o : Oper} {a : Act} {Q : Exit → Act → World → Prop} {Kc : Act → World → Prop}
/-- append of one octet onto a row of one's own, as a step of a region. -/
theorem step_own {W' : World} (W : World) {v : Value} {xs : List Int} {c : Int} (s x : Operand) (hw : Region.wanted o (yielded ops a.tmps) = true) (ho : o.op = .call { callee := .builtin .append, args := #[s, x], argTypes := #[24, 24] })
    (he : W.alloc (.cells #[.int .u8 c] 5) = W') (hs : a.eval s = v) (hx : a.eval x = .slice (some ⟨W.heap.size, 0, none⟩) 1 1) (HO : Own (Kd.int .u8) 5 0 W v xs) (hl : (xs.length + 1) * 1 ≤ 140737488355328)
    (h : ∀ v1 w1, Own (Kd.int .u8) 5 0 w1 v1 (xs ++ [c]) → Fr (fun k => some k = v.ownBlock) W w1 → (∀ k, some k = v1.ownBlock → some k = v.ownBlock ∨ W.heap.size ≤ k) → Kc (a.put o.dst v1) w1) :
    if Region.wanted o (yielded ops a.tmps) = true then Oper.wp Try.prog o a W' Kc Q else Kc (a.put o.dst undef) W' := by
  subst he
  refine Kd.R_append_step (Kd.int .u8) (w0 := W) 0 hw s x 24 5 (.int .u8 0) 1 ho Try.underlying24 info5 rfl (by decide) (by decide) v xs c [.int .u8 c] (fun _ => True) (fun _ => False) hs hx rfl (fun _ h => h.elim) (fun _ _ => trivial) HO.out ⟨rfl, rfl, rfl, Nat.le_refl _, fun _ _ => rfl⟩ (Nat.zero_le _) hl ?_
  intro v1 w1 h1 h2 h3 h4
  refine h v1 w1 ⟨h1⟩ ⟨h3.os, h3.tape, h3.output, h3.size, fun i hi hne => h3.block i hi hne⟩ (fun k hk => ?_)
  rcases h4 with h4 | ⟨b, h4, h5⟩
  · exact .inl (by rw [hk, h4])
  · rw [h4] at hk
    cases hk
    exact .inr h5
end
section
variable {P : Program} {ops : Array Oper} {rest : List Oper} {o : Oper} {a : Act} {Q : Exit → Act → World → Prop}
/-- append of one number onto a row of one's own: whose block it is then. -/
theorem app_own {k : IntKind} {W : World} {v : Value} {xs : List Int} {p : Int} {t e bytes : Nat} {z : Value}
    (ht : P.underlying t = some (.slice e)) (hinfo : (P.info? e).map (fun i => (i.zero, i.size, i.bytes)) = some (some z, 1, bytes)) (hz : z.cells.size = 1) (hb0 : 0 < bytes)
    (s x : Operand) (hgd : o.guard = none) (ho : o.op = .call { callee := .builtin .append, args := #[s, x], argTypes := #[t, t] })
    (hs : a.eval s = v) (hx : a.eval x = .slice (some ⟨W.heap.size, 0, none⟩) 1 1)
    (HO : Own (Kd.int k) e 0 W v xs) (hl : (xs.length + 1) * bytes ≤ 140737488355328)
    (h : ∀ v1 w1, Own (Kd.int k) e 0 w1 v1 (xs ++ [p]) → Fr (fun k => some k = v.ownBlock) W w1 → (∀ k, some k = v1.ownBlock → some k = v.ownBlock ∨ W.heap.size ≤ k) → wpList P ops Q rest (a.put o.dst v1) w1) :
    wpList P ops Q (o :: rest) a (W.alloc (.cells #[.int k p] e)) := by
  refine Kd.R_append (Kd.int k) (w0 := W) 0 hgd s x t e z bytes ho ht hinfo hz Nat.zero_lt_one hb0 v xs p [.int k p] (fun _ => True) (fun _ => False) hs hx rfl (fun _ h => h.elim) (fun _ _ => trivial) HO.out ⟨rfl, rfl, rfl, Nat.le_refl _, fun _ _ => rfl⟩ (Nat.zero_le _) hl ?_
  intro v1 w1 h1 h2 h3 h4
  refine h v1 w1 ⟨h1⟩ ⟨h3.os, h3.tape, h3.output, h3.size, fun i hi hne => h3.block i hi hne⟩ (fun k hk => ?_)
  rcases h4 with h4 | ⟨b, h4, hb⟩
  · exact Or.inl (hk.trans h4)
  · rw [h4] at hk
    injection hk with hk
    exact Or.inr (hk ▸ hb)
end
theorem Own.lt {B : Nat} {w : World} {v : Value} {xs : List Int} (h : Own (Kd.int .u8) 5 B w v xs) : ∀ k, some k = v.ownBlock → B ≤ k ∧ k < w.heap.size := fun k hk => by
  have := (Kd.R_bound h.out).1 k hk.symm
  exact ⟨this.2.1, this.2.2.1⟩
structure IsP (w : World) (p : Nat) (v : Value) (R : Re) : Prop where
  tab : Ob w p 51 [.bool R.wide, .int .i64 R.most, .int .i64 R.st, v]
  row : Own (Kd.int .u8) 5 0 w v R.b
def Sp (p : Nat) (v : Value) (k : Nat) : Prop := k = p ∨ some k = v.ownBlock
/-- The row's block is the old one or new. -/
def Nw (w : World) (v v1 : Value) : Prop := ∀ k, some k = v1.ownBlock → some k = v.ownBlock ∨ w.heap.size ≤ k
theorem Nw.refl (w : World) (v : Value) : Nw w v v := fun k hk => Or.inl hk
theorem Nw.none (w : World) (v : Value) : Nw w v (.slice none 0 0) := fun k hk => by simp [Value.ownBlock] at hk
theorem IsP.ne {w : World} {p : Nat} {v : Value} {R : Re} (i : IsP w p v R) : ∀ k, some k = v.ownBlock → k ≠ p := i.row.ne i.tab (by decide)
theorem IsP.fr {w w' : World} {p : Nat} {v : Value} {R : Re} {S : Nat → Prop} (i : IsP w p v R) (hf : Fr S w w') (h1 : ¬ S p) (h2 : ∀ k, some k = v.ownBlock → ¬ S k) : IsP w' p v R := ⟨i.tab.fr hf h1, i.row.fr hf h2⟩
theorem IsP.below {w w' : World} {p : Nat} {v : Value} {R : Re} (i : IsP w p v R) (hb : Below w.heap.size w w') : IsP w' p v R := ⟨i.tab.below hb, i.row.fr (S := fun _ => False) (Fr.of_below hb) (fun _ _ h => h)⟩
theorem IsP.put {w : World} {p : Nat} {v : Value} {R : Re} (i : IsP w p v R) (j : Nat) (u : Value) (R' : Re) (h1 : [.bool R'.wide, .int .i64 R'.most, .int .i64 R'.st, v] = ([.bool R.wide, .int .i64 R.most, .int .i64 R.st, v] : List Value).set j u) (h2 : R'.b = R.b) : IsP (w.setCell ⟨p, j, none⟩ u) p v R' :=
  ⟨by rw [h1]; exact i.tab.set j u, by rw [h2]; exact i.row.fr (Fr.put (Fr.refl (fun x => x = p) w) j u) (fun k hk => i.ne k hk)⟩
theorem sp_put {w w' : World} {p : Nat} {v : Value} {i : Nat} (h : Fr (Sp p v) w w') (u : Value) : Fr (Sp p v) w (w'.setCell ⟨p, i, none⟩ u) := h.set (p := ⟨p, i, none⟩) (Or.inl rfl) u
/-- The step of a row: taken, and put into the field. -/
theorem IsP.taken {w w1 : World} {p : Nat} {v v1 : Value} {R : Re} {c : Int} (i : IsP w p v R) (HO1 : Own (Kd.int .u8) 5 0 w1 v1 (R.b ++ [c])) (F1 : Fr (fun k => some k = v.ownBlock) w w1) (N1 : Nw w v v1) :
    IsP (w1.setCell ⟨p, 3, none⟩ v1) p v1 ⟨R.wide, R.most, R.st, R.b ++ [c]⟩ := by
  have t1 := i.tab.fr F1 (fun h => i.ne p h rfl)
  have hn : ∀ k, some k = v1.ownBlock → k ≠ p := fun k hk e => by
    rcases N1 k hk with h | h
    · exact i.ne k h e
    · have := i.tab.lt
      omega
  exact ⟨t1.set 3 v1, HO1.fr (Fr.put (Fr.refl (fun x => x = p) w1) 3 v1) (fun k hk => hn k hk)⟩
set_option maxHeartbeats 8000000 in
set_option maxRecDepth 100000 in
theorem take_ok (p : Nat) (v : Value) (R : Re) (c : Int) (w : World) (i : IsP w p v R) (hl : R.b.length ≤ 100000) :
    Calls Try.prog 28 #[.pointer (some ⟨p, 0, none⟩), .int .u8 c] w fun e w' => ∃ v', e = .returned (.tuple #[]) ∧ IsP w' p v' (R.take c) ∧ Nw w v v' ∧ Fr (Sp p v) w w' := by
  obtain ⟨n, hn⟩ : ∃ n, n = R.b.length := ⟨_, rfl⟩
  rw [← hn] at hl
  obtain ⟨A, cp, rfl, hcp⟩ := i.row.sliceN hn.symm
  have c3 := i.tab.at_ 3 (v := .slice A n cp) rfl
  have HO := i.row
  have hlen : (R.b.length + 1) * 1 ≤ 140737488355328 := by rw [← hn]; omega
  have I0 := Aside0.mk i
  have HN := Aside0.mk hn
  have hn1 : Aside0 ((R.b ++ [c]).length = n + 1) := ⟨by rw [List.length_append, ← hn]; rfl⟩
  have ST := fun (w' : World) (x : Value) (i1 : IsP w' p x ⟨R.wide, R.most, R.st, R.b ++ [c]⟩) => i1.put 2 (.int .i64 2) ⟨R.wide, R.most, 2, R.b ++ [c]⟩ rfl rfl
  have ST := Aside0.mk ST
  clear i hn
  by_cases hg : R.most < ((n + 1 : Nat) : Int)
  all_goals
    go_enter Try.func28, Try.ntmps28
    go_wp2_with (first | (at_builtin; refine app_own Try.underlying24 info5 rfl (by decide) (.tmp 8) (.tmp 10) rfl rfl rfl rfl HO hlen ?_; intro v1 w1 HO1 F1 N1; obtain ⟨A1, c1, rfl, hc1⟩ := HO1.sliceN hn1.out; have T1 := I0.out.tab.fr F1 (fun h => I0.out.ne p h rfl); have f3 := T1.frozen 3; have k3 := T1.at_ 3 (v := .slice A n cp) rfl; have f2 := T1.frozen 2; have k2 := T1.at_ 2 (v := .int .i64 R.st) rfl; have I1 := Aside0.mk (I0.out.taken HO1 F1 N1); have G1 := Aside0.mk (sp_put (i := 3) (F1.mono (T := Sp p (.slice A n cp)) (fun k hk => Or.inr hk)) (.slice A1 (n + 1) c1)); have N1' := Aside0.mk N1; clear T1 HO1 F1 N1 HO c3))
    have I2' := ST.out _ _ I1.out
    have G2' := sp_put (i := 2) G1.out (.int .i64 2)
    clear k2 k3 f2 f3 I1 G1
    generalize (w1.setCell ⟨p, 3, none⟩ (.slice A1 (n + 1) c1)).setCell ⟨p, 2, none⟩ (.int .i64 2) = w2 at I2' G2' ⊢
    have c1_ := I2'.tab.at_ 1 (v := .int .i64 R.most) rfl
    have c2_ := I2'.tab.at_ 2 (v := .int .i64 2) rfl
    have c3_ := I2'.tab.at_ 3 (v := .slice A1 (n + 1) c1) rfl
    have f2_ := I2'.tab.frozen 2
    have I2 := Aside0.mk I2'
    have G2 := Aside0.mk G2'
    clear I2' G2'
    go_region
    go_wp2
    first | go_ret | go_ret2 | ((try simp only [Exit.inBlock, Exit.then]); refine bodyPost_ret (results_tmp3 rfl _ _ _) rfl ?_) | go_end0 | refine bodyPost_ret0 rfl rfl ?_
  · refine ⟨_, rfl, ?_, N1'.out, sp_put (G2.out.then (below_drew (Below.refl _ _))) _⟩
    rw [show R.take c = ⟨R.wide, R.most, 4, R.b ++ [c]⟩ by unfold Re.take; rw [← HN.out, if_pos hg]]
    exact (I2.out.below (below_drew (Below.refl _ _))).put 2 (.int .i64 4) ⟨R.wide, R.most, 4, R.b ++ [c]⟩ rfl rfl
  · refine ⟨_, rfl, ?_, N1'.out, G2.out.then (below_drew (Below.refl _ _))⟩
    rw [show R.take c = ⟨R.wide, R.most, 2, R.b ++ [c]⟩ by unfold Re.take; rw [← HN.out, if_neg (by omega)]]
    exact I2.out.below (below_drew (Below.refl _ _))

set_option maxHeartbeats 8000000 in
set_option maxRecDepth 100000 in
theorem size_ok (wide : Bool) (w : World) : Calls Try.prog 26 #[.bool wide] w fun e w' => e = .returned (.int .i64 ((sizeT wide : Nat) : Int)) ∧ Below w.heap.size w w' := by
  have PT := Aside0.mk (put_ok none 0 0 [] wide w (show Rds (Kd.int .u8) w none 0 0 [] from ⟨(Own.nil (Kd.int .u8) 5 0 w).rds.row, rfl, Nat.le_refl _⟩) (by simp) (by omega))
  have TL := Aside0.mk (show ([] ++ tailL [] wide).length = sizeT wide by rw [List.nil_append, tailL_len])
  go_enter Try.func26, Try.ntmps26
  go_wp2_with (first
    | (go_at_call 21; (with_reducible refine PT.out.mono ?_); rintro e w1 ⟨v1, rfl, ho, hb⟩; obtain ⟨A1, c1, hv1, _⟩ := ho.sliceN TL.out; subst hv1; have B1 := Aside0.mk hb; clear ho hb))
  first | go_ret | go_ret2 | ((try simp only [Exit.inBlock, Exit.then]); refine bodyPost_ret (results_tmp3 rfl _ _ _) rfl ?_) | go_end0 | refine bodyPost_ret0 rfl rfl ?_
  exact ⟨rfl, B1.out⟩
set_option maxHeartbeats 8000000 in
set_option maxRecDepth 100000 in
theorem new_ok (n : Int) (wide : Bool) (w : World) : Calls Try.prog 16 #[.int .i64 n, .bool wide] w fun e w' => ∃ p, e = .returned (.pointer (some ⟨p, 0, none⟩)) ∧ w.heap.size ≤ p ∧ IsP w' p (.slice none 0 0) (newR n wide) ∧ Below w.heap.size w w' := by
  obtain ⟨q, hq⟩ : ∃ q, q = sizeT wide := ⟨_, rfl⟩
  have SZ := Aside0.mk (size_ok wide w)
  have hq4 : q ≤ 4 := by rw [hq]; exact (sizeT_b wide).2
  rw [← hq] at SZ
  have key : (n < 65536 ∧ 1 < n ∧ cut5 n = n) ∨ (n < 65536 ∧ ¬ 1 < n ∧ cut5 n = 1) ∨ (¬ n < 65536 ∧ cut5 n = 65536) := by
    unfold cut5
    (repeat' split) <;> omega
  have HQ := Aside0.mk hq
  clear hq
  rcases key with ⟨h1, h2, e⟩ | ⟨h1, h2, e⟩ | ⟨h1, e⟩
  all_goals
    have HE := Aside0.mk e
    clear e
    go_enter Try.func16, Try.ntmps16
    go_wp2_with (first | (go_at_call 26; (with_reducible refine SZ.out.mono ?_); rintro e w1 ⟨rfl, hb⟩; have B1 := Aside0.mk hb; clear hb))
  all_goals
    first | go_ret | go_ret2 | ((try simp only [Exit.inBlock, Exit.then]); refine bodyPost_ret (results_tmp3 rfl _ _ _) rfl ?_) | go_end0 | refine bodyPost_ret0 rfl rfl ?_
    refine ⟨_, rfl, B1.out.size, ⟨?_, Own.nil _ _ _ _⟩, below_alloc B1.out _⟩
    show Ob _ w1.heap.size 51 [.bool wide, .int .i64 (cut5 n + ((sizeT wide : Nat) : Int)), .int .i64 0, .slice none 0 0]
    rw [HE.out, ← HQ.out]
    first
      | exact Ob.new w1 51 _
      | (obtain rfl : n = 65536 := by omega
         exact Ob.new w1 51 _)

end Go.Proofs.Ytlcemeligolabaa.FmA
