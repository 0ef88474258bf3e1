/- Contract of heard. -/
import Derived.Test.YtlcemeligolabaaFmF
namespace Go.Proofs.Ytlcemeligolabaa.FmG
open Go.RowKit Go.Proofs.YtlcemeligolabaaW.PrintWords Go.Proofs.YtlcemeligolabaaW.PrintLast Go.Proofs.YtlcemeligolabaaW.PrintMore Go.Proofs.Ytlcemeligolabaa.K Go.Proofs.Ytlcemeligolabaa.FmP Go.Proofs.Ytlcemeligolabaa.FmA Go.Proofs.Ytlcemeligolabaa.FmB Go.Proofs.Ytlcemeligolabaa.FmC Go.Proofs.Ytlcemeligolabaa.FmF Go.Proofs.Ytlcemeligolabaa.FcP Go.Proofs.Ytlcemeligolabaa.FcA Go.Proofs.Ytlcemeligolabaa.FcB Go.Proofs.Ytlcemeligolabaa.FcC Go.Proofs.Ytlcemeligolabaa.FcR Go.Proofs.Ytlcemeligolabaa.FcD Go.Proofs.Ytlcemeligolabaa.FcE Go.Proofs.Ytlcemeligolabaa.FcF Go.Proofs.Ytlcemeligolabaa.OctPure
set_option linter.unusedVariables false
set_option linter.unusedSimpArgs false
attribute [local go_sem] max2_int min2_int max_two min_two

theorem info9 : (Try.prog.info? 9).map (fun i => (i.zero, i.size, i.bytes)) = some (some (.string ⟨#[]⟩), 1, 16) := by kernel_rfl
theorem take_s (l : List Int) (i : Nat) (h : i < l.length) : l.take (i + 1) = l.take i ++ [rd l i] := by
  rw [List.take_succ_eq_append_getElem h]
  simp [rd, List.getD_eq_getElem?_getD, h]
theorem after_s (R : Re) (l : List Int) (i : Nat) (h : i < l.length) : after R (l.take (i + 1)) = (after R (l.take i)).push (rd l i) := by
  rw [take_s l i h, after_append]
  rfl
theorem hear_s (R : Re) (l : List Int) (i : Nat) (h : i < l.length) : hear R (l.take (i + 1)) = hear R (l.take i) ++ (if ((after R (l.take i)).out (rd l i)).1 = 1 then [((after R (l.take i)).out (rd l i)).2] else []) := by
  rw [take_s l i h, hear_append]
  congr 1
  rw [hear]
  simp [hear]
theorem hear_len (l : List Int) : ∀ R : Re, (hear R l).length ≤ l.length := by
  induction l with
  | nil => intro R; simp [hear]
  | cons c l ih =>
    intro R
    have := ih (R.push c)
    rw [hear, List.length_append, List.length_cons]
    split <;> simp <;> omega
section
variable {ops : Array Oper} {rest : List Oper} {o : Oper} {a : Act} {Q : Exit → Act → World → Prop}
/-- append of one string onto a row of the call's own. -/
theorem app_str {W : World} {B : Nat} {v : Value} {xs : List ByteArray} {p : ByteArray}
    (s x : Operand) (hgd : o.guard = none) (ho : o.op = .call { callee := .builtin .append, args := #[s, x], argTypes := #[26, 26] })
    (hs : a.eval s = v) (hx : a.eval x = .slice (some ⟨W.heap.size, 0, none⟩) 1 1)
    (HO : Own Kd.string 9 B W v xs) (hB : B ≤ W.heap.size) (hl : (xs.length + 1) * 16 ≤ 140737488355328)
    (h : ∀ v1 w1, Own Kd.string 9 B w1 v1 (xs ++ [p]) → Fr (fun k => some k = v.ownBlock) W w1 → wpList Try.prog ops Q rest (a.put o.dst v1) w1) :
    wpList Try.prog ops Q (o :: rest) a (W.alloc (.cells #[.string p] 9)) := by
  refine Kd.R_append Kd.string (w0 := W) B hgd s x 26 9 (.string ⟨#[]⟩) 16 ho Try.underlying26 info9 rfl Nat.zero_lt_one (by decide) v xs p [.string p] (fun _ => True) (fun _ => False) hs hx rfl (fun _ h => h.elim) (fun _ _ => trivial) HO.out ⟨rfl, rfl, rfl, Nat.le_refl _, fun _ _ => rfl⟩ hB hl ?_
  intro v1 w1 h1 h2 h3 h4
  exact h v1 w1 ⟨h1⟩ ⟨h3.os, h3.tape, h3.output, h3.size, fun i hi hne => h3.block i hi hne⟩
end
theorem str_typed {B : Nat} {w : World} {v : Value} {xs : List ByteArray} (h : Own Kd.string 9 B w v xs) (k : Nat) (hk : some k = v.ownBlock) : B ≤ k ∧ ∃ cells, w.heap[k]? = some (.cells cells 9 (0, 0)) := by
  have := (Kd.R_bound h.out).1 k hk.symm
  obtain ⟨_, h2, h3, q, hq, cells, hc⟩ := this
  refine ⟨h2, cells, ?_⟩
  have : q = 9 := by simpa [Kd.string, Kd.scalar] using hq
  rwa [this] at hc
theorem int_typed {B : Nat} {w : World} {v : Value} {xs : List Int} (h : Own (Kd.int .u8) 5 B w v xs) (k : Nat) (hk : some k = v.ownBlock) : ∃ cells, w.heap[k]? = some (.cells cells 5 (0, 0)) := by
  have := (Kd.R_bound h.out).1 k hk.symm
  obtain ⟨_, h2, h3, q, hq, cells, hc⟩ := this
  refine ⟨cells, ?_⟩
  have : q = 5 := by simpa [Kd.int, Kd.scalar] using hq
  rwa [this] at hc
theorem str_int {B B2 : Nat} {w : World} {v u : Value} {xs : List ByteArray} {ys : List Int} (h : Own Kd.string 9 B w v xs) (g : Own (Kd.int .u8) 5 B2 w u ys) (k : Nat) (hk : some k = v.ownBlock) : ¬ some k = u.ownBlock := fun hu => by
  obtain ⟨_, c1, h1⟩ := str_typed h k hk
  obtain ⟨c2, h2⟩ := int_typed g k hu
  rw [h1] at h2
  cases h2
/-- A reader at work, and the strings that it told. -/
structure Ear (w1 w' : World) (p : Nat) (v : Value) (R : Re) (vo : Value) (acc : List ByteArray) : Prop where
  fr : Fr (fun k => k = p) w1 w'
  nv : ∀ k, some k = v.ownBlock → w1.heap.size ≤ k
  is : IsP w' p v R
  out : Own Kd.string 9 w1.heap.size w' vo acc
theorem Ear.push {w1 w' w2 : World} {p : Nat} {v v' : Value} {R R' : Re} {vo : Value} {acc : List ByteArray} (e : Ear w1 w' p v R vo acc) (hi : IsP w2 p v' R') (hn : Nw w' v v') (hf : Fr (Sp p v) w' w2) : Ear w1 w2 p v' R' vo acc where
  fr := e.fr.trans hf (fun k hk h => by
    rcases h with h | h
    · exact h
    · have := e.nv k h
      omega)
  nv := fun k hk => by
    rcases hn k hk with h | h
    · exact e.nv k h
    · exact Nat.le_trans e.fr.size h
  is := hi
  out := Own.fr (enc := Value.string) (h1 := fun _ => rfl) e.out hf (fun k hk h => by
    rcases h with h | h
    · exact Own.ne (enc := Value.string) (h1 := fun _ => rfl) e.out e.is.tab (by decide) k hk h
    · exact str_int e.out e.is.row k hk h)
theorem Ear.app {w1 w' w2 : World} {p : Nat} {v : Value} {R : Re} {vo vo' : Value} {acc acc' : List ByteArray} (e : Ear w1 w' p v R vo acc) (hf : Fr (fun k => some k = vo.ownBlock) w' w2) (ho : Own Kd.string 9 w1.heap.size w2 vo' acc') : Ear w1 w2 p v R vo' acc' where
  fr := e.fr.trans hf (fun k hk h => by
    have := (str_typed e.out k h).1
    omega)
  nv := e.nv
  is := e.is.fr hf (fun h => Own.ne (enc := Value.string) (h1 := fun _ => rfl) e.out e.is.tab (by decide) p h rfl) (fun k hk h => str_int e.out e.is.row k h hk)
  out := ho
theorem Ear.below {B : Nat} {w w1 w' : World} {p : Nat} {v : Value} {R : Re} {vo : Value} {acc : List ByteArray} (e : Ear w1 w' p v R vo acc) (hb : Below B w w1) (hB : B ≤ w1.heap.size) (hp : B ≤ p) : Below B w w' := Fr.above hb hB e.fr (fun i hi h => by omega)
set_option maxHeartbeats 8000000 in
set_option maxRecDepth 100000 in
theorem heard_ok (most : Int) (wide : Bool) (A : Option Addr) (n c : Nat) (l : List Int) (w : World) (hr : Rds (Kd.int .u8) w A n c l) (hl : octOk l) (hn : n ≤ 100000) :
    Calls Try.prog 12 #[.int .i64 most, .bool wide, .slice A n c] w fun e w' => ∃ A1 c1, e = .returned (.slice A1 (hear (newR most wide) l).length c1) ∧ Own Kd.string 9 w.heap.size w' (.slice A1 (hear (newR most wide) l).length c1) ((hear (newR most wide) l).map strOfNums) ∧ Below w.heap.size w w' := by
  have HR := Aside0.mk hr
  have HL := Aside0.mk hl
  have HN := Aside0.mk hr.len
  have hcn := hr.cap
  have K0 := Aside0.mk (Ok.new most wide)
  have NW := Aside0.mk (new_ok most wide w)
  obtain ⟨R0, hR0⟩ : ∃ R0, R0 = newR most wide := ⟨_, rfl⟩
  rw [← hR0] at K0 NW ⊢
  clear hr hl hR0
  go_enter Try.func12, Try.ntmps12
  go_wp2_with (first | (go_at_call 16; (with_reducible refine NW.out.mono ?_); rintro e w1 ⟨p, rfl, hp, hi, hb⟩; have HP := Aside0.mk hp; have B1 := Aside0.mk hb; have E1 := Aside0.mk (show Ear w1 w1 p (.slice none 0 0) (after R0 (l.take 0)) (.slice none 0 0) ((hear R0 (l.take 0)).map strOfNums) from ⟨Fr.refl _ _, fun k hk => by simp [Value.ownBlock] at hk, by simpa [after] using hi, by simpa [hear] using Own.nil Kd.string 9 w1.heap.size w1⟩); clear hp hi hb NW))
  go_loopg [7, 9, 10, 11] (n + 1) (fun kq v7 v9 v10 v11 w' => ∃ (i : Nat) (v : Value), v9 = .int .i64 i ∧ i ≤ n ∧ kq = n + 1 - i ∧ Aside0 (Ear w1 w' p v (after R0 (l.take i)) v7 ((hear R0 (l.take i)).map strOfNums)))
  case atStart => exact ⟨0, _, rfl, by omega, by omega, E1⟩
  case round =>
    clear E1
    obtain ⟨i, v, rfl, hi, hkq, E2⟩ := hrel
    have HB := Aside0.mk (E2.out.below B1.out B1.out.size HP.out)
    by_cases hlt : i < n
    · obtain ⟨ad, hA⟩ := HR.out.some_at i hlt
      subst hA
      have hx := HR.out.cell_int HB.out i hlt
      have hil : i < l.length := by have := HN.out; omega
      have hcb := HL.out _ (rd_mem l i hil)
      have KK := Aside0.mk (after_ok (l.take i) K0.out (fun x hx => HL.out x (List.mem_of_mem_take hx)))
      have PU := push_ok p v (after R0 (l.take i)) (rd l i) KK.out hcb.1 hcb.2 wr E2.out.is
      have AS := after_s R0 l i hil
      have HS := hear_s R0 l i hil
      have HLN := Aside0.mk (show ((hear R0 (l.take i)).map strOfNums).length ≤ i by rw [List.length_map]; have := hear_len (l.take i) R0; rw [List.length_take] at this; omega)
      rw [← AS] at PU
      obtain ⟨kk, bb, hkb⟩ : ∃ kk bb, (after R0 (l.take i)).out (rd l i) = (kk, bb) := ⟨_, _, rfl⟩
      rw [hkb] at PU HS
      have HS := Aside0.mk HS
      have PU := Aside0.mk PU
      clear AS hkb hcb
      generalize rd l i = x at *
      by_cases hk1 : kk = 1
      · subst hk1
        go_wp2_with (first
          | (go_at_call 17; (with_reducible refine PU.out.mono ?_); rintro e w2 ⟨u, v2, rfl, ho, hi2, hn2, hf2⟩; obtain ⟨A2, c2, rfl, hc2⟩ := ho.slice; have CV := conv22 A2 _ c2 bb w2 ho.rds; have E3 := Aside0.mk (E2.out.push hi2 hn2 hf2); clear ho hi2 hn2 hf2)
          | (at_builtin; refine app_str (.tmp 32) (.tmp 35) rfl rfl rfl rfl E3.out.out E3.out.fr.size (by have := HLN.out; omega) ?_; intro v4 w4 ho hf; obtain ⟨A4, c4, rfl, hc4⟩ := ho.sliceN (n := (hear R0 (l.take i)).length + 1) (by simp); have E4 := Aside0.mk (E3.out.app hf ho); clear ho hf))
        go_roundg (n - i)
        case measure => omega
        case rel => exact ⟨i + 1, v2, by go_num, by omega, by omega, ⟨by have := E4.out; rw [HS.out]; simp only [if_true, List.map_append, List.map_cons, List.map_nil]; exact this⟩⟩
      · have b1 : (kk == 1) = false := beq_eq_false_iff_ne.mpr hk1
        have HK := Aside0.mk hk1
        clear hk1
        go_wp2_with (first
          | (go_at_call 17; (with_reducible refine PU.out.mono ?_); rintro e w2 ⟨u, v2, rfl, ho, hi2, hn2, hf2⟩; obtain ⟨A2, c2, rfl, hc2⟩ := ho.slice; have E3 := Aside0.mk (E2.out.push hi2 hn2 hf2); clear ho hi2 hn2 hf2))
        go_roundg (n - i)
        case measure => omega
        case rel => exact ⟨i + 1, v2, by go_num, by omega, by omega, ⟨by have := E3.out; rw [HS.out, if_neg HK.out, List.append_nil]; exact this⟩⟩
    · have hi2 : i = n := by omega
      subst hi2
      have E3 := Aside0.mk (show Ear w1 wr p v (after R0 l) _ ((hear R0 l).map strOfNums) by have := E2.out; rwa [List.take_of_length_le (by have := HN.out; omega)] at this)
      have HLE : Aside0 (((hear R0 l).map strOfNums).length = (hear R0 l).length) := ⟨List.length_map ..⟩
      obtain ⟨A1, c1, hv, hc1⟩ := E3.out.out.sliceN HLE.out
      subst hv
      go_wp2_with fail
      first | go_ret | go_ret2 | ((try simp only [Exit.inBlock, Exit.then]); refine bodyPost_ret (results_tmp3 rfl _ _ _) rfl ?_) | go_end0 | refine bodyPost_ret0 rfl rfl ?_
      exact ⟨A1, c1, rfl, E3.out.out.lower B1.out.size, HB.out⟩

end Go.Proofs.Ytlcemeligolabaa.FmG
