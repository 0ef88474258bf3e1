/- Contract of Cut. -/
import Derived.Test.YtcgdnkgnknceiaaHnV
import Derived.Deep.RegionLaw
namespace Go.Proofs.Ytcgdnkgnknceiaa.HnW
open Go.RowKit Go.Proofs.YtcgdnkgnknceiaaW.PrintWords Go.Proofs.YtcgdnkgnknceiaaW.PrintLast Go.Proofs.YtcgdnkgnknceiaaW.PrintMore Go.Proofs.Ytcgdnkgnknceiaa.K Go.Proofs.Ytcgdnkgnknceiaa.OpenC Go.Proofs.Ytcgdnkgnknceiaa.OpenD Go.Proofs.Ytcgdnkgnknceiaa.HnA Go.Proofs.Ytcgdnkgnknceiaa.HnB Go.Proofs.Ytcgdnkgnknceiaa.HnC Go.Proofs.Ytcgdnkgnknceiaa.HnD Go.Proofs.Ytcgdnkgnknceiaa.HnV
set_option linter.unusedVariables false
set_option linter.unusedSimpArgs false
attribute [local go_sem] max2_int min2_int max_two min_two

theorem info22 : (Try.prog.info? 22).map (fun i => (i.zero, i.size, i.bytes)) = some (some (.slice none 0 0), 1, 24) := by kernel_rfl
section
variable {ops : Array Oper} {rest : List Oper} {o : Oper} {a : Act} {Q : Exit → Act → World → Prop} {Kc : Act → World → Prop}
theorem app_nil {W : World} {B : Nat} {v : Value} {hs : List (Option Addr × Nat × Nat)}
    (s x : Operand) (hgd : o.guard = none) (ho : o.op = .call { callee := .builtin .append, args := #[s, x], argTypes := #[30, 30] })
    (hs' : a.eval s = v) (hx : a.eval x = .slice (some ⟨W.heap.size, 0, none⟩) 1 1)
    (HO : Own HK 22 B W v hs) (hB : B ≤ W.heap.size) (hl : (hs.length + 1) * 24 ≤ 140737488355328)
    (h : ∀ v1 w1, Own HK 22 B w1 v1 (hs ++ [(none, 0, 0)]) → Fr (fun k => some k = v.ownBlock) W w1 → wpList Try.prog ops Q rest (a.put o.dst v1) w1) :
    wpList Try.prog ops Q (o :: rest) a (W.alloc (.cells #[.slice none 0 0] 22)) := by
  refine Kd.R_append HK (w0 := W) B hgd s x 30 22 (.slice none 0 0) 24 ho Try.underlying30 info22 rfl Nat.zero_lt_one (by decide) v hs (none, 0, 0) [.slice none 0 0] (fun _ => True) (fun _ => False) hs' hx rfl (fun _ h => h.elim) (fun _ _ => trivial) HO.out ⟨rfl, rfl, rfl, Nat.le_refl _, fun _ _ => rfl⟩ hB hl ?_
  intro v1 w1 h1 h2 h3 h4
  exact h v1 w1 ⟨h1⟩ ⟨h3.os, h3.tape, h3.output, h3.size, fun i hi hne => h3.block i hi hne⟩
theorem step_h26 {W' : World} (W : World) {B : Nat} {v : Value} {hs : List (Option Addr × Nat × Nat)} {A : Option Addr} {n c : Nat} (s x : Operand) (hw : Region.wanted o (yielded ops a.tmps) = true)
    (ho : o.op = .call { callee := .builtin .append, args := #[s, x], argTypes := #[22, 22] })
    (he : W.alloc (.cells #[.slice A n c] 26) = W') (hs' : a.eval s = v) (hx : a.eval x = .slice (some ⟨W.heap.size, 0, none⟩) 1 1)
    (HO : Own HK 26 B W v hs) (hB : B ≤ W.heap.size) (hl : (hs.length + 1) * 24 ≤ 140737488355328)
    (h : ∀ v1 w1, Own HK 26 B w1 v1 (hs ++ [(A, n, c)]) → Fr (fun k => some k = v.ownBlock) W w1 → Kc (a.put o.dst v1) w1) :
    if Region.wanted o (yielded ops a.tmps) = true then Oper.wp Try.prog o a W' Kc Q else Kc (a.put o.dst undef) W' := by
  subst he
  refine Kd.R_append_step HK (w0 := W) B hw s x 22 26 (.slice none 0 0) 24 ho Try.underlying22 info26 rfl (by decide) (by decide) v hs (A, n, c) [.slice A n c] (fun _ => True) (fun _ => False) hs' hx rfl (fun _ h => h.elim) (fun _ _ => trivial) HO.out ⟨rfl, rfl, rfl, Nat.le_refl _, fun _ _ => rfl⟩ hB hl ?_
  intro v1 w1 h1 h2 h3 _
  exact h v1 w1 ⟨h1⟩ ⟨h3.os, h3.tape, h3.output, h3.size, fun i hi hne => h3.block i hi hne⟩
end
theorem cut_start (w w1 : World) (hb : Below w.heap.size w w1) : CutD w (w1.alloc (.cells #[.slice none 0 0] 22)) (.slice (some ⟨w1.heap.size, 0, none⟩) 1 1) [] [] [] (none, 0, 0) w.heap.size [] := by
  refine ⟨?_, rfl, fun i h x e1 => by simp at e1, Own.nil _ _ _ _, rfl, fun j e y e1 => by simp at e1, Nat.le_refl _, Nat.le_trans hb.size (below_alloc (Below.refl _ _) _).size, below_alloc hb _⟩
  exact lit_own (enc := encH) (h1 := fun _ => rfl) 22 w.heap.size w1 [(none, 0, 0)] hb.size (by simp)
set_option maxHeartbeats 8000000 in
set_option maxRecDepth 100000 in
theorem cut_ok (A : Option Addr) (n c : Nat) (z : List (Int × Int × List Int)) (at_ : Int) (w : World) (hr : IsEvs w A n c z) (hn : n ≤ 100) :
    Calls Try.prog 11 #[.slice A n c, .int .i64 at_] w fun e w' => ∃ A1 c1, e = .returned (.slice A1 (cutP at_ z).length c1) ∧ Grid3 w' A1 (cutP at_ z).length c1 (cutP at_ z) ∧ Below w.heap.size w w' := by
  have R1 := Aside0.mk hr
  have HN := Aside0.mk hr.len
  have hcn := hr.cap
  have mk := mk30 w
  clear hr
  go_enter Try.func11, Try.ntmps11
  go_wp2
  have C0 := Aside0.mk (cut_start w w (Below.refl _ _))
  go_loopg [5, 7, 8, 12] (n + 1) (fun kq v5 v7 v8 v12 w' => ∃ (i : Nat) (hs : List (Option Addr × Nat × Nat)) (hl : Option Addr × Nat × Nat) (Bm : Nat) (hsl : List (Option Addr × Nat × Nat)), v12 = .int .i64 i ∧ i ≤ n ∧ kq = n + 1 - i ∧ Aside0 (CutD w w' v5 (cutF at_ (z.take i)).1 (cutF at_ (z.take i)).2 hs hl Bm hsl))
  case atStart => exact ⟨0, [], (none, 0, 0), _, [], rfl, by omega, by omega, C0⟩
  case round =>
    clear C0
    obtain ⟨i, hs, hl, Bm, hsl, rfl, hi, hkq, CD⟩ := hrel
    have LEN := Aside0.mk (show (cutF at_ (z.take i)).1.length + (cutF at_ (z.take i)).2.length ≤ i by have := cutF_len at_ (z.take i) ([], []); rw [List.length_take] at this; simp only [List.length_nil, Nat.zero_add] at this; unfold cutF; omega)
    obtain ⟨nh, hnh⟩ : ∃ nh, nh = hs.length := ⟨_, rfl⟩
    have hnh2 : nh ≤ 100 := by rw [hnh, CD.out.len]; have := LEN.out; omega
    have hhl2 : hsl.length ≤ 100 := by rw [CD.out.lenl]; have := LEN.out; omega
    obtain ⟨Ao, co, hvo, hco⟩ := CD.out.out.sliceN (n := nh + 1) (by rw [hnh]; simp)
    subst hvo
    have NH := Aside0.mk hnh
    have hnn : ((nh : Nat) : Int) < ((nh : Nat) : Int) + 1 := by omega
    clear hnh
    by_cases hlt : i < n
    · obtain ⟨⟨qa, qi, qb⟩, hq⟩ : ∃ q, z[i]? = some q := ⟨z[i]'(by have := HN.out; omega), by simp⟩
      obtain ⟨ad, hA, hev⟩ := R1.out.at_ i _ hq
      cases hA
      have TS := Aside0.mk (take_sg z i _ hq)
      have EV := hev.below CD.out.bl
      obtain ⟨⟨st, k0⟩, k1, k2, ⟨V, k3, hV⟩, hsz⟩ := EV
      obtain ⟨⟨Ab, nb, cb, rfl, rb, mb⟩, ob⟩ := hV
      have hnb : nb ≤ 140737488351232 := by rw [rb.len]; exact hsz
      clear hsz
      rw [← Deep.add_add] at k1 k2 k3
      have l1 : wr.cell? ⟨(ad.add (i * 4)).block, (ad.add (i * 4)).off + 1, none⟩ = some (.int .i64 qa) := k1
      have l2 : wr.cell? ⟨(ad.add (i * 4)).block, (ad.add (i * 4)).off + 2, none⟩ = some (.int .i64 qi) := k2
      have l3 : wr.cell? ⟨(ad.add (i * 4)).block, (ad.add (i * 4)).off + 3, none⟩ = some (.slice Ab nb cb) := k3
      have RB := Aside0.mk rb
      have OB := Aside0.mk (show oct qb from ob)
      have BE := Aside0.mk (below_alloc (Below.refl wr.heap.size wr) (.cells #[.int .i64 st, .int .i64 qa, .int .i64 qi, .slice Ab nb cb] 39))
      have CE := Aside0.mk (CD.out.below BE.out)
      clear hq hev k1 k2 k3 rb ob
      by_cases ha : qa = at_
      · have ba : (qa == at_) = true := beq_iff_eq.mpr ha
        by_cases h0 : qi = 0
        · subst h0
          have GN : Aside0 (cutF at_ (z.take (i + 1)) = ((cutF at_ (z.take i)).1, (cutF at_ (z.take i)).2 ++ [qb])) := ⟨by rw [TS.out, cutF_snoc, cutStep, if_neg (by simpa using ha), if_pos rfl]⟩
          obtain ⟨Al, nl, cl⟩ := hl
          have hnl : hsl.length = nl := CE.out.row.rds.len.symm
          obtain ⟨go, hAo, hgr⟩ := Own.elem (enc := encH) (h1 := fun _ => rfl) (none, 0, 0) CE.out.out nh (by omega)
          clear hgr
          subst hAo
          have HC := Aside0.mk (fun w2 (hb : Below (wr.alloc (.cells #[.int .i64 st, .int .i64 qa, .int .i64 0, .slice Ab nb cb] 39)).heap.size (wr.alloc (.cells #[.int .i64 st, .int .i64 qa, .int .i64 0, .slice Ab nb cb] 39)) w2) => (show w2.cell? ⟨go, nh, none⟩ = some (.slice Al nl cl) by
            obtain ⟨g', hA', _, _, hc, _⟩ := Own.elem (enc := encH) (h1 := fun _ => rfl) (none, 0, 0) (CE.out.out.below hb) nh (by omega)
            cases hA'
            rw [hc, NH.out]
            simp [rdOf, List.getD_eq_getElem?_getD]))
          have FB := Aside0.mk (fun w2 (hb : Below (wr.alloc (.cells #[.int .i64 st, .int .i64 qa, .int .i64 0, .slice Ab nb cb] 39)).heap.size (wr.alloc (.cells #[.int .i64 st, .int .i64 qa, .int .i64 0, .slice Ab nb cb] 39)) w2) => ((Ob.new wr 39 [.int .i64 st, .int .i64 qa, .int .i64 0, .slice Ab nb cb]).below hb).at_ 3 (v := .slice Ab nb cb) rfl)
          have RB2 := Aside0.mk (RB.out.below BE.out)
          clear ha
          go_wp2_with fail
          generalize hgb : wr.heap.size = gb at FB BE ⊢
          generalize hwe : wr.alloc (.cells #[.int .i64 st, .int .i64 qa, .int .i64 0, .slice Ab nb cb] 39) = we at *
          clear hgb hwe k0 l1 l2 l3 ba
          have hcell := HC.out we (Below.refl _ _)
          have hfb := FB.out we (Below.refl _ _)
          have hnl2 : nl ≤ 100 := by omega
          go_region_law (first
            | (go_simp; go_at_call 17; (with_reducible refine (clone_ok Ab nb cb qb we.drew (RB2.out.below (below_drew (Below.refl _ _))) (by omega)).mono ?_); rintro e w6 ⟨v6, rfl, ho6, hb6⟩; obtain ⟨A6, c6, rfl, _⟩ := ho6.slice; have BB6 := Aside0.mk (below_step (below_drew (Below.refl we.heap.size we)) hb6); have C6 := Aside0.mk (CE.out.below BB6.out); have Y6 := Aside0.mk (octS_own (W0 := w.heap.size) ho6 OB.out (by have := ho6.rds.row.2.1; exact this)); have hcell6 := HC.out w6 BB6.out; have nc6 : ∀ o, (w6.alloc o).cell? ⟨go, nh, none⟩ = some (.slice Al nl cl) := (fun o => HC.out _ (below_alloc BB6.out o)); clear ho6 hb6)
            | (refine step_h26 w6 (.tmp 33) (.tmp 37) (by rfl) (by rfl) (by rfl) (by rfl) (by rfl) C6.out.row C6.out.b1 (by omega) ?_; intro v7 w7 ho7 hf7; obtain ⟨A7, c7, rfl, _⟩ := ho7.sliceN (n := nl + 1) (by simp [hnl]); obtain ⟨hc7, hz7, D7⟩ := C6.out.store (hl' := (A7, nl + 1, c7)) ho7 hf7 Y6.out rfl (by rw [NH.out]); rw [← NH.out] at hc7 hz7 D7; have D7 := Aside0.mk D7; clear ho7 hf7))
          all_goals
            go_wp2_with fail
            go_roundg (n - i)
            case measure => omega
            case rel => exact ⟨i + 1, hs, _, Bm, _, by go_num, by omega, by omega, ⟨by rw [GN.out]; exact D7.out⟩⟩
        · have bi : (qi == 0) = false := beq_eq_false_iff_ne.mpr h0
          by_cases h13 : qi = 1 ∨ qi = 3
          · have GN : Aside0 (cutF at_ (z.take (i + 1)) = ((cutF at_ (z.take i)).1 ++ [(cutF at_ (z.take i)).2], [])) := ⟨by rw [TS.out, cutF_snoc, cutStep, if_neg (by simpa using ha), if_neg (by simpa using h0), if_pos (by simpa using h13)]⟩
            have hlast : Aside0 ((cutF at_ (z.take i)).2.length ≤ 9223372036854775807) := ⟨by have := LEN.out; omega⟩
            have hlen : ((hs ++ [hl]).length + 1) * 24 ≤ 140737488355328 := by rw [List.length_append, ← NH.out]; simp; omega
            clear ha h0
            rcases h13 with h | h
            all_goals
              subst h
              go_wp2_with (first | (at_builtin; refine app_nil (.tmp 49) (.tmp 50) rfl rfl rfl (by first | rfl | simp [Act.eval, World.size_alloc]) CE.out.out CE.out.bl.size hlen ?_; intro v7 w7 ho7 hf7; obtain ⟨A7, c7, rfl, _⟩ := ho7.sliceN (n := nh + 2) (by simp [NH.out]); have D7 := Aside0.mk (CE.out.new hlast.out ho7 hf7); clear ho7 hf7))
              go_roundg (n - i)
              case measure => omega
              case rel => exact ⟨i + 1, _, _, _, _, by go_num, by omega, by omega, ⟨by rw [GN.out]; exact D7.out⟩⟩
          · have b1 : (qi == 1) = false := beq_eq_false_iff_ne.mpr (fun h => h13 (Or.inl h))
            have b3 : (qi == 3) = false := beq_eq_false_iff_ne.mpr (fun h => h13 (Or.inr h))
            have GN : Aside0 (cutF at_ (z.take (i + 1)) = cutF at_ (z.take i)) := ⟨by rw [TS.out, cutF_snoc, cutStep, if_neg (by simpa using ha), if_neg (by simpa using h0), if_neg (by simpa using h13)]⟩
            clear ha h0 h13
            go_wp2_with fail
            go_roundg (n - i)
            case measure => omega
            case rel => exact ⟨i + 1, hs, hl, Bm, hsl, by go_num, by omega, by omega, ⟨by rw [GN.out]; exact CE.out⟩⟩
      · have ba : (qa == at_) = false := beq_eq_false_iff_ne.mpr ha
        have GN : Aside0 (cutF at_ (z.take (i + 1)) = cutF at_ (z.take i)) := ⟨by rw [TS.out, cutF_snoc, cutStep, if_pos (by simpa using ha)]⟩
        clear ha
        go_wp2_with fail
        go_roundg (n - i)
        case measure => omega
        case rel => exact ⟨i + 1, hs, hl, Bm, hsl, by go_num, by omega, by omega, ⟨by rw [GN.out]; exact CE.out⟩⟩
    · obtain rfl : i = n := by omega
      rw [List.take_of_length_le (by have := HN.out; omega)] at CD LEN
      have PL : Aside0 ((cutP at_ z).length = nh + 1) := ⟨by unfold cutP; rw [List.length_append, ← CD.out.len, ← NH.out]; rfl⟩
      have G := Aside0.mk (show Grid3 wr Ao (nh + 1) co (cutP at_ z) from CD.out.grid (by have := LEN.out; omega) (by omega))
      have BL := Aside0.mk CD.out.bl
      clear CD
      go_wp2_with fail
      first | go_ret | go_ret2 | ((try simp only [Exit.inBlock, Exit.then]); refine bodyPost_ret (results_tmp3 rfl _ _ _) rfl ?_) | go_end0
      exact ⟨Ao, co, by rw [PL.out]; rfl, by rw [PL.out]; exact G.out, BL.out⟩

end Go.Proofs.Ytcgdnkgnknceiaa.HnW
