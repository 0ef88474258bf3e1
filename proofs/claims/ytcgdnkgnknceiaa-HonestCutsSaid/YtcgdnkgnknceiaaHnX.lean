/- Contract of the reference's Cut. -/
import Derived.Test.YtcgdnkgnknceiaaHnW
namespace Go.Proofs.Ytcgdnkgnknceiaa.HnX
open Go.RowKit Go.Proofs.YtcgdnkgnknceiaaW.PrintWords Go.Proofs.YtcgdnkgnknceiaaW.PrintLast Go.Proofs.YtcgdnkgnknceiaaW.PrintMore Go.Proofs.Ytcgdnkgnknceiaa.K Go.Proofs.Ytcgdnkgnknceiaa.OpenC Go.Proofs.Ytcgdnkgnknceiaa.OpenD Go.Proofs.Ytcgdnkgnknceiaa.HnA Go.Proofs.Ytcgdnkgnknceiaa.HnB Go.Proofs.Ytcgdnkgnknceiaa.HnC Go.Proofs.Ytcgdnkgnknceiaa.HnD Go.Proofs.Ytcgdnkgnknceiaa.HnV Go.Proofs.Ytcgdnkgnknceiaa.HnW
set_option linter.unusedVariables false
set_option linter.unusedSimpArgs false
attribute [local go_sem] max2_int min2_int max_two min_two

set_option maxHeartbeats 8000000 in
set_option maxRecDepth 100000 in
theorem rcut_ok (A : Option Addr) (n c : Nat) (z : List (Int × Int × List Int)) (at_ : Int) (w : World) (hr : IsEvs w A n c z) (hn : n ≤ 100) :
    Calls Try.prog 12 #[.slice A n c, .int .i64 at_] w fun e w' => ∃ A1 c1, e = .returned (.slice A1 (cutP at_ z).length c1) ∧ Grid3 w' A1 (cutP at_ z).length c1 (cutP at_ z) ∧ Below w.heap.size w w' := by
  have R1 := Aside0.mk hr
  have HN := Aside0.mk hr.len
  have hcn := hr.cap
  clear hr
  go_enter Try.func12, Try.ntmps12
  go_wp2
  have C0 := Aside0.mk (cut_start w w (Below.refl _ _))
  go_loopg [5, 6] (n + 1) (fun kq v5 v6 w' => ∃ (i : Nat) (hs : List (Option Addr × Nat × Nat)) (hl : Option Addr × Nat × Nat) (Bm : Nat) (hsl : List (Option Addr × Nat × Nat)), v6 = .int .i64 i ∧ i ≤ n ∧ kq = n + 1 - i ∧ Aside0 (CutD w w' v5 (cutF at_ (z.take i)).1 (cutF at_ (z.take i)).2 hs hl Bm hsl))
  case atStart => exact ⟨0, [], (none, 0, 0), _, [], rfl, by omega, by omega, C0⟩
  case round =>
    clear C0
    obtain ⟨i, hs, hl, Bm, hsl, rfl, hi, hkq, CD⟩ := hrel
    have LEN := Aside0.mk (show (cutF at_ (z.take i)).1.length + (cutF at_ (z.take i)).2.length ≤ i by have := cutF_len at_ (z.take i) ([], []); rw [List.length_take] at this; simp only [List.length_nil, Nat.zero_add] at this; unfold cutF; omega)
    obtain ⟨nh, hnh⟩ : ∃ nh, nh = hs.length := ⟨_, rfl⟩
    have hnh2 : nh ≤ 100 := by rw [hnh, CD.out.len]; have := LEN.out; omega
    have hhl2 : hsl.length ≤ 100 := by rw [CD.out.lenl]; have := LEN.out; omega
    obtain ⟨Ao, co, hvo, hco⟩ := CD.out.out.sliceN (n := nh + 1) (by rw [hnh]; simp)
    subst hvo
    have NH := Aside0.mk hnh
    have hnn : ((nh : Nat) : Int) < ((nh : Nat) : Int) + 1 := by omega
    clear hnh
    by_cases hlt : i < n
    · obtain ⟨⟨qa, qi, qb⟩, hq⟩ : ∃ q, z[i]? = some q := ⟨z[i]'(by have := HN.out; omega), by simp⟩
      obtain ⟨ad, hA, hev⟩ := R1.out.at_ i _ hq
      cases hA
      have TS := Aside0.mk (take_sg z i _ hq)
      have EV0 := hev
      have EV := hev.below CD.out.bl
      obtain ⟨_, _, _, ⟨V0, k30, hV0⟩, hsz⟩ := EV0
      obtain ⟨⟨st, k0⟩, k1, k2, ⟨V, k3, hV⟩, _⟩ := EV
      have hVV : V0 = V := by
        have := (CD.out.bl.cell (World.block_lt_of_cell? w _ k30)).trans k30
        rw [k3] at this
        cases this
        rfl
      subst hVV
      obtain ⟨⟨Ab, nb, cb, rfl, rb, mb⟩, ob⟩ := hV
      have hnb : nb ≤ 140737488351232 := by rw [rb.len]; exact hsz
      rw [← Deep.add_add] at k1 k2 k3
      have l1 : wr.cell? ⟨(ad.add (i * 4)).block, (ad.add (i * 4)).off + 1, none⟩ = some (.int .i64 qa) := k1
      have l2 : wr.cell? ⟨(ad.add (i * 4)).block, (ad.add (i * 4)).off + 2, none⟩ = some (.int .i64 qi) := k2
      have l3 : wr.cell? ⟨(ad.add (i * 4)).block, (ad.add (i * 4)).off + 3, none⟩ = some (.slice Ab nb cb) := k3
      have HV := Aside0.mk hV0
      clear hq hev k1 k2 k3 rb ob k30 hV0 hsz k0
      by_cases ha : qa = at_
      · have ba : (qa == at_) = true := beq_iff_eq.mpr ha
        by_cases h0 : qi = 0
        · subst h0
          have GN : Aside0 (cutF at_ (z.take (i + 1)) = ((cutF at_ (z.take i)).1, (cutF at_ (z.take i)).2 ++ [qb])) := ⟨by rw [TS.out, cutF_snoc, cutStep, if_neg (by simpa using ha), if_pos rfl]⟩
          obtain ⟨Al, nl, cl⟩ := hl
          have hnl : hsl.length = nl := CD.out.row.rds.len.symm
          obtain ⟨go, hAo, hgr⟩ := Own.elem (enc := encH) (h1 := fun _ => rfl) (none, 0, 0) CD.out.out nh (by omega)
          clear hgr
          subst hAo
          have HC := Aside0.mk (fun w2 (hb : Below wr.heap.size wr w2) => (show w2.cell? ⟨go, nh, none⟩ = some (.slice Al nl cl) by
            obtain ⟨g', hA', _, _, hc, _⟩ := Own.elem (enc := encH) (h1 := fun _ => rfl) (none, 0, 0) (CD.out.out.below hb) nh (by omega)
            cases hA'
            rw [hc, NH.out]
            simp [rdOf, List.getD_eq_getElem?_getD]))
          have BD := Aside0.mk (below_drew (Below.refl wr.heap.size wr))
          have CE := Aside0.mk (CD.out.below BD.out)
          have YO := Aside0.mk (octS_old HV.out rfl CE.out.bl)
          have hcell := HC.out wr (Below.refl _ _)
          have ncell : ∀ o, (wr.alloc o).cell? ⟨go, nh, none⟩ = some (.slice Al nl cl) := fun o => HC.out _ (below_alloc (Below.refl _ _) o)
          have ncell2 : ∀ o, (wr.drew.alloc o).cell? ⟨go, nh, none⟩ = some (.slice Al nl cl) := fun o => HC.out _ (below_alloc BD.out o)
          have hnl2 : nl ≤ 100 := by omega
          have ewh : IntKind.i64.wrap ((nh : Nat) : Int) = ((nh : Nat) : Int) := by rw [i64_w]; unfold wrap64; omega
          clear ha
          go_wp2_with fail
          go_region_law (first
            | (refine step_h26 wr.drew (.tmp 43) (.tmp 49) (by rfl) (by rfl) (by rfl) (by rfl) (by rfl) CE.out.row CE.out.b1 (by omega) ?_; intro v7 w7 ho7 hf7; obtain ⟨A7, c7, rfl, _⟩ := ho7.sliceN (n := nl + 1) (by simp [hnl]); obtain ⟨hc7, hz7, D7⟩ := CE.out.store (hl' := (A7, nl + 1, c7)) ho7 hf7 YO.out rfl (by rw [NH.out]); rw [← NH.out] at hc7 hz7 D7; have D7 := Aside0.mk D7; clear ho7 hf7))
          all_goals
            go_wp2_with fail
            go_roundg (n - i)
            case measure => omega
            case rel => exact ⟨i + 1, hs, _, Bm, _, by go_num, by omega, by omega, ⟨by rw [GN.out]; exact D7.out⟩⟩
        · have bi : (qi == 0) = false := beq_eq_false_iff_ne.mpr h0
          by_cases h13 : qi = 1 ∨ qi = 3
          · have GN : Aside0 (cutF at_ (z.take (i + 1)) = ((cutF at_ (z.take i)).1 ++ [(cutF at_ (z.take i)).2], [])) := ⟨by rw [TS.out, cutF_snoc, cutStep, if_neg (by simpa using ha), if_neg (by simpa using h0), if_pos (by simpa using h13)]⟩
            have hlast : Aside0 ((cutF at_ (z.take i)).2.length ≤ 9223372036854775807) := ⟨by have := LEN.out; omega⟩
            have hlen : ((hs ++ [hl]).length + 1) * 24 ≤ 140737488355328 := by rw [List.length_append, ← NH.out]; simp; omega
            clear ha h0
            rcases h13 with h | h
            all_goals
              subst h
              go_wp2_with (first | (at_builtin; refine app_nil (.tmp 29) (.tmp 30) rfl rfl rfl (by first | rfl | simp [Act.eval, World.size_alloc]) CD.out.out CD.out.bl.size hlen ?_; intro v7 w7 ho7 hf7; obtain ⟨A7, c7, rfl, _⟩ := ho7.sliceN (n := nh + 2) (by simp [NH.out]); have D7 := Aside0.mk (CD.out.new hlast.out ho7 hf7); clear ho7 hf7))
              go_roundg (n - i)
              case measure => omega
              case rel => exact ⟨i + 1, _, _, _, _, by go_num, by omega, by omega, ⟨by rw [GN.out]; exact D7.out⟩⟩
          · have b1 : (qi == 1) = false := beq_eq_false_iff_ne.mpr (fun h => h13 (Or.inl h))
            have b3 : (qi == 3) = false := beq_eq_false_iff_ne.mpr (fun h => h13 (Or.inr h))
            have GN : Aside0 (cutF at_ (z.take (i + 1)) = cutF at_ (z.take i)) := ⟨by rw [TS.out, cutF_snoc, cutStep, if_neg (by simpa using ha), if_neg (by simpa using h0), if_neg (by simpa using h13)]⟩
            clear ha h0 h13
            go_wp2_with fail
            go_roundg (n - i)
            case measure => omega
            case rel => exact ⟨i + 1, hs, hl, Bm, hsl, by go_num, by omega, by omega, ⟨by rw [GN.out]; exact CD.out⟩⟩
      · have ba : (qa == at_) = false := beq_eq_false_iff_ne.mpr ha
        have GN : Aside0 (cutF at_ (z.take (i + 1)) = cutF at_ (z.take i)) := ⟨by rw [TS.out, cutF_snoc, cutStep, if_pos (by simpa using ha)]⟩
        clear ha
        go_wp2_with fail
        go_roundg (n - i)
        case measure => omega
        case rel => exact ⟨i + 1, hs, hl, Bm, hsl, by go_num, by omega, by omega, ⟨by rw [GN.out]; exact CD.out⟩⟩
    · obtain rfl : i = n := by omega
      rw [List.take_of_length_le (by have := HN.out; omega)] at CD LEN
      have PL : Aside0 ((cutP at_ z).length = nh + 1) := ⟨by unfold cutP; rw [List.length_append, ← CD.out.len, ← NH.out]; rfl⟩
      have G := Aside0.mk (show Grid3 wr Ao (nh + 1) co (cutP at_ z) from CD.out.grid (by have := LEN.out; omega) (by omega))
      have BL := Aside0.mk CD.out.bl
      clear CD
      go_wp2_with fail
      first | go_ret | go_ret2 | ((try simp only [Exit.inBlock, Exit.then]); refine bodyPost_ret (results_tmp3 rfl _ _ _) rfl ?_) | go_end0
      exact ⟨Ao, co, by rw [PL.out]; rfl, by rw [PL.out]; exact G.out, BL.out⟩

end Go.Proofs.Ytcgdnkgnknceiaa.HnX
