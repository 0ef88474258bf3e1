/- The law of a frame's end: the walk. -/
import Derived.Test.YtlcemeligolabaaFmH
import Derived.Test.YtlcemeligolabaaFmE
namespace Go.Proofs.Ytlcemeligolabaa.FmEndsW
open Go.RowKit Go.Proofs.YtlcemeligolabaaW.PrintWords Go.Proofs.YtlcemeligolabaaW.PrintLast Go.Proofs.YtlcemeligolabaaW.PrintMore Go.Proofs.Ytlcemeligolabaa.K Go.Proofs.Ytlcemeligolabaa.FmP Go.Proofs.Ytlcemeligolabaa.FmA Go.Proofs.Ytlcemeligolabaa.FmB Go.Proofs.Ytlcemeligolabaa.FmC Go.Proofs.Ytlcemeligolabaa.FmF Go.Proofs.Ytlcemeligolabaa.FmG Go.Proofs.Ytlcemeligolabaa.FmH Go.Proofs.Ytlcemeligolabaa.FcP Go.Proofs.Ytlcemeligolabaa.FcA Go.Proofs.Ytlcemeligolabaa.FcB Go.Proofs.Ytlcemeligolabaa.FcC Go.Proofs.Ytlcemeligolabaa.FcR Go.Proofs.Ytlcemeligolabaa.FcD Go.Proofs.Ytlcemeligolabaa.FcE Go.Proofs.Ytlcemeligolabaa.FcF Go.Proofs.Ytlcemeligolabaa.OctPure Go.Proofs.Ytlcemeligolabaa.FmE
set_option linter.unusedVariables false
set_option linter.unusedSimpArgs false
attribute [local go_sem] max2_int min2_int max_two min_two

theorem mk24 (m : Nat) (hm : m ≤ 4096) (W : World) : (Instr.makeSlice 24 (.int .i64 (m : Int)) (.int .i64 (m : Int))).run Try.prog W = .ok (.slice (some ⟨W.heap.size, 0, none⟩) m m) (W.alloc (.cells (Array.replicate m (.int .u8 0)) 5)) := by
  have h := print_make_of (P := Try.prog) 24 5 (.int .u8 0) 1 Try.underlying24 rfl rfl (by decide) m (by omega) W
  have e : madeCells #[.int .u8 0] m = Array.replicate m (.int .u8 0) := by
    apply Array.ext
    · simp [madeCells]
    · intro i h1 h2
      simp [madeCells, Nat.mod_one]
  rwa [e] at h
theorem rds_zs (W : World) (n : Nat) (hn : n ≤ 50) : Rds (Kd.int .u8) (W.alloc (.cells (Array.replicate n (.int .u8 0)) 5)) (some ⟨W.heap.size, 0, none⟩) n n (zs n) := by
  have := rds_lit W 5 (0, 0) (zs n) n (by simp [zs]) (by omega)
  simpa [zs] using this
theorem zcall (n : Nat) (hn : n ≤ 50) (wide : Bool) (w W : World) (hb : Below w.heap.size w W) : Calls Try.prog 18 #[.slice (some ⟨W.heap.size, 0, none⟩) n n, .bool wide] (W.alloc (.cells (Array.replicate n (.int .u8 0)) 5)) fun e w' => ∃ v, e = .returned v ∧ Own (Kd.int .u8) 5 w.heap.size w' v (zsum n wide) ∧ Below w.heap.size w w' :=
  (rput_ok _ n n (zs n) wide _ (rds_zs W n hn) (zs_oct n) (by omega)).mono fun e w' ⟨v, he, ho, h⟩ => ⟨v, he, ho.lower (Nat.le_trans hb.size (alloc_le _ _)), below_step hb (below_step (below_al _ _) h)⟩
theorem ok_beg (M : Int) (wide : Bool) : Ok (beg wide (cut5 M + ((sizeT wide : Nat) : Int))) := (Ok.new M wide).push (c := 126) (by omega) (by omega)
theorem take_own {B q n c : Nat} {w : World} {A : Option Addr} {xs : List Int} (h : Own (Kd.int .u8) 5 B w (.slice A n c) xs) (hq : q ≤ xs.length) : Own (Kd.int .u8) 5 B w (.slice A q c) (xs.take q) := ⟨Kd.R_take h.out hq⟩
theorem ear_flag {B : Nat} {w w1 w' w2 : World} {p : Nat} {v : Value} {R : Re} {vo : Value} {acc : List ByteArray} (e : Ear w1 w' p v R vo acc) (hb : Below B w w1) (hB : B ≤ w1.heap.size) (hp : B ≤ p) (hf : Fr (Sp p v) w' w2) : Below B w w2 :=
  Fr.above (e.below hb hB hp) (Nat.le_trans hB e.fr.size) hf (fun i hi h => by
    rcases h with h | h
    · omega
    · have := e.nv i h
      omega)

set_option maxHeartbeats 8000000 in
set_option maxRecDepth 100000 in
theorem ends_0 (n : Nat) (wide : Bool) (h1 : 1 ≤ n) (h2 : n ≤ 50) (w : World) :
    Calls Try.prog 9 #[.int .i64 0, .int .i64 n, .bool wide] w fun e w' => e = .returned (.bool true) ∧ Below w.heap.size w w' := by
  have mk := fun W => mk24 n (by omega) W
  obtain ⟨q, hq⟩ : ∃ q, q = sizeT wide := ⟨_, rfl⟩
  obtain ⟨L0, hL0⟩ : ∃ L0, (zsum n wide).length = L0 := ⟨_, rfl⟩
  have hsz := sizeT_b wide
  have hL0q : L0 = n + q := by rw [← hL0, zsum_len, hq]
  have hq4 : q ≤ 4 := by omega
  have hL60 : L0 ≤ 60 := by omega
  have hL02 : 2 ≤ L0 := by omega
  have hLq : q ≤ L0 := by omega
  have ewL : IntKind.i64.wrap ((L0 : Int) - (n : Int)) = (q : Int) := by rw [i64_w]; unfold wrap64; omega
  obtain ⟨Bl, hBl⟩ : ∃ Bl : List Int, Bl = ((zsum n wide).take q) := ⟨_, rfl⟩
  have hbl : Bl.length = q := by rw [hBl]; exact (by rw [List.length_take, hL0]; omega)
  have EN : EndsR 0 wide 50 2 Bl := by rw [hBl]; rw [hq]; exact ends0 n wide
  have OB : octOk Bl := by rw [hBl]; exact fun x hx => zsum_oct n wide x (List.mem_of_mem_take hx)
  have hi1 : ¬ ((n : Nat) : Int) < 1 := by omega
  have hi2 : ¬ (50 : Int) < ((n : Nat) : Int) := by omega
  obtain ⟨R1, hR1⟩ : ∃ R1, R1 = beg wide (cut5 50 + ((sizeT wide : Nat) : Int)) := ⟨_, rfl⟩
  have K1 : Ok R1 := by rw [hR1]; exact ok_beg _ _
  unfold EndsR at EN
  rw [← hR1] at EN
  have HR1 := Aside0.mk hR1
  have HL0 := Aside0.mk hL0
  have HN50 := Aside0.mk h2
  have HBL := Aside0.mk hbl
  have HBE := Aside0.mk hBl
  have EN := Aside0.mk EN
  have OB := Aside0.mk OB
  have K1 := Aside0.mk K1

  clear hq hL0 hL0q hR1 hbl hBl hsz
  go_enter Try.func9, Try.ntmps9
  go_wp2_with (first
    | (go_at_call 10; (with_reducible refine (alive_ok _).mono ?_); rintro e w1 ⟨rfl, hb1⟩; have HB1 := Aside0.mk hb1; clear hb1)
    | (go_at_call 18; (with_reducible refine (zcall n HN50.out wide w w1 HB1.out).mono ?_); rintro e w2 ⟨v2, rfl, ho, hb⟩; obtain ⟨A2, c2, rfl, hc2⟩ := ho.sliceN HL0.out; have hqc : (q : Int) ≤ (c2 : Int) := (by omega); have RB := Aside0.mk ((take_own (q := q) ho (by have := HL0.out; omega)).rds); have B3 := Aside0.mk (hb); clear ho hb)
    | (go_at_call 16; (with_reducible refine (new_ok 50 wide w2).mono ?_); rintro e w5 ⟨p, rfl, hp, hi, hb⟩; have HP := Aside0.mk hp; have B5 := Aside0.mk hb; have I5 := Aside0.mk hi; clear hp hi hb)
    | (go_at_call 17; have hcall := push_flag p (.slice none 0 0) (newR 50 wide) (Ok.new _ _) w5 I5.out; rw [new_flag, new_none] at hcall; (with_reducible refine hcall.mono ?_); clear hcall; rintro e w6 ⟨u, rfl, ho, hi, hf⟩; obtain ⟨A6, c6, rfl, _⟩ := ho.slice; have E6 := Aside0.mk (show Ear w6 w6 p (.slice none 0 0) (after R1 (Bl.take 0)) (.slice none 0 0) [] from ⟨Fr.refl _ _, fun k hk => by simp [Value.ownBlock] at hk, by simpa [after, HR1.out] using hi, Own.nil Kd.string 9 w6.heap.size w6⟩); have B6 := Aside0.mk (Fr.above B5.out B5.out.size hf (fun i hi h => by rcases h with h | h; have := HP.out; omega; simp [Value.ownBlock] at h)); clear ho hi hf))
  have RB : Aside0 (Rds (Kd.int .u8) w2 _ q _ Bl) := ⟨by rw [HBE.out]; exact RB.out⟩
  go_loopg [12, 13, 14, 15] (q + 1) (fun kq v12 v13 v14 v15 w' => ∃ (i : Nat) (v : Value), v12 = .int .i64 i ∧ i ≤ q ∧ kq = q + 1 - i ∧ Aside0 (∀ j, j < i → Cl 0 Bl j) ∧ Aside0 (Ear w6 w' p v (after R1 (Bl.take i)) (.slice none 0 0) []))
  case atStart => exact ⟨0, _, rfl, by omega, by omega, ⟨fun j hj => by omega⟩, E6⟩
  case round =>
    clear E6
    obtain ⟨i, v, rfl, hi, hkq, CL, E2⟩ := hrel
    have HBW := Aside0.mk (E2.out.below B6.out B6.out.size HP.out)
    have hb := RB.out.below HBW.out
    have KK := Aside0.mk (after_ok (Bl.take i) K1.out (fun x hx => OB.out x (List.mem_of_mem_take hx)))
    by_cases hlt : i < q
    ·
      obtain ⟨ad, hA⟩ := hb.some_at i hlt
      cases hA
      have hx := hb.cell_int (Below.refl _ _) i hlt
      skip
      have HCB := Aside0.mk (OB.out _ (rd_mem Bl i (by have := HBL.out; omega)))
      obtain ⟨x, hxe⟩ : ∃ x, x = rd Bl i := ⟨_, rfl⟩
      rw [← hxe] at hx
      have HXE := Aside0.mk hxe.symm
      clear hxe hb
      by_cases h126 : x = 126
      · subst h126
        go_wp2_with fail
        first | go_ret | go_ret2 | ((try simp only [Exit.inBlock, Exit.then]); refine bodyPost_ret (results_tmp3 rfl _ _ _) rfl ?_) | go_end0 | refine bodyPost_ret0 rfl rfl ?_
        exact ⟨rfl, below_step B3.out HBW.out⟩
      have b126 : (x == 126) = false := beq_eq_false_iff_ne.mpr h126
      by_cases h125 : x = 125
      · subst h125
        go_wp2_with fail
        first | go_ret | go_ret2 | ((try simp only [Exit.inBlock, Exit.then]); refine bodyPost_ret (results_tmp3 rfl _ _ _) rfl ?_) | go_end0 | refine bodyPost_ret0 rfl rfl ?_
        exact ⟨rfl, below_step B3.out HBW.out⟩
      · have b125 : (x == 125) = false := beq_eq_false_iff_ne.mpr h125
        have AS := after_s R1 Bl i (by have := HBL.out; omega)
        have e0 : (after R1 (Bl.take i)).out (rd Bl i) = (0, []) := by unfold Re.out; rw [if_neg (by rw [HXE.out]; exact h126)]
        have PU := push_ok p v (after R1 (Bl.take i)) (rd Bl i) KK.out HCB.out.1 HCB.out.2 wr E2.out.is
        rw [← AS, e0, HXE.out] at PU
        have PU := Aside0.mk PU
        have CL2 : Aside0 (∀ j, j < i + 1 → Cl 0 Bl j) := ⟨fun j hj => by
          by_cases hji : j < i
          · exact CL.out j hji
          · obtain rfl : j = i := by omega
            exact ⟨by rw [HXE.out]; exact h126, fun h5 => absurd (HXE.out.symm.trans h5) h125⟩⟩
        clear AS e0
        go_wp2_with (first | (go_at_call 17; (with_reducible refine PU.out.mono ?_); rintro e w7 ⟨u, v2, rfl, ho, hi2, hn2, hf2⟩; obtain ⟨A7, c7, rfl, _⟩ := ho.slice; have E3 := Aside0.mk (E2.out.push hi2 hn2 hf2); clear ho hi2 hn2 hf2))
        go_roundg (q - i)
        case measure => omega
        case rel => exact ⟨i + 1, v2, by go_num, by omega, by omega, CL2, E3⟩
    · obtain rfl : i = q := by omega
      obtain ⟨bd, hb1, hb2⟩ := EN.out (fun j hj => CL.out j (by rw [HBL.out] at hj; exact hj))
      have hcall := push_flag p v (after R1 (Bl.take i)) KK.out wr E2.out.is
      rw [List.take_of_length_le (by have := HBL.out; omega)] at hcall
      rw [show (after R1 Bl).out 126 = (after R1 Bl).told from rfl, hb1] at hcall
      obtain ⟨mb, hmb⟩ : ∃ mb, bd.length = mb := ⟨_, rfl⟩
      rw [hmb] at hb2
      obtain rfl : mb = 0 := by have : ¬ 0 < mb := fun h => absurd (hb2.2 h) (by decide); omega
      have HMB := Aside0.mk hmb
      have HC := Aside0.mk hcall
      have EF : Aside0 (∀ wz, Fr (Sp p v) wr wz → Below w2.heap.size w2 wz) := ⟨fun wz hf => ear_flag E2.out B6.out B6.out.size HP.out hf⟩
      clear hb1 hb2 hmb hcall hb
      go_wp2_with (first | (go_at_call 17; (with_reducible refine HC.out.mono ?_); rintro e w8 ⟨u, rfl, ho, hi, hf⟩; obtain ⟨A8, c8, rfl, _⟩ := ho.sliceN HMB.out; have B8 := Aside0.mk (EF.out _ hf); clear ho hi hf))
      first | go_ret | go_ret2 | ((try simp only [Exit.inBlock, Exit.then]); refine bodyPost_ret (results_tmp3 rfl _ _ _) rfl ?_) | go_end0 | refine bodyPost_ret0 rfl rfl ?_
      exact ⟨rfl, below_step B3.out B8.out⟩

set_option maxHeartbeats 8000000 in
set_option maxRecDepth 100000 in
theorem ends_1 (n : Nat) (wide : Bool) (h1 : 1 ≤ n) (h2 : n ≤ 50) (w : World) :
    Calls Try.prog 9 #[.int .i64 1, .int .i64 n, .bool wide] w fun e w' => e = .returned (.bool true) ∧ Below w.heap.size w w' := by
  have mk := fun W => mk24 n (by omega) W
  obtain ⟨q, hq⟩ : ∃ q, q = sizeT wide := ⟨_, rfl⟩
  obtain ⟨L0, hL0⟩ : ∃ L0, (zsum n wide).length = L0 := ⟨_, rfl⟩
  have hsz := sizeT_b wide
  have hL0q : L0 = n + q := by rw [← hL0, zsum_len, hq]
  have hq4 : q ≤ 4 := by omega
  have hL60 : L0 ≤ 60 := by omega
  have hL02 : 2 ≤ L0 := by omega
  have hLq : q ≤ L0 := by omega
  have ewL : IntKind.i64.wrap ((L0 : Int) - (n : Int)) = (q : Int) := by rw [i64_w]; unfold wrap64; omega
  obtain ⟨L, hLL⟩ : ∃ L, L = L0 + 1 := ⟨_, rfl⟩
  obtain ⟨Bl, hBl⟩ : ∃ Bl : List Int, Bl = (zsum n wide ++ [1]) := ⟨_, rfl⟩
  have hbl : Bl.length = L := by rw [hBl]; exact (by rw [List.length_append, hL0]; exact hLL.symm)
  have EN : EndsR 1 wide ((n : Nat) : Int) 3 Bl := by rw [hBl]; exact ends1 n wide h1 h2
  have OB : octOk Bl := by rw [hBl]; exact octOk.snoc (zsum_oct n wide) (by omega) (by omega)
  have hi1 : ¬ ((n : Nat) : Int) < 1 := by omega
  have hi2 : ¬ (50 : Int) < ((n : Nat) : Int) := by omega
  obtain ⟨R1, hR1⟩ : ∃ R1, R1 = beg wide (cut5 ((n : Nat) : Int) + ((sizeT wide : Nat) : Int)) := ⟨_, rfl⟩
  have K1 : Ok R1 := by rw [hR1]; exact ok_beg _ _
  unfold EndsR at EN
  rw [← hR1] at EN
  have HR1 := Aside0.mk hR1
  have HL0 := Aside0.mk hL0
  have HN50 := Aside0.mk h2
  have HBL := Aside0.mk hbl
  have HBE := Aside0.mk hBl
  have EN := Aside0.mk EN
  have OB := Aside0.mk OB
  have K1 := Aside0.mk K1
  have HLL := Aside0.mk hLL
  have hL61 : L ≤ 61 := by omega
  have hL2 : 2 ≤ L := by omega
  clear hq hL0 hL0q hR1 hbl hBl hLL hsz
  go_enter Try.func9, Try.ntmps9
  go_wp2_with (first
    | (go_at_call 10; (with_reducible refine (alive_ok _).mono ?_); rintro e w1 ⟨rfl, hb1⟩; have HB1 := Aside0.mk hb1; clear hb1)
    | (go_at_call 18; (with_reducible refine (zcall n HN50.out wide w w1 HB1.out).mono ?_); rintro e w2 ⟨v2, rfl, ho, hb⟩; obtain ⟨A2, c2, rfl, hc2⟩ := ho.sliceN HL0.out; have P2 := Aside0.mk ho; have BB := Aside0.mk hb; clear ho hb)
    | (at_builtin; refine app_int Try.underlying24 info5 rfl (by decide) (.tmp 47) (.tmp 48) rfl rfl rfl rfl P2.out BB.out BB.out.size (by have := HL0.out; omega) ?_; intro v3 w3 ho hb _; obtain ⟨A3, c3, rfl, hc3⟩ := ho.sliceN (n := L) (by simp; have := HL0.out; have := HLL.out; omega); have RB := Aside0.mk (ho.rds); have B3 := Aside0.mk (hb); clear ho hb)
    | (go_at_call 16; (with_reducible refine (new_ok ((n : Nat) : Int) wide w3).mono ?_); rintro e w5 ⟨p, rfl, hp, hi, hb⟩; have HP := Aside0.mk hp; have B5 := Aside0.mk hb; have I5 := Aside0.mk hi; clear hp hi hb)
    | (go_at_call 17; have hcall := push_flag p (.slice none 0 0) (newR ((n : Nat) : Int) wide) (Ok.new _ _) w5 I5.out; rw [new_flag, new_none] at hcall; (with_reducible refine hcall.mono ?_); clear hcall; rintro e w6 ⟨u, rfl, ho, hi, hf⟩; obtain ⟨A6, c6, rfl, _⟩ := ho.slice; have E6 := Aside0.mk (show Ear w6 w6 p (.slice none 0 0) (after R1 (Bl.take 0)) (.slice none 0 0) [] from ⟨Fr.refl _ _, fun k hk => by simp [Value.ownBlock] at hk, by simpa [after, HR1.out] using hi, Own.nil Kd.string 9 w6.heap.size w6⟩); have B6 := Aside0.mk (Fr.above B5.out B5.out.size hf (fun i hi h => by rcases h with h | h; have := HP.out; omega; simp [Value.ownBlock] at h)); clear ho hi hf))
  have RB : Aside0 (Rds (Kd.int .u8) w3 _ L _ Bl) := ⟨by rw [HBE.out]; exact RB.out⟩
  go_loopg [12, 13, 14, 15] (L + 1) (fun kq v12 v13 v14 v15 w' => ∃ (i : Nat) (v : Value), v12 = .int .i64 i ∧ i ≤ L ∧ kq = L + 1 - i ∧ Aside0 (∀ j, j < i → Cl 1 Bl j) ∧ Aside0 (Ear w6 w' p v (after R1 (Bl.take i)) (.slice none 0 0) []))
  case atStart => exact ⟨0, _, rfl, by omega, by omega, ⟨fun j hj => by omega⟩, E6⟩
  case round =>
    clear E6
    obtain ⟨i, v, rfl, hi, hkq, CL, E2⟩ := hrel
    have HBW := Aside0.mk (E2.out.below B6.out B6.out.size HP.out)
    have hb := RB.out.below HBW.out
    have KK := Aside0.mk (after_ok (Bl.take i) K1.out (fun x hx => OB.out x (List.mem_of_mem_take hx)))
    by_cases hlt : i < L
    ·
      obtain ⟨ad, hA⟩ := hb.some_at i hlt
      cases hA
      have hx := hb.cell_int (Below.refl _ _) i hlt
      skip
      have HCB := Aside0.mk (OB.out _ (rd_mem Bl i (by have := HBL.out; omega)))
      obtain ⟨x, hxe⟩ : ∃ x, x = rd Bl i := ⟨_, rfl⟩
      rw [← hxe] at hx
      have HXE := Aside0.mk hxe.symm
      clear hxe hb
      by_cases h126 : x = 126
      · subst h126
        go_wp2_with fail
        first | go_ret | go_ret2 | ((try simp only [Exit.inBlock, Exit.then]); refine bodyPost_ret (results_tmp3 rfl _ _ _) rfl ?_) | go_end0 | refine bodyPost_ret0 rfl rfl ?_
        exact ⟨rfl, below_step B3.out HBW.out⟩
      have b126 : (x == 126) = false := beq_eq_false_iff_ne.mpr h126
      by_cases h125 : x = 125
      · subst h125
        go_wp2_with fail
        first | go_ret | go_ret2 | ((try simp only [Exit.inBlock, Exit.then]); refine bodyPost_ret (results_tmp3 rfl _ _ _) rfl ?_) | go_end0 | refine bodyPost_ret0 rfl rfl ?_
        exact ⟨rfl, below_step B3.out HBW.out⟩
      · have b125 : (x == 125) = false := beq_eq_false_iff_ne.mpr h125
        have AS := after_s R1 Bl i (by have := HBL.out; omega)
        have e0 : (after R1 (Bl.take i)).out (rd Bl i) = (0, []) := by unfold Re.out; rw [if_neg (by rw [HXE.out]; exact h126)]
        have PU := push_ok p v (after R1 (Bl.take i)) (rd Bl i) KK.out HCB.out.1 HCB.out.2 wr E2.out.is
        rw [← AS, e0, HXE.out] at PU
        have PU := Aside0.mk PU
        have CL2 : Aside0 (∀ j, j < i + 1 → Cl 1 Bl j) := ⟨fun j hj => by
          by_cases hji : j < i
          · exact CL.out j hji
          · obtain rfl : j = i := by omega
            exact ⟨by rw [HXE.out]; exact h126, fun h5 => absurd (HXE.out.symm.trans h5) h125⟩⟩
        clear AS e0
        go_wp2_with (first | (go_at_call 17; (with_reducible refine PU.out.mono ?_); rintro e w7 ⟨u, v2, rfl, ho, hi2, hn2, hf2⟩; obtain ⟨A7, c7, rfl, _⟩ := ho.slice; have E3 := Aside0.mk (E2.out.push hi2 hn2 hf2); clear ho hi2 hn2 hf2))
        go_roundg (L - i)
        case measure => omega
        case rel => exact ⟨i + 1, v2, by go_num, by omega, by omega, CL2, E3⟩
    · obtain rfl : i = L := by omega
      obtain ⟨bd, hb1, hb2⟩ := EN.out (fun j hj => CL.out j (by rw [HBL.out] at hj; exact hj))
      have hcall := push_flag p v (after R1 (Bl.take i)) KK.out wr E2.out.is
      rw [List.take_of_length_le (by have := HBL.out; omega)] at hcall
      rw [show (after R1 Bl).out 126 = (after R1 Bl).told from rfl, hb1] at hcall
      obtain ⟨mb, hmb⟩ : ∃ mb, bd.length = mb := ⟨_, rfl⟩
      rw [hmb] at hb2
      obtain rfl : mb = 0 := by have : ¬ 0 < mb := fun h => absurd (hb2.2 h) (by decide); omega
      have HMB := Aside0.mk hmb
      have HC := Aside0.mk hcall
      have EF : Aside0 (∀ wz, Fr (Sp p v) wr wz → Below w3.heap.size w3 wz) := ⟨fun wz hf => ear_flag E2.out B6.out B6.out.size HP.out hf⟩
      clear hb1 hb2 hmb hcall hb
      go_wp2_with (first | (go_at_call 17; (with_reducible refine HC.out.mono ?_); rintro e w8 ⟨u, rfl, ho, hi, hf⟩; obtain ⟨A8, c8, rfl, _⟩ := ho.sliceN HMB.out; have B8 := Aside0.mk (EF.out _ hf); clear ho hi hf))
      first | go_ret | go_ret2 | ((try simp only [Exit.inBlock, Exit.then]); refine bodyPost_ret (results_tmp3 rfl _ _ _) rfl ?_) | go_end0 | refine bodyPost_ret0 rfl rfl ?_
      exact ⟨rfl, below_step B3.out B8.out⟩

set_option maxHeartbeats 8000000 in
set_option maxRecDepth 100000 in
theorem ends_2 (n : Nat) (wide : Bool) (h1 : 1 ≤ n) (h2 : n ≤ 50) (w : World) :
    Calls Try.prog 9 #[.int .i64 2, .int .i64 n, .bool wide] w fun e w' => e = .returned (.bool true) ∧ Below w.heap.size w w' := by
  have mk := fun W => mk24 n (by omega) W
  obtain ⟨q, hq⟩ : ∃ q, q = sizeT wide := ⟨_, rfl⟩
  obtain ⟨L0, hL0⟩ : ∃ L0, (zsum n wide).length = L0 := ⟨_, rfl⟩
  have hsz := sizeT_b wide
  have hL0q : L0 = n + q := by rw [← hL0, zsum_len, hq]
  have hq4 : q ≤ 4 := by omega
  have hL60 : L0 ≤ 60 := by omega
  have hL02 : 2 ≤ L0 := by omega
  have hLq : q ≤ L0 := by omega
  have ewL : IntKind.i64.wrap ((L0 : Int) - (n : Int)) = (q : Int) := by rw [i64_w]; unfold wrap64; omega
  obtain ⟨L, hLL⟩ : ∃ L, L = L0 + 1 := ⟨_, rfl⟩
  obtain ⟨Bl, hBl⟩ : ∃ Bl : List Int, Bl = (zsum n wide ++ [125]) := ⟨_, rfl⟩
  have hbl : Bl.length = L := by rw [hBl]; exact (by rw [List.length_append, hL0]; exact hLL.symm)
  have EN : EndsR 2 wide 50 5 Bl := by rw [hBl]; exact ends2 n wide h1 h2
  have OB : octOk Bl := by rw [hBl]; exact octOk.snoc (zsum_oct n wide) (by omega) (by omega)
  have hi1 : ¬ ((n : Nat) : Int) < 1 := by omega
  have hi2 : ¬ (50 : Int) < ((n : Nat) : Int) := by omega
  obtain ⟨R1, hR1⟩ : ∃ R1, R1 = beg wide (cut5 50 + ((sizeT wide : Nat) : Int)) := ⟨_, rfl⟩
  have K1 : Ok R1 := by rw [hR1]; exact ok_beg _ _
  unfold EndsR at EN
  rw [← hR1] at EN
  have HR1 := Aside0.mk hR1
  have HL0 := Aside0.mk hL0
  have HN50 := Aside0.mk h2
  have HBL := Aside0.mk hbl
  have HBE := Aside0.mk hBl
  have EN := Aside0.mk EN
  have OB := Aside0.mk OB
  have K1 := Aside0.mk K1
  have HLL := Aside0.mk hLL
  have hL61 : L ≤ 61 := by omega
  have hL2 : 2 ≤ L := by omega
  clear hq hL0 hL0q hR1 hbl hBl hLL hsz
  go_enter Try.func9, Try.ntmps9
  go_wp2_with (first
    | (go_at_call 10; (with_reducible refine (alive_ok _).mono ?_); rintro e w1 ⟨rfl, hb1⟩; have HB1 := Aside0.mk hb1; clear hb1)
    | (go_at_call 18; (with_reducible refine (zcall n HN50.out wide w w1 HB1.out).mono ?_); rintro e w2 ⟨v2, rfl, ho, hb⟩; obtain ⟨A2, c2, rfl, hc2⟩ := ho.sliceN HL0.out; have P2 := Aside0.mk ho; have BB := Aside0.mk hb; clear ho hb)
    | (at_builtin; refine app_int Try.underlying24 info5 rfl (by decide) (.tmp 52) (.tmp 53) rfl rfl rfl rfl P2.out BB.out BB.out.size (by have := HL0.out; omega) ?_; intro v3 w3 ho hb _; obtain ⟨A3, c3, rfl, hc3⟩ := ho.sliceN (n := L) (by simp; have := HL0.out; have := HLL.out; omega); have RB := Aside0.mk (ho.rds); have B3 := Aside0.mk (hb); clear ho hb)
    | (go_at_call 16; (with_reducible refine (new_ok 50 wide w3).mono ?_); rintro e w5 ⟨p, rfl, hp, hi, hb⟩; have HP := Aside0.mk hp; have B5 := Aside0.mk hb; have I5 := Aside0.mk hi; clear hp hi hb)
    | (go_at_call 17; have hcall := push_flag p (.slice none 0 0) (newR 50 wide) (Ok.new _ _) w5 I5.out; rw [new_flag, new_none] at hcall; (with_reducible refine hcall.mono ?_); clear hcall; rintro e w6 ⟨u, rfl, ho, hi, hf⟩; obtain ⟨A6, c6, rfl, _⟩ := ho.slice; have E6 := Aside0.mk (show Ear w6 w6 p (.slice none 0 0) (after R1 (Bl.take 0)) (.slice none 0 0) [] from ⟨Fr.refl _ _, fun k hk => by simp [Value.ownBlock] at hk, by simpa [after, HR1.out] using hi, Own.nil Kd.string 9 w6.heap.size w6⟩); have B6 := Aside0.mk (Fr.above B5.out B5.out.size hf (fun i hi h => by rcases h with h | h; have := HP.out; omega; simp [Value.ownBlock] at h)); clear ho hi hf))
  have RB : Aside0 (Rds (Kd.int .u8) w3 _ L _ Bl) := ⟨by rw [HBE.out]; exact RB.out⟩
  go_loopg [12, 13, 14, 15] (L + 1) (fun kq v12 v13 v14 v15 w' => ∃ (i : Nat) (v : Value), v12 = .int .i64 i ∧ i ≤ L ∧ kq = L + 1 - i ∧ Aside0 (∀ j, j < i → Cl 2 Bl j) ∧ Aside0 (Ear w6 w' p v (after R1 (Bl.take i)) (.slice none 0 0) []))
  case atStart => exact ⟨0, _, rfl, by omega, by omega, ⟨fun j hj => by omega⟩, E6⟩
  case round =>
    clear E6
    obtain ⟨i, v, rfl, hi, hkq, CL, E2⟩ := hrel
    have HBW := Aside0.mk (E2.out.below B6.out B6.out.size HP.out)
    have hb := RB.out.below HBW.out
    have KK := Aside0.mk (after_ok (Bl.take i) K1.out (fun x hx => OB.out x (List.mem_of_mem_take hx)))
    by_cases hlt : i < L
    ·
      obtain ⟨ad, hA⟩ := hb.some_at i hlt
      cases hA
      have hx := hb.cell_int (Below.refl _ _) i hlt
      skip
      have HCB := Aside0.mk (OB.out _ (rd_mem Bl i (by have := HBL.out; omega)))
      obtain ⟨x, hxe⟩ : ∃ x, x = rd Bl i := ⟨_, rfl⟩
      rw [← hxe] at hx
      have HXE := Aside0.mk hxe.symm
      clear hxe hb
      by_cases h126 : x = 126
      · subst h126
        go_wp2_with fail
        first | go_ret | go_ret2 | ((try simp only [Exit.inBlock, Exit.then]); refine bodyPost_ret (results_tmp3 rfl _ _ _) rfl ?_) | go_end0 | refine bodyPost_ret0 rfl rfl ?_
        exact ⟨rfl, below_step B3.out HBW.out⟩
      have b126 : (x == 126) = false := beq_eq_false_iff_ne.mpr h126
      by_cases h125 : x = 125
      · by_cases hil : ((i : Nat) : Int) < ((L : Nat) : Int) - 1
        · subst h125
          go_wp2_with fail
          first | go_ret | go_ret2 | ((try simp only [Exit.inBlock, Exit.then]); refine bodyPost_ret (results_tmp3 rfl _ _ _) rfl ?_) | go_end0 | refine bodyPost_ret0 rfl rfl ?_
          exact ⟨rfl, below_step B3.out HBW.out⟩
        · subst h125
          have AS := after_s R1 Bl i (by have := HBL.out; omega)
          have e0 : (after R1 (Bl.take i)).out (rd Bl i) = (0, []) := by unfold Re.out; rw [if_neg (by rw [HXE.out]; exact h126)]
          have PU := push_ok p v (after R1 (Bl.take i)) (rd Bl i) KK.out HCB.out.1 HCB.out.2 wr E2.out.is
          rw [← AS, e0, HXE.out] at PU
          have PU := Aside0.mk PU
          have CL2 : Aside0 (∀ j, j < i + 1 → Cl 2 Bl j) := ⟨fun j hj => by
            by_cases hji : j < i
            · exact CL.out j hji
            · obtain rfl : j = i := by omega
              exact ⟨by rw [HXE.out]; exact h126, fun h5 => ⟨rfl, by rw [HBL.out]; exact hil⟩⟩⟩
          clear AS e0
          go_wp2_with (first | (go_at_call 17; (with_reducible refine PU.out.mono ?_); rintro e w7 ⟨u, v2, rfl, ho, hi2, hn2, hf2⟩; obtain ⟨A7, c7, rfl, _⟩ := ho.slice; have E3 := Aside0.mk (E2.out.push hi2 hn2 hf2); clear ho hi2 hn2 hf2))
          go_roundg (L - i)
          case measure => omega
          case rel => exact ⟨i + 1, v2, by go_num, by omega, by omega, CL2, E3⟩
      · have b125 : (x == 125) = false := beq_eq_false_iff_ne.mpr h125
        have AS := after_s R1 Bl i (by have := HBL.out; omega)
        have e0 : (after R1 (Bl.take i)).out (rd Bl i) = (0, []) := by unfold Re.out; rw [if_neg (by rw [HXE.out]; exact h126)]
        have PU := push_ok p v (after R1 (Bl.take i)) (rd Bl i) KK.out HCB.out.1 HCB.out.2 wr E2.out.is
        rw [← AS, e0, HXE.out] at PU
        have PU := Aside0.mk PU
        have CL2 : Aside0 (∀ j, j < i + 1 → Cl 2 Bl j) := ⟨fun j hj => by
          by_cases hji : j < i
          · exact CL.out j hji
          · obtain rfl : j = i := by omega
            exact ⟨by rw [HXE.out]; exact h126, fun h5 => absurd (HXE.out.symm.trans h5) h125⟩⟩
        clear AS e0
        go_wp2_with (first | (go_at_call 17; (with_reducible refine PU.out.mono ?_); rintro e w7 ⟨u, v2, rfl, ho, hi2, hn2, hf2⟩; obtain ⟨A7, c7, rfl, _⟩ := ho.slice; have E3 := Aside0.mk (E2.out.push hi2 hn2 hf2); clear ho hi2 hn2 hf2))
        go_roundg (L - i)
        case measure => omega
        case rel => exact ⟨i + 1, v2, by go_num, by omega, by omega, CL2, E3⟩
    · obtain rfl : i = L := by omega
      obtain ⟨bd, hb1, hb2⟩ := EN.out (fun j hj => CL.out j (by rw [HBL.out] at hj; exact hj))
      have hcall := push_flag p v (after R1 (Bl.take i)) KK.out wr E2.out.is
      rw [List.take_of_length_le (by have := HBL.out; omega)] at hcall
      rw [show (after R1 Bl).out 126 = (after R1 Bl).told from rfl, hb1] at hcall
      obtain ⟨mb, hmb⟩ : ∃ mb, bd.length = mb := ⟨_, rfl⟩
      rw [hmb] at hb2
      obtain rfl : mb = 0 := by have : ¬ 0 < mb := fun h => absurd (hb2.2 h) (by decide); omega
      have HMB := Aside0.mk hmb
      have HC := Aside0.mk hcall
      have EF : Aside0 (∀ wz, Fr (Sp p v) wr wz → Below w3.heap.size w3 wz) := ⟨fun wz hf => ear_flag E2.out B6.out B6.out.size HP.out hf⟩
      clear hb1 hb2 hmb hcall hb
      go_wp2_with (first | (go_at_call 17; (with_reducible refine HC.out.mono ?_); rintro e w8 ⟨u, rfl, ho, hi, hf⟩; obtain ⟨A8, c8, rfl, _⟩ := ho.sliceN HMB.out; have B8 := Aside0.mk (EF.out _ hf); clear ho hi hf))
      first | go_ret | go_ret2 | ((try simp only [Exit.inBlock, Exit.then]); refine bodyPost_ret (results_tmp3 rfl _ _ _) rfl ?_) | go_end0 | refine bodyPost_ret0 rfl rfl ?_
      exact ⟨rfl, below_step B3.out B8.out⟩

set_option maxHeartbeats 8000000 in
set_option maxRecDepth 100000 in
theorem ends_3 (n : Nat) (wide : Bool) (h1 : 1 ≤ n) (h2 : n ≤ 50) (w : World) :
    Calls Try.prog 9 #[.int .i64 3, .int .i64 n, .bool wide] w fun e w' => e = .returned (.bool true) ∧ Below w.heap.size w w' := by
  have mk := fun W => mk24 n (by omega) W
  obtain ⟨q, hq⟩ : ∃ q, q = sizeT wide := ⟨_, rfl⟩
  obtain ⟨L0, hL0⟩ : ∃ L0, (zsum n wide).length = L0 := ⟨_, rfl⟩
  have hsz := sizeT_b wide
  have hL0q : L0 = n + q := by rw [← hL0, zsum_len, hq]
  have hq4 : q ≤ 4 := by omega
  have hL60 : L0 ≤ 60 := by omega
  have hL02 : 2 ≤ L0 := by omega
  have hLq : q ≤ L0 := by omega
  have ewL : IntKind.i64.wrap ((L0 : Int) - (n : Int)) = (q : Int) := by rw [i64_w]; unfold wrap64; omega
  obtain ⟨Bl, hBl⟩ : ∃ Bl : List Int, Bl = ((zsum n wide).set 0 1) := ⟨_, rfl⟩
  have hbl : Bl.length = L0 := by rw [hBl]; exact (by rw [List.length_set, hL0])
  have EN : EndsR 3 wide 50 4 Bl := by rw [hBl]; exact ends3 n wide h1 h2
  have OB : octOk Bl := by rw [hBl]; exact fun x hx => by rcases List.mem_or_eq_of_mem_set hx with h | h; exact zsum_oct n wide x h; omega
  have hi1 : ¬ ((n : Nat) : Int) < 1 := by omega
  have hi2 : ¬ (50 : Int) < ((n : Nat) : Int) := by omega
  obtain ⟨R1, hR1⟩ : ∃ R1, R1 = beg wide (cut5 50 + ((sizeT wide : Nat) : Int)) := ⟨_, rfl⟩
  have K1 : Ok R1 := by rw [hR1]; exact ok_beg _ _
  unfold EndsR at EN
  rw [← hR1] at EN
  have HR1 := Aside0.mk hR1
  have HL0 := Aside0.mk hL0
  have HN50 := Aside0.mk h2
  have HBL := Aside0.mk hbl
  have HBE := Aside0.mk hBl
  have EN := Aside0.mk EN
  have OB := Aside0.mk OB
  have K1 := Aside0.mk K1

  clear hq hL0 hL0q hR1 hbl hBl hsz
  go_enter Try.func9, Try.ntmps9
  go_wp2_with (first
    | (go_at_call 10; (with_reducible refine (alive_ok _).mono ?_); rintro e w1 ⟨rfl, hb1⟩; have HB1 := Aside0.mk hb1; clear hb1)
    | (go_at_call 18; (with_reducible refine (zcall n HN50.out wide w w1 HB1.out).mono ?_); rintro e w2 ⟨v2, rfl, ho, hb⟩; obtain ⟨A2, c2, rfl, hc2⟩ := ho.sliceN HL0.out; obtain ⟨g, hA, hg1, hg2, hg3, hg4, hg5⟩ := Own.elem (enc := Value.int .u8) (h1 := fun _ => rfl) (0 : Int) ho 0 (by omega); subst hA; have hg6 := hg5 1; have PX := Aside0.mk hg6; have BB := Aside0.mk hb; have HG := Aside0.mk hg1; clear hg5 hg6 hg1; clear ho hb))
  have B3' := Fr.above BB.out BB.out.size (Fr.put (Fr.refl (fun k => k = g) w2) 0 (.int .u8 1)) (fun i hi e => by have := HG.out; omega)
  have PX' := PX.out
  clear hg3 hg4 PX BB
  generalize w2.setCell ⟨g, 0, none⟩ (.int .u8 1) = w3 at B3' PX' ⊢
  have RB := Aside0.mk PX'.rds
  have B3 := Aside0.mk B3'
  clear PX' B3'
  go_wp2_with (first
    | (go_at_call 16; (with_reducible refine (new_ok 50 wide w3).mono ?_); rintro e w5 ⟨p, rfl, hp, hi, hb⟩; have HP := Aside0.mk hp; have B5 := Aside0.mk hb; have I5 := Aside0.mk hi; clear hp hi hb)
    | (go_at_call 17; have hcall := push_flag p (.slice none 0 0) (newR 50 wide) (Ok.new _ _) w5 I5.out; rw [new_flag, new_none] at hcall; (with_reducible refine hcall.mono ?_); clear hcall; rintro e w6 ⟨u, rfl, ho, hi, hf⟩; obtain ⟨A6, c6, rfl, _⟩ := ho.slice; have E6 := Aside0.mk (show Ear w6 w6 p (.slice none 0 0) (after R1 (Bl.take 0)) (.slice none 0 0) [] from ⟨Fr.refl _ _, fun k hk => by simp [Value.ownBlock] at hk, by simpa [after, HR1.out] using hi, Own.nil Kd.string 9 w6.heap.size w6⟩); have B6 := Aside0.mk (Fr.above B5.out B5.out.size hf (fun i hi h => by rcases h with h | h; have := HP.out; omega; simp [Value.ownBlock] at h)); clear ho hi hf))
  have RB : Aside0 (Rds (Kd.int .u8) w3 _ L0 _ Bl) := ⟨by rw [HBE.out]; exact RB.out⟩
  go_loopg [12, 13, 14, 15] (L0 + 1) (fun kq v12 v13 v14 v15 w' => ∃ (i : Nat) (v : Value), v12 = .int .i64 i ∧ i ≤ L0 ∧ kq = L0 + 1 - i ∧ Aside0 (∀ j, j < i → Cl 3 Bl j) ∧ Aside0 (Ear w6 w' p v (after R1 (Bl.take i)) (.slice none 0 0) []))
  case atStart => exact ⟨0, _, rfl, by omega, by omega, ⟨fun j hj => by omega⟩, E6⟩
  case round =>
    clear E6
    obtain ⟨i, v, rfl, hi, hkq, CL, E2⟩ := hrel
    have HBW := Aside0.mk (E2.out.below B6.out B6.out.size HP.out)
    have hb := RB.out.below HBW.out
    have KK := Aside0.mk (after_ok (Bl.take i) K1.out (fun x hx => OB.out x (List.mem_of_mem_take hx)))
    by_cases hlt : i < L0
    ·
      obtain ⟨ad, hA⟩ := hb.some_at i hlt
      cases hA
      have hx := hb.cell_int (Below.refl _ _) i hlt
      rw [add_at, Nat.zero_add] at hx
      have HCB := Aside0.mk (OB.out _ (rd_mem Bl i (by have := HBL.out; omega)))
      obtain ⟨x, hxe⟩ : ∃ x, x = rd Bl i := ⟨_, rfl⟩
      rw [← hxe] at hx
      have HXE := Aside0.mk hxe.symm
      clear hxe hb
      by_cases h126 : x = 126
      · subst h126
        go_wp2_with fail
        first | go_ret | go_ret2 | ((try simp only [Exit.inBlock, Exit.then]); refine bodyPost_ret (results_tmp3 rfl _ _ _) rfl ?_) | go_end0 | refine bodyPost_ret0 rfl rfl ?_
        exact ⟨rfl, below_step B3.out HBW.out⟩
      have b126 : (x == 126) = false := beq_eq_false_iff_ne.mpr h126
      by_cases h125 : x = 125
      · subst h125
        go_wp2_with fail
        first | go_ret | go_ret2 | ((try simp only [Exit.inBlock, Exit.then]); refine bodyPost_ret (results_tmp3 rfl _ _ _) rfl ?_) | go_end0 | refine bodyPost_ret0 rfl rfl ?_
        exact ⟨rfl, below_step B3.out HBW.out⟩
      · have b125 : (x == 125) = false := beq_eq_false_iff_ne.mpr h125
        have AS := after_s R1 Bl i (by have := HBL.out; omega)
        have e0 : (after R1 (Bl.take i)).out (rd Bl i) = (0, []) := by unfold Re.out; rw [if_neg (by rw [HXE.out]; exact h126)]
        have PU := push_ok p v (after R1 (Bl.take i)) (rd Bl i) KK.out HCB.out.1 HCB.out.2 wr E2.out.is
        rw [← AS, e0, HXE.out] at PU
        have PU := Aside0.mk PU
        have CL2 : Aside0 (∀ j, j < i + 1 → Cl 3 Bl j) := ⟨fun j hj => by
          by_cases hji : j < i
          · exact CL.out j hji
          · obtain rfl : j = i := by omega
            exact ⟨by rw [HXE.out]; exact h126, fun h5 => absurd (HXE.out.symm.trans h5) h125⟩⟩
        clear AS e0
        go_wp2_with (first | (go_at_call 17; (with_reducible refine PU.out.mono ?_); rintro e w7 ⟨u, v2, rfl, ho, hi2, hn2, hf2⟩; obtain ⟨A7, c7, rfl, _⟩ := ho.slice; have E3 := Aside0.mk (E2.out.push hi2 hn2 hf2); clear ho hi2 hn2 hf2))
        go_roundg (L0 - i)
        case measure => omega
        case rel => exact ⟨i + 1, v2, by go_num, by omega, by omega, CL2, E3⟩
    · obtain rfl : i = L0 := by omega
      obtain ⟨bd, hb1, hb2⟩ := EN.out (fun j hj => CL.out j (by rw [HBL.out] at hj; exact hj))
      have hcall := push_flag p v (after R1 (Bl.take i)) KK.out wr E2.out.is
      rw [List.take_of_length_le (by have := HBL.out; omega)] at hcall
      rw [show (after R1 Bl).out 126 = (after R1 Bl).told from rfl, hb1] at hcall
      obtain ⟨mb, hmb⟩ : ∃ mb, bd.length = mb := ⟨_, rfl⟩
      rw [hmb] at hb2
      obtain rfl : mb = 0 := by have : ¬ 0 < mb := fun h => absurd (hb2.2 h) (by decide); omega
      have HMB := Aside0.mk hmb
      have HC := Aside0.mk hcall
      have EF : Aside0 (∀ wz, Fr (Sp p v) wr wz → Below w3.heap.size w3 wz) := ⟨fun wz hf => ear_flag E2.out B6.out B6.out.size HP.out hf⟩
      clear hb1 hb2 hmb hcall hb
      go_wp2_with (first | (go_at_call 17; (with_reducible refine HC.out.mono ?_); rintro e w8 ⟨u, rfl, ho, hi, hf⟩; obtain ⟨A8, c8, rfl, _⟩ := ho.sliceN HMB.out; have B8 := Aside0.mk (EF.out _ hf); clear ho hi hf))
      first | go_ret | go_ret2 | ((try simp only [Exit.inBlock, Exit.then]); refine bodyPost_ret (results_tmp3 rfl _ _ _) rfl ?_) | go_end0 | refine bodyPost_ret0 rfl rfl ?_
      exact ⟨rfl, below_step B3.out B8.out⟩

set_option maxHeartbeats 8000000 in
set_option maxRecDepth 100000 in
theorem ends_4 (n : Nat) (wide : Bool) (h1 : 1 ≤ n) (h2 : n ≤ 50) (w : World) :
    Calls Try.prog 9 #[.int .i64 4, .int .i64 n, .bool wide] w fun e w' => e = .returned (.bool true) ∧ Below w.heap.size w w' := by
  have mk := fun W => mk24 n (by omega) W
  obtain ⟨q, hq⟩ : ∃ q, q = sizeT wide := ⟨_, rfl⟩
  obtain ⟨L0, hL0⟩ : ∃ L0, (zsum n wide).length = L0 := ⟨_, rfl⟩
  have hsz := sizeT_b wide
  have hL0q : L0 = n + q := by rw [← hL0, zsum_len, hq]
  have hq4 : q ≤ 4 := by omega
  have hL60 : L0 ≤ 60 := by omega
  have hL02 : 2 ≤ L0 := by omega
  have hLq : q ≤ L0 := by omega
  have ewL : IntKind.i64.wrap ((L0 : Int) - (n : Int)) = (q : Int) := by rw [i64_w]; unfold wrap64; omega
  obtain ⟨Bl, hBl⟩ : ∃ Bl : List Int, Bl = [] := ⟨_, rfl⟩
  have hbl : Bl.length = 0 := by rw [hBl]; exact rfl
  have EN : EndsR 4 wide 50 0 Bl := by rw [hBl]; exact ends4 wide
  have OB : octOk Bl := by rw [hBl]; exact octOk.nil
  have hi1 : ¬ ((n : Nat) : Int) < 1 := by omega
  have hi2 : ¬ (50 : Int) < ((n : Nat) : Int) := by omega
  obtain ⟨R1, hR1⟩ : ∃ R1, R1 = beg wide (cut5 50 + ((sizeT wide : Nat) : Int)) := ⟨_, rfl⟩
  have K1 : Ok R1 := by rw [hR1]; exact ok_beg _ _
  unfold EndsR at EN
  rw [← hR1] at EN
  have HR1 := Aside0.mk hR1
  have HL0 := Aside0.mk hL0
  have HN50 := Aside0.mk h2
  have HBL := Aside0.mk hbl
  have HBE := Aside0.mk hBl
  have EN := Aside0.mk EN
  have OB := Aside0.mk OB
  have K1 := Aside0.mk K1

  clear hq hL0 hL0q hR1 hbl hBl hsz
  go_enter Try.func9, Try.ntmps9
  go_wp2_with (first
    | (go_at_call 10; (with_reducible refine (alive_ok _).mono ?_); rintro e w1 ⟨rfl, hb1⟩; have HB1 := Aside0.mk hb1; clear hb1)
    | (go_at_call 18; (with_reducible refine (zcall n HN50.out wide w w1 HB1.out).mono ?_); rintro e w2 ⟨v2, rfl, ho, hb⟩; obtain ⟨A2, c2, rfl, hc2⟩ := ho.sliceN HL0.out; have BB := Aside0.mk hb; clear ho hb)
    | (go_at_call 16; (with_reducible refine (new_ok 50 wide w2).mono ?_); rintro e w5 ⟨p, rfl, hp, hi, hb⟩; have HP := Aside0.mk hp; have B5 := Aside0.mk hb; have I5 := Aside0.mk hi; clear hp hi hb)
    | (go_at_call 17; have hcall := push_flag p (.slice none 0 0) (newR 50 wide) (Ok.new _ _) w5 I5.out; rw [new_flag, new_none] at hcall; (with_reducible refine hcall.mono ?_); clear hcall; rintro e w6 ⟨u, rfl, ho, hi, hf⟩; obtain ⟨A6, c6, rfl, _⟩ := ho.slice; have E6 := Aside0.mk (show Ear w6 w6 p (.slice none 0 0) (after R1 (Bl.take 0)) (.slice none 0 0) [] from ⟨Fr.refl _ _, fun k hk => by simp [Value.ownBlock] at hk, by simpa [after, HR1.out] using hi, Own.nil Kd.string 9 w6.heap.size w6⟩); have B6 := Aside0.mk (Fr.above B5.out B5.out.size hf (fun i hi h => by rcases h with h | h; have := HP.out; omega; simp [Value.ownBlock] at h)); clear ho hi hf))
  have RB := Aside0.mk (show Rds (Kd.int .u8) w2 none 0 0 [] from (Own.nil (Kd.int .u8) 5 0 w2).rds)
  have B3 := BB
  have RB : Aside0 (Rds (Kd.int .u8) w2 _ 0 _ Bl) := ⟨by rw [HBE.out]; exact RB.out⟩
  go_loopg [12, 13, 14, 15] (0 + 1) (fun kq v12 v13 v14 v15 w' => ∃ (i : Nat) (v : Value), v12 = .int .i64 i ∧ i ≤ 0 ∧ kq = 0 + 1 - i ∧ Aside0 (∀ j, j < i → Cl 4 Bl j) ∧ Aside0 (Ear w6 w' p v (after R1 (Bl.take i)) (.slice none 0 0) []))
  case atStart => exact ⟨0, _, rfl, by omega, by omega, ⟨fun j hj => by omega⟩, E6⟩
  case round =>
    clear E6
    obtain ⟨i, v, rfl, hi, hkq, CL, E2⟩ := hrel
    have HBW := Aside0.mk (E2.out.below B6.out B6.out.size HP.out)
    have hb := RB.out.below HBW.out
    have KK := Aside0.mk (after_ok (Bl.take i) K1.out (fun x hx => OB.out x (List.mem_of_mem_take hx)))
    by_cases hlt : i < 0
    ·
      exact absurd hlt (by omega)
    · obtain rfl : i = 0 := by omega
      obtain ⟨bd, hb1, hb2⟩ := EN.out (fun j hj => CL.out j (by rw [HBL.out] at hj; exact hj))
      have hcall := push_flag p v (after R1 (Bl.take 0)) KK.out wr E2.out.is
      rw [List.take_of_length_le (by have := HBL.out; omega)] at hcall
      rw [show (after R1 Bl).out 126 = (after R1 Bl).told from rfl, hb1] at hcall
      obtain ⟨mb, hmb⟩ : ∃ mb, bd.length = mb := ⟨_, rfl⟩
      rw [hmb] at hb2
      obtain rfl : mb = 0 := by have : ¬ 0 < mb := fun h => absurd (hb2.2 h) (by decide); omega
      have HMB := Aside0.mk hmb
      have HC := Aside0.mk hcall
      have EF : Aside0 (∀ wz, Fr (Sp p v) wr wz → Below w2.heap.size w2 wz) := ⟨fun wz hf => ear_flag E2.out B6.out B6.out.size HP.out hf⟩
      clear hb1 hb2 hmb hcall hb
      go_wp2_with (first | (go_at_call 17; (with_reducible refine HC.out.mono ?_); rintro e w8 ⟨u, rfl, ho, hi, hf⟩; obtain ⟨A8, c8, rfl, _⟩ := ho.sliceN HMB.out; have B8 := Aside0.mk (EF.out _ hf); clear ho hi hf))
      first | go_ret | go_ret2 | ((try simp only [Exit.inBlock, Exit.then]); refine bodyPost_ret (results_tmp3 rfl _ _ _) rfl ?_) | go_end0 | refine bodyPost_ret0 rfl rfl ?_
      exact ⟨rfl, below_step B3.out B8.out⟩

set_option maxHeartbeats 8000000 in
set_option maxRecDepth 100000 in
theorem ends_5 (n : Nat) (wide : Bool) (z : Int) (z0 : z ≠ 0) (z1 : z ≠ 1) (z2 : z ≠ 2) (z3 : z ≠ 3) (z4 : z ≠ 4) (h1 : 1 ≤ n) (h2 : n ≤ 50) (w : World) :
    Calls Try.prog 9 #[.int .i64 z, .int .i64 n, .bool wide] w fun e w' => e = .returned (.bool true) ∧ Below w.heap.size w w' := by
  have mk := fun W => mk24 n (by omega) W
  obtain ⟨q, hq⟩ : ∃ q, q = sizeT wide := ⟨_, rfl⟩
  obtain ⟨L0, hL0⟩ : ∃ L0, (zsum n wide).length = L0 := ⟨_, rfl⟩
  have hsz := sizeT_b wide
  have hL0q : L0 = n + q := by rw [← hL0, zsum_len, hq]
  have hq4 : q ≤ 4 := by omega
  have hL60 : L0 ≤ 60 := by omega
  have hL02 : 2 ≤ L0 := by omega
  have hLq : q ≤ L0 := by omega
  have ewL : IntKind.i64.wrap ((L0 : Int) - (n : Int)) = (q : Int) := by rw [i64_w]; unfold wrap64; omega
  obtain ⟨Bl, hBl⟩ : ∃ Bl : List Int, Bl = (zsum n wide) := ⟨_, rfl⟩
  have hbl : Bl.length = L0 := by rw [hBl]; exact hL0
  have EN : EndsR z wide ((n : Nat) : Int) 1 Bl := by rw [hBl]; exact ends5 n wide h1 h2 z z2
  have OB : octOk Bl := by rw [hBl]; exact zsum_oct n wide
  have hi1 : ¬ ((n : Nat) : Int) < 1 := by omega
  have hi2 : ¬ (50 : Int) < ((n : Nat) : Int) := by omega
  obtain ⟨R1, hR1⟩ : ∃ R1, R1 = beg wide (cut5 ((n : Nat) : Int) + ((sizeT wide : Nat) : Int)) := ⟨_, rfl⟩
  have K1 : Ok R1 := by rw [hR1]; exact ok_beg _ _
  unfold EndsR at EN
  rw [← hR1] at EN
  have HR1 := Aside0.mk hR1
  have HL0 := Aside0.mk hL0
  have HN50 := Aside0.mk h2
  have HBL := Aside0.mk hbl
  have HBE := Aside0.mk hBl
  have EN := Aside0.mk EN
  have OB := Aside0.mk OB
  have K1 := Aside0.mk K1

  have bz0 : (z == 0) = false := beq_eq_false_iff_ne.mpr z0
  have bz1 : (z == 1) = false := beq_eq_false_iff_ne.mpr z1
  have bz2 : (z == 2) = false := beq_eq_false_iff_ne.mpr z2
  have bz3 : (z == 3) = false := beq_eq_false_iff_ne.mpr z3
  have bz4 : (z == 4) = false := beq_eq_false_iff_ne.mpr z4
  clear hq hL0 hL0q hR1 hbl hBl hsz z0 z1 z3 z4
  go_enter Try.func9, Try.ntmps9
  go_wp2_with (first
    | (go_at_call 10; (with_reducible refine (alive_ok _).mono ?_); rintro e w1 ⟨rfl, hb1⟩; have HB1 := Aside0.mk hb1; clear hb1)
    | (go_at_call 18; (with_reducible refine (zcall n HN50.out wide w w1 HB1.out).mono ?_); rintro e w2 ⟨v2, rfl, ho, hb⟩; obtain ⟨A2, c2, rfl, hc2⟩ := ho.sliceN HL0.out; have RB := Aside0.mk (ho.rds); have B3 := Aside0.mk (hb); clear ho hb)
    | (go_at_call 16; (with_reducible refine (new_ok ((n : Nat) : Int) wide w2).mono ?_); rintro e w5 ⟨p, rfl, hp, hi, hb⟩; have HP := Aside0.mk hp; have B5 := Aside0.mk hb; have I5 := Aside0.mk hi; clear hp hi hb)
    | (go_at_call 17; have hcall := push_flag p (.slice none 0 0) (newR ((n : Nat) : Int) wide) (Ok.new _ _) w5 I5.out; rw [new_flag, new_none] at hcall; (with_reducible refine hcall.mono ?_); clear hcall; rintro e w6 ⟨u, rfl, ho, hi, hf⟩; obtain ⟨A6, c6, rfl, _⟩ := ho.slice; have E6 := Aside0.mk (show Ear w6 w6 p (.slice none 0 0) (after R1 (Bl.take 0)) (.slice none 0 0) [] from ⟨Fr.refl _ _, fun k hk => by simp [Value.ownBlock] at hk, by simpa [after, HR1.out] using hi, Own.nil Kd.string 9 w6.heap.size w6⟩); have B6 := Aside0.mk (Fr.above B5.out B5.out.size hf (fun i hi h => by rcases h with h | h; have := HP.out; omega; simp [Value.ownBlock] at h)); clear ho hi hf))
  have RB : Aside0 (Rds (Kd.int .u8) w2 _ L0 _ Bl) := ⟨by rw [HBE.out]; exact RB.out⟩
  go_loopg [12, 13, 14, 15] (L0 + 1) (fun kq v12 v13 v14 v15 w' => ∃ (i : Nat) (v : Value), v12 = .int .i64 i ∧ i ≤ L0 ∧ kq = L0 + 1 - i ∧ Aside0 (∀ j, j < i → Cl z Bl j) ∧ Aside0 (Ear w6 w' p v (after R1 (Bl.take i)) (.slice none 0 0) []))
  case atStart => exact ⟨0, _, rfl, by omega, by omega, ⟨fun j hj => by omega⟩, E6⟩
  case round =>
    clear E6
    obtain ⟨i, v, rfl, hi, hkq, CL, E2⟩ := hrel
    have HBW := Aside0.mk (E2.out.below B6.out B6.out.size HP.out)
    have hb := RB.out.below HBW.out
    have KK := Aside0.mk (after_ok (Bl.take i) K1.out (fun x hx => OB.out x (List.mem_of_mem_take hx)))
    by_cases hlt : i < L0
    ·
      obtain ⟨ad, hA⟩ := hb.some_at i hlt
      cases hA
      have hx := hb.cell_int (Below.refl _ _) i hlt
      skip
      have HCB := Aside0.mk (OB.out _ (rd_mem Bl i (by have := HBL.out; omega)))
      obtain ⟨x, hxe⟩ : ∃ x, x = rd Bl i := ⟨_, rfl⟩
      rw [← hxe] at hx
      have HXE := Aside0.mk hxe.symm
      clear hxe hb
      by_cases h126 : x = 126
      · subst h126
        go_wp2_with fail
        first | go_ret | go_ret2 | ((try simp only [Exit.inBlock, Exit.then]); refine bodyPost_ret (results_tmp3 rfl _ _ _) rfl ?_) | go_end0 | refine bodyPost_ret0 rfl rfl ?_
        exact ⟨rfl, below_step B3.out HBW.out⟩
      have b126 : (x == 126) = false := beq_eq_false_iff_ne.mpr h126
      by_cases h125 : x = 125
      · subst h125
        go_wp2_with fail
        first | go_ret | go_ret2 | ((try simp only [Exit.inBlock, Exit.then]); refine bodyPost_ret (results_tmp3 rfl _ _ _) rfl ?_) | go_end0 | refine bodyPost_ret0 rfl rfl ?_
        exact ⟨rfl, below_step B3.out HBW.out⟩
      · have b125 : (x == 125) = false := beq_eq_false_iff_ne.mpr h125
        have AS := after_s R1 Bl i (by have := HBL.out; omega)
        have e0 : (after R1 (Bl.take i)).out (rd Bl i) = (0, []) := by unfold Re.out; rw [if_neg (by rw [HXE.out]; exact h126)]
        have PU := push_ok p v (after R1 (Bl.take i)) (rd Bl i) KK.out HCB.out.1 HCB.out.2 wr E2.out.is
        rw [← AS, e0, HXE.out] at PU
        have PU := Aside0.mk PU
        have CL2 : Aside0 (∀ j, j < i + 1 → Cl z Bl j) := ⟨fun j hj => by
          by_cases hji : j < i
          · exact CL.out j hji
          · obtain rfl : j = i := by omega
            exact ⟨by rw [HXE.out]; exact h126, fun h5 => absurd (HXE.out.symm.trans h5) h125⟩⟩
        clear AS e0
        go_wp2_with (first | (go_at_call 17; (with_reducible refine PU.out.mono ?_); rintro e w7 ⟨u, v2, rfl, ho, hi2, hn2, hf2⟩; obtain ⟨A7, c7, rfl, _⟩ := ho.slice; have E3 := Aside0.mk (E2.out.push hi2 hn2 hf2); clear ho hi2 hn2 hf2))
        go_roundg (L0 - i)
        case measure => omega
        case rel => exact ⟨i + 1, v2, by go_num, by omega, by omega, CL2, E3⟩
    · obtain rfl : i = L0 := by omega
      obtain ⟨bd, hb1, hb2⟩ := EN.out (fun j hj => CL.out j (by rw [HBL.out] at hj; exact hj))
      have hcall := push_flag p v (after R1 (Bl.take i)) KK.out wr E2.out.is
      rw [List.take_of_length_le (by have := HBL.out; omega)] at hcall
      rw [show (after R1 Bl).out 126 = (after R1 Bl).told from rfl, hb1] at hcall
      obtain ⟨mb, hmb⟩ : ∃ mb, bd.length = mb := ⟨_, rfl⟩
      rw [hmb] at hb2
      have hmb0 : 0 < mb := by simpa using hb2
      have HMB := Aside0.mk hmb
      have HC := Aside0.mk hcall
      have EF : Aside0 (∀ wz, Fr (Sp p v) wr wz → Below w2.heap.size w2 wz) := ⟨fun wz hf => ear_flag E2.out B6.out B6.out.size HP.out hf⟩
      clear hb1 hb2 hmb hcall hb
      go_wp2_with (first | (go_at_call 17; (with_reducible refine HC.out.mono ?_); rintro e w8 ⟨u, rfl, ho, hi, hf⟩; obtain ⟨A8, c8, rfl, _⟩ := ho.sliceN HMB.out; have B8 := Aside0.mk (EF.out _ hf); clear ho hi hf))
      first | go_ret | go_ret2 | ((try simp only [Exit.inBlock, Exit.then]); refine bodyPost_ret (results_tmp3 rfl _ _ _) rfl ?_) | go_end0 | refine bodyPost_ret0 rfl rfl ?_
      exact ⟨rfl, below_step B3.out B8.out⟩

set_option maxHeartbeats 8000000 in
set_option maxRecDepth 100000 in
theorem ends_early (z n : Int) (wide : Bool) (w : World) (h : n < 1 ∨ 50 < n) : Calls Try.prog 9 #[.int .i64 z, .int .i64 n, .bool wide] w fun e w' => e = .returned (.bool true) ∧ Below w.heap.size w w' := by
  have key : n < 1 ∨ (¬ n < 1 ∧ 50 < n) := by omega
  clear h
  rcases key with h1 | ⟨h1, h2⟩
  all_goals
    go_enter Try.func9, Try.ntmps9
    go_wp2_with (first | (go_at_call 10; (with_reducible refine (alive_ok _).mono ?_); rintro e w1 ⟨rfl, hb1⟩; have HB1 := Aside0.mk hb1; clear hb1))
    first | go_ret | go_ret2 | ((try simp only [Exit.inBlock, Exit.then]); refine bodyPost_ret (results_tmp3 rfl _ _ _) rfl ?_) | go_end0 | refine bodyPost_ret0 rfl rfl ?_
    exact ⟨rfl, HB1.out⟩
theorem walk (a0 a1 : Int) (a2 : Bool) (W : World) (_w0 : (Lit.int .i64 a0).wf = true) (_w1 : (Lit.int .i64 a1).wf = true) :
    Calls Try.prog 9 #[.int .i64 a0, .int .i64 a1, .bool a2] W fun e w' => e = .returned (.bool true) ∧ Below W.heap.size W w' := by
  by_cases h : a1 < 1 ∨ 50 < a1
  · exact ends_early a0 a1 a2 W h
  · obtain ⟨n, rfl⟩ : ∃ n : Nat, a1 = (n : Int) := ⟨a1.toNat, by omega⟩
    have h1 : 1 ≤ n := by omega
    have h2 : n ≤ 50 := by omega
    by_cases z0 : a0 = 0
    · subst z0; exact ends_0 n a2 h1 h2 W
    · by_cases z1 : a0 = 1
      · subst z1; exact ends_1 n a2 h1 h2 W
      · by_cases z2 : a0 = 2
        · subst z2; exact ends_2 n a2 h1 h2 W
        · by_cases z3 : a0 = 3
          · subst z3; exact ends_3 n a2 h1 h2 W
          · by_cases z4 : a0 = 4
            · subst z4; exact ends_4 n a2 h1 h2 W
            · exact ends_5 n a2 a0 z0 z1 z2 z3 z4 h1 h2 W

end Go.Proofs.Ytlcemeligolabaa.FmEndsW
