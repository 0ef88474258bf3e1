/- The law of a frame of which a bit was turned: the walk. -/
import Derived.Test.YtlcemeligolabaaFmH
import Derived.Test.YtlcemeligolabaaFmS
namespace Go.Proofs.Ytlcemeligolabaa.FmTurnedW
open Go.RowKit Go.Proofs.YtlcemeligolabaaW.PrintWords Go.Proofs.YtlcemeligolabaaW.PrintLast Go.Proofs.YtlcemeligolabaaW.PrintMore Go.Proofs.Ytlcemeligolabaa.K Go.Proofs.Ytlcemeligolabaa.FmP Go.Proofs.Ytlcemeligolabaa.FmA Go.Proofs.Ytlcemeligolabaa.FmB Go.Proofs.Ytlcemeligolabaa.FmC Go.Proofs.Ytlcemeligolabaa.FmF Go.Proofs.Ytlcemeligolabaa.FmG Go.Proofs.Ytlcemeligolabaa.FmH Go.Proofs.Ytlcemeligolabaa.FcP Go.Proofs.Ytlcemeligolabaa.FcA Go.Proofs.Ytlcemeligolabaa.FcB Go.Proofs.Ytlcemeligolabaa.FcC Go.Proofs.Ytlcemeligolabaa.FcR Go.Proofs.Ytlcemeligolabaa.FcD Go.Proofs.Ytlcemeligolabaa.FcE Go.Proofs.Ytlcemeligolabaa.FcF Go.Proofs.Ytlcemeligolabaa.OctPure Go.Proofs.Ytlcemeligolabaa.FmR Go.Proofs.Ytlcemeligolabaa.FmS
set_option linter.unusedVariables false
set_option linter.unusedSimpArgs false
attribute [local go_sem] max2_int min2_int max_two min_two

theorem hear_noise (R : Re) (x body : List Int) (hb : body ≠ []) (hm : ((body.length + sizeT R.wide : Nat) : Int) ≤ R.most) : ∃ X, hear R (x ++ [126] ++ frameL body R.wide) = X ++ [body] := by
  have h0 : ((sizeT R.wide : Nat) : Int) ≤ R.most := by omega
  refine ⟨hear R (x ++ [126]), ?_⟩
  rw [hear_append, after_last, frameL, hear_beg_flag, hear_mid _ _ _ h0, if_pos ⟨hb, hm⟩]
theorem and7 (x : Int) : ∃ r : Nat, r ≤ 7 ∧ bits .and .i64 x 7 = (r : Int) := by
  simp only [bits]
  have h1 : (BitVec.ofInt IntKind.i64.bits x &&& BitVec.ofInt IntKind.i64.bits 7).toNat ≤ 7 := by
    rw [BitVec.toNat_and]
    exact Nat.and_le_right
  generalize (BitVec.ofInt IntKind.i64.bits x &&& BitVec.ofInt IntKind.i64.bits 7).toNat = m at *
  rw [IntKind.wrap_i64]
  exact ⟨m, h1, by omega⟩
theorem xor_range (x y : Int) : 0 ≤ bits .xor .u8 x y ∧ bits .xor .u8 x y ≤ 255 := by
  simp only [bits]
  rw [u8_w]
  omega
structure EarS (w1 w' : World) (p : Nat) (v : Value) (s : Rr) : Prop where
  fr : Fr (fun k => k = p) w1 w'
  nv : ∀ k, some k = v.ownBlock → w1.heap.size ≤ k
  is : IsS w' p v s
theorem EarS.push {w1 w' w2 : World} {p : Nat} {v v' : Value} {s s' : Rr} (e : EarS w1 w' p v s) (hi : IsS w2 p v' s') (hn : Nw w' v v') (hf : Fr (Sp p v) w' w2) : EarS w1 w2 p v' s' where
  fr := e.fr.trans hf (fun k hk h => by
    rcases h with h | h
    · exact h
    · have := e.nv k h
      omega)
  nv := fun k hk => by
    rcases hn k hk with h | h
    · exact e.nv k h
    · exact Nat.le_trans e.fr.size h
  is := hi
theorem EarS.wide {w1 w' w2 : World} {p : Nat} {v : Value} {s : Rr} (e : EarS w1 w' p v s) (hb : Below w'.heap.size w' w2) : EarS w1 w2 p v s := ⟨e.fr.then hb, e.nv, e.is.below hb⟩
theorem EarS.drew {w1 w' : World} {p : Nat} {v : Value} {s : Rr} (e : EarS w1 w' p v s) : EarS w1 w'.drew p v s := ⟨e.fr.then (below_drew (Below.refl _ _)), e.nv, e.is.below (below_drew (Below.refl _ _))⟩
theorem EarS.below {B : Nat} {w w1 w' : World} {p : Nat} {v : Value} {s : Rr} (e : EarS w1 w' p v s) (hb : Below B w w1) (hB : B ≤ w1.heap.size) (hp : B ≤ p) : Below B w w' := Fr.above hb hB e.fr (fun i hi h => by omega)
theorem EarS.step {B : Nat} {w w1 w' w2 : World} {p : Nat} {v : Value} {s : Rr} (e : EarS w1 w' p v s) (hb : Below B w w1) (hB : B ≤ w1.heap.size) (hp : B ≤ p) (hf : Fr (Sp p v) w' w2) : Below B w w2 :=
  Fr.above (e.below hb hB hp) (Nat.le_trans hB e.fr.size) hf (fun i hi h => by
    rcases h with h | h
    · omega
    · have := e.nv i h
      omega)
theorem part_at (R : Re) (T : List Int) (i : Nat) (bb : List Int) (h : hear R (T.take (i + 1)) = hear R (T.take i) ++ [bb]) : (hear R T)[(hear R (T.take i)).length]? = some bb ∧ (hear R (T.take i)).length < (hear R T).length := by
  have e := hear_append (T.take (i + 1)) (T.drop (i + 1)) R
  rw [List.take_append_drop, h] at e
  rw [e]
  simp
set_option maxHeartbeats 8000000 in
set_option maxRecDepth 100000 in
theorem turned_in (A1 A2 : Option Addr) (n1 c1 n2 c2 : Nat) (x l : List Int) (wide : Bool) (at_ bit : Int) (w : World) (r1 : Rds (Kd.int .u8) w A1 n1 c1 x) (r2 : Rds (Kd.int .u8) w A2 n2 c2 l) (o1 : octOk x) (o2 : octOk l) (h1 : 1 ≤ n1) (h1' : n1 ≤ 100) (h2 : 1 ≤ n2) (h3 : n2 ≤ 100) (h4 : 0 ≤ at_) (h5 : at_ ≤ 9223372036854775807) :
    Calls Try.prog 4 #[.slice A1 n1 c1, .slice A2 n2 c2, .bool wide, .int .i64 at_, .int .i64 bit] w fun e w' => e = .returned (.bool true) ∧ Below w.heap.size w w' := by
  have HR2 := Aside0.mk r2
  have hl1 := r1.len
  have hl2 := r2.len
  obtain ⟨F, hF⟩ : ∃ F, F = frameL x wide := ⟨_, rfl⟩
  obtain ⟨F2, hF2⟩ : ∃ F2, F2 = frameL l wide := ⟨_, rfl⟩
  have OF : octOk F := by rw [hF]; exact frameL_oct o1 wide
  have OF2 : octOk F2 := by rw [hF2]; exact frameL_oct o2 wide
  obtain ⟨q, hq⟩ : ∃ q, F.length = q := ⟨_, rfl⟩
  have hq2 : q ≤ 210 := by rw [← hq, hF]; have := frameL_len x wide; omega
  have hq1 : 1 ≤ q := by rw [← hq, hF]; simp [frameL]
  obtain ⟨q2, hq2'⟩ : ∃ q2, F2.length = q2 := ⟨_, rfl⟩
  have hq3 : q2 ≤ 210 := by rw [← hq2', hF2]; have := frameL_len l wide; omega
  obtain ⟨j, ej⟩ : ∃ j : Nat, at_ % (q : Int) = (j : Int) := ⟨(at_ % (q : Int)).toNat, by have := Int.emod_nonneg at_ (show (q : Int) ≠ 0 by omega); omega⟩
  have hjq : j < q := by have := Int.emod_lt_of_pos at_ (show 0 < (q : Int) by omega); omega
  obtain ⟨r, hr7, er⟩ := and7 bit
  obtain ⟨y, hy⟩ : ∃ y, y = rd F j := ⟨_, rfl⟩
  obtain ⟨z, hz⟩ : ∃ z, bits .xor .u8 y (2 ^ min r 8 % 256) = z := ⟨_, rfl⟩
  have hzr : 0 ≤ z ∧ z ≤ 255 := by rw [← hz]; exact xor_range _ _
  obtain ⟨T, hT⟩ : ∃ T, T = F.set j z ++ [126] ++ F2 := ⟨_, rfl⟩
  have OT : octOk T := by
    rw [hT]
    intro y hy
    rcases List.mem_append.1 hy with hy | hy
    · rcases List.mem_append.1 hy with hy | hy
      · rcases List.mem_or_eq_of_mem_set hy with h | h
        · exact OF y h
        · omega
      · simp at hy
        omega
    · exact OF2 y hy
  obtain ⟨k, hk⟩ : ∃ k, T.length = k := ⟨_, rfl⟩
  have hk2 : k ≤ 500 := by rw [← hk, hT]; simp; omega
  obtain ⟨R0, hR0⟩ : ∃ R0, R0 = newR 300 wide := ⟨_, rfl⟩
  have hX : ∃ X, hear R0 T = X ++ [l] := by
    rw [hT, hF2, hR0]
    refine hear_noise (newR 300 wide) (F.set j z) l (by intro h; rw [h] at hl2; simp at hl2; omega) ?_
    show ((l.length + sizeT wide : Nat) : Int) ≤ cut5 300 + ((sizeT wide : Nat) : Int)
    have : cut5 300 = 300 := by decide
    omega
  obtain ⟨m, hm⟩ : ∃ m, (hear R0 T).length = m := ⟨_, rfl⟩
  have hmk : m ≤ 600 := by have := hear_len T R0; omega
  have hm1 : 1 ≤ m := by obtain ⟨X, hX⟩ := hX; rw [← hm, hX]; simp
  have LST : (hear R0 T)[m - 1]? = some l := by obtain ⟨X, hX⟩ := hX; rw [← hm, hX]; simp
  have PX := Aside0.mk (fun w' (hb : Below w.heap.size w w') => (show Calls Try.prog 13 #[.slice A1 n1 c1, .bool wide] w' fun e w'' => ∃ v, e = .returned v ∧ Own (Kd.int .u8) 5 w'.heap.size w'' v F ∧ Below w'.heap.size w' w'' by rw [hF]; exact rframe_ok A1 n1 c1 x wide w' (r1.below hb) o1 (by omega)))
  have PY := Aside0.mk (fun w' (hb : Below w.heap.size w w') => (show Calls Try.prog 13 #[.slice A2 n2 c2, .bool wide] w' fun e w'' => ∃ v, e = .returned v ∧ Own (Kd.int .u8) 5 w'.heap.size w'' v F2 ∧ Below w'.heap.size w' w'' by rw [hF2]; exact rframe_ok A2 n2 c2 l wide w' (r2.below hb) o2 (by omega)))
  have HE := Aside0.mk (fun w' A' c' (hr : Rds (Kd.int .u8) w' A' k c' T) => (show Calls Try.prog 12 #[.int .i64 300, .bool wide, .slice A' k c'] w' fun e w'' => ∃ A1 c1, e = .returned (.slice A1 m c1) ∧ Own Kd.string 9 w'.heap.size w'' (.slice A1 m c1) ((hear R0 T).map strOfNums) ∧ Below w'.heap.size w' w'' by
    have := heard_ok 300 wide A' k c' T w' hr OT (by omega)
    rwa [← hR0, hm] at this))
  have NS := Aside0.mk (fun w' => (show Calls Try.prog 14 #[.int .i64 300, .bool wide] w' fun e w'' => ∃ p, e = .returned (.pointer (some ⟨p, 0, none⟩)) ∧ w'.heap.size ≤ p ∧ IsS w'' p (.slice none 0 0) (newS 300 wide) ∧ Below w'.heap.size w' w'' from newr_ok 300 wide w'))
  have S0 : Aside0 (Ok R0 ∧ OkR (newS 300 wide) ∧ Sim R0 (newS 300 wide)) := ⟨by rw [hR0]; exact ⟨Ok.new _ _, OkR.new _ _, Sim.new _ _⟩⟩
  obtain ⟨s0, hs0⟩ : ∃ s0, s0 = newS 300 wide := ⟨_, rfl⟩
  rw [← hs0] at NS S0
  have HQ := Aside0.mk hq
  have HQ2 := Aside0.mk hq2'
  have HT := Aside0.mk hT
  have HK := Aside0.mk hk
  have HM := Aside0.mk hm
  have OT := Aside0.mk OT
  have HYD := Aside0.mk hy
  have LST := Aside0.mk LST
  have g1 : ¬ ((n1 : Nat) : Int) < 1 := by omega
  have g2 : ¬ (100 : Int) < ((n1 : Nat) : Int) := by omega
  have g3 : ¬ ((n2 : Nat) : Int) < 1 := by omega
  have g4 : ¬ (100 : Int) < ((n2 : Nat) : Int) := by omega
  have g5 : ¬ at_ < 0 := by omega
  have hq0 : ¬ ((q : Nat) : Int) = 0 := by omega
  have hq0n : ¬ q = 0 := by omega
  have ej2 : at_.tmod (q : Int) = (j : Int) := by rw [Int.tmod_eq_emod_of_nonneg h4]; exact ej
  have hjq2 : (j : Int) < (q : Int) := by omega
  clear r1 r2 o1 o2 hl1 hl2 hF hF2 ej OF OF2 hq hq2' hT hk hR0 hX hm hs0 hy
  go_enter Try.func4, Try.ntmps4
  go_wp2_with (first
    | (go_at_call 10; (with_reducible refine (alive_ok _).mono ?_); rintro e w1 ⟨rfl, hb1⟩; have HB1 := Aside0.mk hb1; clear hb1)
    | (go_at_call 13; (with_reducible refine (PX.out _ HB1.out).mono ?_); rintro e w2 ⟨v2, rfl, ho, hb⟩; obtain ⟨A3, c3, rfl, _⟩ := ho.sliceN HQ.out; obtain ⟨gg, hA, hg0, hg1, p0, f0, HS⟩ := Own.elem (enc := Value.int .u8) (h1 := fun _ => rfl) (0 : Int) ho j hjq; subst hA; have HS := Aside0.mk (HS z); have HG := Aside0.mk (Nat.le_trans HB1.out.size hg0); have B2 := Aside0.mk (below_step HB1.out hb); rw [show rdOf (0 : Int) F (j : Int) = y from HYD.out.symm] at p0; clear ho hb hg0 hg1 PX))
  refine region_tail 18 (by kernel_rfl) (by kernel_rfl) ?_
  intro w3 hb3 hc3 hf3 hh3
  replace p0 := (hc3 _).trans p0
  replace f0 := (hf3 _).trans f0
  have HS3 := Aside0.mk (Own.below2 HS.out hb3 hh3)
  have B3 := Aside0.mk (below_step B2.out hb3)
  clear hb3 hc3 hf3 hh3
  simp only [List.take_succ_cons, List.take_zero, List.drop_succ_cons, List.drop_zero]
  repeat still_step
  refine wpStill_nil ?_
  have B4 := Aside0.mk (Fr.above B3.out B3.out.size (Fr.put (Fr.refl (fun k => k = gg) w3) j (.int .u8 z)) (fun i hi e => by have := HG.out; omega))
  have HS4 := Aside0.mk (HS3.out.lower HB1.out.size)
  have SL : Aside0 ((F.set j z).length = q) := ⟨by rw [List.length_set]; exact HQ.out⟩
  go_wp2_with (first
    | (at_builtin; refine app_int Try.underlying24 info5 rfl (by decide) (.tmp 68) (.tmp 69) rfl rfl rfl (by simp [Act.eval, World.setCell]) HS4.out B4.out B4.out.size (by have := SL.out; omega) ?_; intro v5 w5 ho hb _; obtain ⟨A5, c5, rfl, _⟩ := ho.sliceN (n := q + 1) (by simpa using SL.out); have B5 := Aside0.mk hb; have P5 := Aside0.mk ho; clear ho hb HS4 HS3 B4)
    | (go_at_call 13; (with_reducible refine (PY.out _ B5.out).mono ?_); rintro e w6 ⟨v6, rfl, ho, hb⟩; obtain ⟨A6, c6, rfl, _⟩ := ho.sliceN HQ2.out; have B6 := Aside0.mk (below_step B5.out hb); have P6 := Aside0.mk ho; have P56 := Aside0.mk (P5.out.below hb); clear ho hb P5 B5)
    | (at_builtin; refine app_rowi Try.underlying24 info5 rfl (by decide) (.tmp 70) (.tmp 73) rfl rfl rfl rfl P56.out P6.out.rds B6.out B6.out.size (by rw [List.length_append, SL.out]; simp; omega) ?_; intro v7 w7 ho hb _; rw [← HT.out] at ho; obtain ⟨A7, c7, rfl, hc7⟩ := ho.sliceN HK.out; have B7 := Aside0.mk hb; have P7 := Aside0.mk ho; clear ho hb P56 P6 B6)
    | (go_at_call 12; (with_reducible refine (HE.out _ _ _ P7.out.rds).mono ?_); rintro e w8 ⟨A8, c8, rfl, ho, hb⟩; have B8 := Aside0.mk (below_step B7.out hb); have P8 := Aside0.mk ho; have P78 := Aside0.mk (P7.out.below hb); clear ho hb P7 B7)
    | (go_at_call 14; (with_reducible refine (NS.out _).mono ?_); rintro e w9 ⟨p, rfl, hp, hi, hb⟩; have HP := Aside0.mk hp; have B9 := Aside0.mk hb; have E9 := Aside0.mk (show EarS w9 w9 p (.slice none 0 0) s0 from ⟨Fr.refl _ _, fun k hk => by simp [Value.ownBlock] at hk, hi⟩); clear hp hi hb NS))
  have H0 : (hear R0 (T.take 0)).length = 0 := by simp [hear]
  go_loopg [15, 16, 17, 18] (k + 1) (fun kq v15 v16 v17 v18 w' => ∃ (i : Nat) (v : Value) (s : Rr), v15 = .int .i64 (((hear R0 (T.take i)).length : Nat) : Int) ∧ v16 = .int .i64 i ∧ i ≤ k ∧ kq = k + 1 - i ∧ Aside0 (Ok (after R0 (T.take i)) ∧ OkR s ∧ Sim (after R0 (T.take i)) s) ∧ Aside0 (EarS w9 w' p v s))
  case atStart => exact ⟨0, _, s0, by rw [H0]; rfl, rfl, by omega, by omega, by simpa [after] using S0, E9⟩
  case round =>
    clear E9 H0 S0
    obtain ⟨i, v, s, rfl, rfl, hi, hkq, KK, E2⟩ := hrel
    have HB := Aside0.mk (E2.out.below B9.out B9.out.size HP.out)
    have hb := P78.out.rds.below HB.out
    have hg := P8.out.rds
    have HLN := hear_len (T.take i) R0
    rw [List.length_take] at HLN
    by_cases hlt : i < k
    · obtain ⟨ad, hA⟩ := hb.some_at i hlt
      cases hA
      have hx := hb.cell_int (Below.refl _ _) i hlt
      have hil : i < T.length := by have := HK.out; omega
      have hcb := OT.out _ (rd_mem T i hil)
      have AS := after_s R0 T i hil
      have HS := hear_s R0 T i hil
      obtain ⟨kk, bb, hkb⟩ : ∃ kk bb, (after R0 (T.take i)).out (rd T i) = (kk, bb) := ⟨_, _, rfl⟩
      have hks : s.out (rd T i) = (kk, bb) := by rw [← hkb]; exact (KK.out.2.2.out _).symm
      have PU := rpush_ok p v s (rd T i) KK.out.2.1 hcb.1 hcb.2 wr E2.out.is
      have KN := Aside0.mk (show Ok ((after R0 (T.take i)).push (rd T i)) ∧ OkR (s.push (rd T i)) ∧ Sim ((after R0 (T.take i)).push (rd T i)) (s.push (rd T i)) from ⟨KK.out.1.push hcb.1 hcb.2, KK.out.2.1.push hcb.1 hcb.2, KK.out.2.2.push _⟩)
      rw [← AS] at KN
      rw [hks] at PU
      rw [hkb] at HS
      have PU := Aside0.mk PU
      have PA := part_at R0 T i bb
      clear AS hkb hks hcb hb
      generalize rd T i = x at *
      by_cases hk1 : kk = 1
      · subst hk1
        simp only [if_true] at HS
        obtain ⟨pa, pb⟩ := PA HS
        obtain ⟨nn, hnn⟩ : ∃ nn, nn = (hear R0 (T.take i)).length := ⟨_, rfl⟩
        have HS2 : Aside0 ((hear R0 (T.take (i + 1))).length = nn + 1) := ⟨by rw [HS, hnn]; simp⟩
        rw [← hnn] at pa pb HLN ⊢
        rw [HM.out] at pb
        have hge : ¬ ((m : Nat) : Int) ≤ ((nn : Nat) : Int) := by omega
        obtain ⟨ad2, hA2, hcell⟩ := Kd.at_string hg.row ((nn : Nat) : Int) (by omega) (by omega)
        cases hA2
        have hrd : rdOf ByteArray.empty ((hear R0 T).map strOfNums) ((nn : Nat) : Int) = strOfNums bb := by
          simp [rdOf, List.getD_eq_getElem?_getD, pa]
        rw [hrd, Int.toNat_natCast] at hcell
        have HCL := Aside0.mk (fun w' (hb : Below w8.heap.size w8 w') => (hb.cell (World.block_lt_of_cell? w8 _ hcell)).trans hcell)
        clear HS PA pa hnn hrd hg hcell
        have hmm2 : ((nn : Nat) : Int) < ((m : Nat) : Int) := by omega
        go_wp2_with (first
          | (go_at_call 15; (with_reducible refine PU.out.mono ?_); rintro e w10 ⟨u, v2, rfl, ho, hi2, hn2, hf2⟩; obtain ⟨A10, c10, rfl, _⟩ := ho.slice; have hcell := HCL.out w10 (E2.out.step B9.out B9.out.size HP.out hf2); have CV := Aside0.mk (fun w' (hb : Below w10.heap.size w10 w') => conv22 A10 _ c10 bb w' (ho.rds.below hb)); have hcell := Aside0.mk (fun w' (hb : Below w10.heap.size w10 w') => (hb.cell (World.block_lt_of_cell? w10 _ hcell)).trans hcell); have E3 := Aside0.mk (E2.out.push hi2 hn2 hf2); clear ho hi2 hn2 hf2))
        refine region_known 13 13 [?rca15_0, ?rca15_1, .int .i64 ((m : Nat) : Int), .bool false, .bool false, ?rca15_5, ?rca15_6, ?rca15_7, .string (strOfNums bb), ?rca15_9, .string (strOfNums bb), .bool false, .bool false] (fun _ _ w' => Below w10.heap.size w10 w') (by kernel_rfl) (by kernel_rfl) (by kernel_rfl) (fun _ _ w1 w2 hb hj => below_step hj hb) (Below.refl _ _) ?rgoa15 ?rgra15
        case rgoa15 =>
          refine ⟨?_, ?_, ?_, ?_, ?_, ?_, ?_, ?_, ?_, ?_, ?_, ?_, ?_, trivial⟩
          · intro b1_ b2_ a_ w_ st x1_ x2_ y1_ y2_ hJ_
            have e15 : a_.eval (.tmp 15) = .int .i64 ((nn : Nat) : Int) := st.slot 15 (by kernel_rfl)
            try simp only [List.getD_cons_zero, List.getD_cons_succ] at e15
            refine op2_yield _ (by rfl) ?_ rfl (by decide) (by decide) hJ_
            simp only [execOp, e15]
            go_simp
            all_goals first | with_reducible rfl | omega
          · intro b1_ b2_ a_ w_ st x1_ x2_ y1_ y2_ hJ_
            have e13 : a_.eval (.tmp 13) = .slice (some ad2) m c8 := st.slot 13 (by kernel_rfl)
            try simp only [List.getD_cons_zero, List.getD_cons_succ] at e13
            refine op2_yield _ (by rfl) ?_ rfl (by decide) (by decide) hJ_
            simp only [execOp, e13]
            go_simp
            all_goals first | with_reducible rfl | omega
          · intro b1_ b2_ a_ w_ st x1_ x2_ y1_ y2_ hJ_
            have e98 : a_.eval (.tmp 98) = _ := st.dep 1 _ 98 rfl rfl (by kernel_rfl)
            try simp only [List.getD_cons_zero, List.getD_cons_succ] at e98
            refine op2_yield _ (by rfl) ?_ rfl (by decide) (by decide) hJ_
            exact run_len Try.underlying26 (by rfl) e98 (by omega)
          · intro b1_ b2_ a_ w_ st x1_ x2_ y1_ y2_ hJ_
            have e97 : a_.eval (.tmp 97) = _ := st.dep 0 _ 97 rfl rfl (by kernel_rfl)
            have e99 : a_.eval (.tmp 99) = _ := st.dep 2 _ 99 rfl rfl (by kernel_rfl)
            try simp only [List.getD_cons_zero, List.getD_cons_succ] at e97 e99
            refine op2_yield _ (by rfl) ?_ rfl (by decide) (by decide) hJ_
            simp only [execOp, e97, e99]
            go_simp
            all_goals first | with_reducible rfl | omega
          · intro b1_ b2_ a_ w_ st x1_ x2_ y1_ y2_ hJ_
            have e100 : a_.eval (.tmp 100) = _ := st.dep 3 _ 100 rfl rfl (by kernel_rfl)
            try simp only [List.getD_cons_zero, List.getD_cons_succ] at e100
            refine op2_yield _ (by rfl) ?_ rfl (by decide) (by decide) hJ_
            simp only [execOp, e100]
            go_simp
            all_goals first | with_reducible rfl | omega
          · intro b1_ b2_ a_ w_ st x1_ x2_ y1_ y2_ hJ_
            have e13 : a_.eval (.tmp 13) = .slice (some ad2) m c8 := st.slot 13 (by kernel_rfl)
            have e101 : a_.eval (.tmp 101) = _ := st.dep 4 _ 101 rfl rfl (by kernel_rfl)
            try simp only [List.getD_cons_zero, List.getD_cons_succ] at e13 e101
            refine op2_yield _ (wanted_some rfl (st.yields 4 _ 101 rfl rfl (of_decide_eq_true (by kernel_rfl)) false e101)) ?_ rfl (by decide) (by decide) hJ_
            simp only [execOp, e13, e101]
            go_simp
            all_goals first | with_reducible rfl | omega
          · intro b1_ b2_ a_ w_ st x1_ x2_ y1_ y2_ hJ_
            have e15 : a_.eval (.tmp 15) = .int .i64 ((nn : Nat) : Int) := st.slot 15 (by kernel_rfl)
            have e101 : a_.eval (.tmp 101) = _ := st.dep 4 _ 101 rfl rfl (by kernel_rfl)
            try simp only [List.getD_cons_zero, List.getD_cons_succ] at e15 e101
            refine op2_yield _ (wanted_some rfl (st.yields 4 _ 101 rfl rfl (of_decide_eq_true (by kernel_rfl)) false e101)) ?_ rfl (by decide) (by decide) hJ_
            simp only [execOp, e15, e101]
            go_simp
            all_goals first | with_reducible rfl | omega
          · intro b1_ b2_ a_ w_ st x1_ x2_ y1_ y2_ hJ_
            have e102 : a_.eval (.tmp 102) = _ := st.dep 5 _ 102 rfl rfl (by kernel_rfl)
            have e103 : a_.eval (.tmp 103) = _ := st.dep 6 _ 103 rfl rfl (by kernel_rfl)
            have e101 : a_.eval (.tmp 101) = _ := st.dep 4 _ 101 rfl rfl (by kernel_rfl)
            try simp only [List.getD_cons_zero, List.getD_cons_succ] at e102 e103 e101
            refine op2_yield _ (wanted_some rfl (st.yields 4 _ 101 rfl rfl (of_decide_eq_true (by kernel_rfl)) false e101)) ?_ rfl (by decide) (by decide) hJ_
            simp only [execOp, e102, e103, e101]
            go_simp
            all_goals first | with_reducible rfl | omega
          · intro b1_ b2_ a_ w_ st x1_ x2_ y1_ y2_ hJ_
            have e104 : a_.eval (.tmp 104) = _ := st.dep 7 _ 104 rfl rfl (by kernel_rfl)
            have e101 : a_.eval (.tmp 101) = _ := st.dep 4 _ 101 rfl rfl (by kernel_rfl)
            try simp only [List.getD_cons_zero, List.getD_cons_succ] at e104 e101
            have hc_ := hcell.out w_ hJ_
            refine op2_yield _ (wanted_some rfl (st.yields 4 _ 101 rfl rfl (of_decide_eq_true (by kernel_rfl)) false e101)) ?_ rfl (by decide) (by decide) hJ_
            simp only [execOp, e104, e101]
            go_simp
            all_goals first | with_reducible rfl | omega
          · intro b1_ b2_ a_ w_ st x1_ x2_ y1_ y2_ hJ_
            have e18 : a_.eval (.tmp 18) = .slice A10 bb.length c10 := st.slot 18 (by kernel_rfl)
            have e101 : a_.eval (.tmp 101) = _ := st.dep 4 _ 101 rfl rfl (by kernel_rfl)
            try simp only [List.getD_cons_zero, List.getD_cons_succ] at e18 e101
            refine op2_yield _ (wanted_some rfl (st.yields 4 _ 101 rfl rfl (of_decide_eq_true (by kernel_rfl)) false e101)) ?_ rfl (by decide) (by decide) hJ_
            simp only [execOp, e18, e101]
            go_simp
            all_goals first | with_reducible rfl | omega
          · intro b1_ b2_ a_ w_ st x1_ x2_ y1_ y2_ hJ_
            have e106 : a_.eval (.tmp 106) = _ := st.dep 9 _ 106 rfl rfl (by kernel_rfl)
            have e101 : a_.eval (.tmp 101) = _ := st.dep 4 _ 101 rfl rfl (by kernel_rfl)
            try simp only [List.getD_cons_zero, List.getD_cons_succ] at e106 e101
            have hc_ := CV.out w_ hJ_
            refine op2_yield _ (wanted_some rfl (st.yields 4 _ 101 rfl rfl (of_decide_eq_true (by kernel_rfl)) false e101)) ?_ rfl (by decide) (by decide) hJ_
            simp [execOp, e106, hc_]
          · intro b1_ b2_ a_ w_ st x1_ x2_ y1_ y2_ hJ_
            have e105 : a_.eval (.tmp 105) = _ := st.dep 8 _ 105 rfl rfl (by kernel_rfl)
            have e107 : a_.eval (.tmp 107) = _ := st.dep 10 _ 107 rfl rfl (by kernel_rfl)
            have e101 : a_.eval (.tmp 101) = _ := st.dep 4 _ 101 rfl rfl (by kernel_rfl)
            try simp only [List.getD_cons_zero, List.getD_cons_succ] at e105 e107 e101
            refine op2_yield _ (wanted_some rfl (st.yields 4 _ 101 rfl rfl (of_decide_eq_true (by kernel_rfl)) false e101)) ?_ rfl (by decide) (by decide) hJ_
            simp only [execOp, e105, e107, e101]
            go_simp
            all_goals first | with_reducible rfl | omega
          · intro b1_ b2_ a_ w_ st x1_ x2_ y1_ y2_ hJ_
            have e101 : a_.eval (.tmp 101) = _ := st.dep 4 _ 101 rfl rfl (by kernel_rfl)
            have e108 : a_.eval (.tmp 108) = _ := st.dep 11 _ 108 rfl rfl (by kernel_rfl)
            try simp only [List.getD_cons_zero, List.getD_cons_succ] at e101 e108
            refine op2_yield _ (by rfl) ?_ rfl (by decide) (by decide) hJ_
            simp only [execOp, e101, e108]
            go_simp
            all_goals first | with_reducible rfl | omega
        case rgra15 =>
          intro w11 hj
          have hj := (show Below w10.heap.size w10 w11 from hj)
          simp only [putL, Act.put, List.headD_cons, List.tail_cons, List.setIfInBounds_toArray, List.set_cons_zero, List.set_cons_succ]
          have E4 := Aside0.mk (E3.out.wide hj)
          clear hj CV hcell
          go_wp2
          go_roundg (k - i)
          case measure => omega
          case rel => exact ⟨i + 1, v2, s.push x, by rw [HS2.out]; simp, by go_num, by omega, by omega, KN, E4⟩
      · have b1 : (kk == 1) = false := beq_eq_false_iff_ne.mpr hk1
        have HK1 := Aside0.mk hk1
        have HS := Aside0.mk HS
        clear hk1 PA hg
        go_wp2_with (first
          | (go_at_call 15; (with_reducible refine PU.out.mono ?_); rintro e w10 ⟨u, v2, rfl, ho, hi2, hn2, hf2⟩; obtain ⟨A10, c10, rfl, _⟩ := ho.slice; have E3 := Aside0.mk (E2.out.push hi2 hn2 hf2); clear ho hi2 hn2 hf2))
        go_roundg (k - i)
        case measure => omega
        case rel => exact ⟨i + 1, v2, s.push x, by rw [HS.out, if_neg HK1.out, List.append_nil], by go_num, by omega, by omega, KN, E3⟩
    · have hi2 : i = k := by omega
      subst hi2
      rw [List.take_of_length_le (by have := HK.out; omega), HM.out]
      have hms : ((m - 1 : Nat) : Int) < ((m : Nat) : Int) := by omega
      have em : IntKind.i64.wrap (((m : Nat) : Int) - 1) = ((m - 1 : Nat) : Int) := by rw [i64_w]; unfold wrap64; omega
      have hm11 : (1 : Int) ≤ ((m : Nat) : Int) := by omega
      obtain ⟨ad2, hA2, hcell⟩ := Kd.at_string hg.row ((m - 1 : Nat) : Int) (by omega) (by omega)
      cases hA2
      have hrd : rdOf ByteArray.empty ((hear R0 T).map strOfNums) ((m - 1 : Nat) : Int) = strOfNums l := by
        simp [rdOf, List.getD_eq_getElem?_getD, LST.out]
      rw [hrd, Int.toNat_natCast] at hcell
      have hcell := (HB.out.cell (World.block_lt_of_cell? w8 _ hcell)).trans hcell
      have CVX := Aside0.mk (fun w' (hb : Below wr.heap.size wr w') => conv22 A2 n2 c2 l w' ((HR2.out.below (below_step B8.out HB.out)).below hb))
      have HCX := Aside0.mk (fun w' (hb : Below wr.heap.size wr w') => (hb.cell (World.block_lt_of_cell? wr _ hcell)).trans hcell)
      have BE := Aside0.mk (below_step B8.out HB.out)
      clear hrd hg hb hcell
      generalize hmz : m - 1 = m1 at *
      clear hmz
      go_wp2_with fail
      refine region_known 19 19 [?rcb18_0, ?rcb18_1, .int .i64 ((m : Nat) : Int), .bool true, .bool true, ?rcb18_5, .bool true, .bool true, .bool true, ?rcb18_9, ?rcb18_10, ?rcb18_11, ?rcb18_12, .string (strOfNums l), ?rcb18_14, .string (strOfNums l), .bool true, .bool true, .bool true] (fun _ _ w' => Below wr.heap.size wr w') (by kernel_rfl) (by kernel_rfl) (by kernel_rfl) (fun _ _ w1 w2 hb hj => below_step hj hb) (Below.refl _ _) ?rgob18 ?rgrb18
      case rgob18 =>
        refine ⟨?_, ?_, ?_, ?_, ?_, ?_, ?_, ?_, ?_, ?_, ?_, ?_, ?_, ?_, ?_, ?_, ?_, ?_, ?_, trivial⟩
        · intro b1_ b2_ a_ w_ st x1_ x2_ y1_ y2_ hJ_
          have e15 : a_.eval (.tmp 15) = .int .i64 ((m : Nat) : Int) := st.slot 15 (by kernel_rfl)
          try simp only [List.getD_cons_zero, List.getD_cons_succ] at e15
          refine op2_yield _ (by rfl) ?_ rfl (by decide) (by decide) hJ_
          simp only [execOp, e15]
          go_simp
          all_goals first | with_reducible rfl | omega
        · intro b1_ b2_ a_ w_ st x1_ x2_ y1_ y2_ hJ_
          have e13 : a_.eval (.tmp 13) = .slice (some ad2) m c8 := st.slot 13 (by kernel_rfl)
          try simp only [List.getD_cons_zero, List.getD_cons_succ] at e13
          refine op2_yield _ (by rfl) ?_ rfl (by decide) (by decide) hJ_
          simp only [execOp, e13]
          go_simp
          all_goals first | with_reducible rfl | omega
        · intro b1_ b2_ a_ w_ st x1_ x2_ y1_ y2_ hJ_
          have e113 : a_.eval (.tmp 113) = _ := st.dep 1 _ 113 rfl rfl (by kernel_rfl)
          try simp only [List.getD_cons_zero, List.getD_cons_succ] at e113
          refine op2_yield _ (by rfl) ?_ rfl (by decide) (by decide) hJ_
          exact run_len Try.underlying26 (by rfl) e113 (by omega)
        · intro b1_ b2_ a_ w_ st x1_ x2_ y1_ y2_ hJ_
          have e112 : a_.eval (.tmp 112) = _ := st.dep 0 _ 112 rfl rfl (by kernel_rfl)
          have e114 : a_.eval (.tmp 114) = _ := st.dep 2 _ 114 rfl rfl (by kernel_rfl)
          try simp only [List.getD_cons_zero, List.getD_cons_succ] at e112 e114
          refine op2_yield _ (by rfl) ?_ rfl (by decide) (by decide) hJ_
          simp only [execOp, e112, e114]
          go_simp
          all_goals first | with_reducible rfl | omega
        · intro b1_ b2_ a_ w_ st x1_ x2_ y1_ y2_ hJ_
          have e115 : a_.eval (.tmp 115) = _ := st.dep 3 _ 115 rfl rfl (by kernel_rfl)
          try simp only [List.getD_cons_zero, List.getD_cons_succ] at e115
          refine op2_yield _ (by rfl) ?_ rfl (by decide) (by decide) hJ_
          simp only [execOp, e115]
          go_simp
          all_goals first | with_reducible rfl | omega
        · intro b1_ b2_ a_ w_ st x1_ x2_ y1_ y2_ hJ_
          have e15 : a_.eval (.tmp 15) = .int .i64 ((m : Nat) : Int) := st.slot 15 (by kernel_rfl)
          have e116 : a_.eval (.tmp 116) = _ := st.dep 4 _ 116 rfl rfl (by kernel_rfl)
          try simp only [List.getD_cons_zero, List.getD_cons_succ] at e15 e116
          refine op2_yield _ (wanted_some rfl (st.yields 4 _ 116 rfl rfl (of_decide_eq_true (by kernel_rfl)) true e116)) ?_ rfl (by decide) (by decide) hJ_
          simp only [execOp, e15, e116]
          go_simp
          all_goals first | with_reducible rfl | omega
        · intro b1_ b2_ a_ w_ st x1_ x2_ y1_ y2_ hJ_
          have e117 : a_.eval (.tmp 117) = _ := st.dep 5 _ 117 rfl rfl (by kernel_rfl)
          have e116 : a_.eval (.tmp 116) = _ := st.dep 4 _ 116 rfl rfl (by kernel_rfl)
          try simp only [List.getD_cons_zero, List.getD_cons_succ] at e117 e116
          refine op2_yield _ (wanted_some rfl (st.yields 4 _ 116 rfl rfl (of_decide_eq_true (by kernel_rfl)) true e116)) ?_ rfl (by decide) (by decide) hJ_
          simp only [execOp, e117, e116]
          go_simp
          all_goals first | with_reducible rfl | omega
        · intro b1_ b2_ a_ w_ st x1_ x2_ y1_ y2_ hJ_
          have e116 : a_.eval (.tmp 116) = _ := st.dep 4 _ 116 rfl rfl (by kernel_rfl)
          have e118 : a_.eval (.tmp 118) = _ := st.dep 6 _ 118 rfl rfl (by kernel_rfl)
          try simp only [List.getD_cons_zero, List.getD_cons_succ] at e116 e118
          refine op2_yield _ (by rfl) ?_ rfl (by decide) (by decide) hJ_
          simp only [execOp, e116, e118]
          go_simp
          all_goals first | with_reducible rfl | omega
        · intro b1_ b2_ a_ w_ st x1_ x2_ y1_ y2_ hJ_
          have e119 : a_.eval (.tmp 119) = _ := st.dep 7 _ 119 rfl rfl (by kernel_rfl)
          try simp only [List.getD_cons_zero, List.getD_cons_succ] at e119
          refine op2_yield _ (by rfl) ?_ rfl (by decide) (by decide) hJ_
          simp only [execOp, e119]
          go_simp
          all_goals first | with_reducible rfl | omega
        · intro b1_ b2_ a_ w_ st x1_ x2_ y1_ y2_ hJ_
          have e13 : a_.eval (.tmp 13) = .slice (some ad2) m c8 := st.slot 13 (by kernel_rfl)
          have e120 : a_.eval (.tmp 120) = _ := st.dep 8 _ 120 rfl rfl (by kernel_rfl)
          try simp only [List.getD_cons_zero, List.getD_cons_succ] at e13 e120
          refine op2_yield _ (wanted_some rfl (st.yields 8 _ 120 rfl rfl (of_decide_eq_true (by kernel_rfl)) true e120)) ?_ rfl (by decide) (by decide) hJ_
          simp only [execOp, e13, e120]
          go_simp
          all_goals first | with_reducible rfl | omega
        · intro b1_ b2_ a_ w_ st x1_ x2_ y1_ y2_ hJ_
          have e15 : a_.eval (.tmp 15) = .int .i64 ((m : Nat) : Int) := st.slot 15 (by kernel_rfl)
          have e120 : a_.eval (.tmp 120) = _ := st.dep 8 _ 120 rfl rfl (by kernel_rfl)
          try simp only [List.getD_cons_zero, List.getD_cons_succ] at e15 e120
          refine op2_yield _ (wanted_some rfl (st.yields 8 _ 120 rfl rfl (of_decide_eq_true (by kernel_rfl)) true e120)) ?_ rfl (by decide) (by decide) hJ_
          simp only [execOp, e15, e120]
          go_simp
          all_goals first | with_reducible rfl | omega
        · intro b1_ b2_ a_ w_ st x1_ x2_ y1_ y2_ hJ_
          have e122 : a_.eval (.tmp 122) = _ := st.dep 10 _ 122 rfl rfl (by kernel_rfl)
          have e120 : a_.eval (.tmp 120) = _ := st.dep 8 _ 120 rfl rfl (by kernel_rfl)
          try simp only [List.getD_cons_zero, List.getD_cons_succ] at e122 e120
          refine op2_yield _ (wanted_some rfl (st.yields 8 _ 120 rfl rfl (of_decide_eq_true (by kernel_rfl)) true e120)) ?_ rfl (by decide) (by decide) hJ_
          simp only [execOp, e122, e120]
          go_simp
          all_goals first | with_reducible rfl | omega
        · intro b1_ b2_ a_ w_ st x1_ x2_ y1_ y2_ hJ_
          have e121 : a_.eval (.tmp 121) = _ := st.dep 9 _ 121 rfl rfl (by kernel_rfl)
          have e123 : a_.eval (.tmp 123) = _ := st.dep 11 _ 123 rfl rfl (by kernel_rfl)
          have e120 : a_.eval (.tmp 120) = _ := st.dep 8 _ 120 rfl rfl (by kernel_rfl)
          try simp only [List.getD_cons_zero, List.getD_cons_succ] at e121 e123 e120
          refine op2_yield _ (wanted_some rfl (st.yields 8 _ 120 rfl rfl (of_decide_eq_true (by kernel_rfl)) true e120)) ?_ rfl (by decide) (by decide) hJ_
          simp only [execOp, e121, e123, e120]
          go_simp
          all_goals first | with_reducible rfl | omega
        · intro b1_ b2_ a_ w_ st x1_ x2_ y1_ y2_ hJ_
          have e124 : a_.eval (.tmp 124) = _ := st.dep 12 _ 124 rfl rfl (by kernel_rfl)
          have e120 : a_.eval (.tmp 120) = _ := st.dep 8 _ 120 rfl rfl (by kernel_rfl)
          try simp only [List.getD_cons_zero, List.getD_cons_succ] at e124 e120
          have hc_ := HCX.out w_ hJ_
          refine op2_yield _ (wanted_some rfl (st.yields 8 _ 120 rfl rfl (of_decide_eq_true (by kernel_rfl)) true e120)) ?_ rfl (by decide) (by decide) hJ_
          simp only [execOp, e124, e120]
          go_simp
          all_goals first | with_reducible rfl | omega
        · intro b1_ b2_ a_ w_ st x1_ x2_ y1_ y2_ hJ_
          have e1 : a_.eval (.tmp 1) = .slice A2 n2 c2 := st.slot 1 (by kernel_rfl)
          have e120 : a_.eval (.tmp 120) = _ := st.dep 8 _ 120 rfl rfl (by kernel_rfl)
          try simp only [List.getD_cons_zero, List.getD_cons_succ] at e1 e120
          refine op2_yield _ (wanted_some rfl (st.yields 8 _ 120 rfl rfl (of_decide_eq_true (by kernel_rfl)) true e120)) ?_ rfl (by decide) (by decide) hJ_
          simp only [execOp, e1, e120]
          go_simp
          all_goals first | with_reducible rfl | omega
        · intro b1_ b2_ a_ w_ st x1_ x2_ y1_ y2_ hJ_
          have e126 : a_.eval (.tmp 126) = _ := st.dep 14 _ 126 rfl rfl (by kernel_rfl)
          have e120 : a_.eval (.tmp 120) = _ := st.dep 8 _ 120 rfl rfl (by kernel_rfl)
          try simp only [List.getD_cons_zero, List.getD_cons_succ] at e126 e120
          have hc_ := CVX.out w_ hJ_
          refine op2_yield _ (wanted_some rfl (st.yields 8 _ 120 rfl rfl (of_decide_eq_true (by kernel_rfl)) true e120)) ?_ rfl (by decide) (by decide) hJ_
          simp [execOp, e126, hc_]
        · intro b1_ b2_ a_ w_ st x1_ x2_ y1_ y2_ hJ_
          have e125 : a_.eval (.tmp 125) = _ := st.dep 13 _ 125 rfl rfl (by kernel_rfl)
          have e127 : a_.eval (.tmp 127) = _ := st.dep 15 _ 127 rfl rfl (by kernel_rfl)
          have e120 : a_.eval (.tmp 120) = _ := st.dep 8 _ 120 rfl rfl (by kernel_rfl)
          try simp only [List.getD_cons_zero, List.getD_cons_succ] at e125 e127 e120
          refine op2_yield _ (wanted_some rfl (st.yields 8 _ 120 rfl rfl (of_decide_eq_true (by kernel_rfl)) true e120)) ?_ rfl (by decide) (by decide) hJ_
          simp only [execOp, e125, e127, e120]
          go_simp
          all_goals first | with_reducible rfl | omega
        · intro b1_ b2_ a_ w_ st x1_ x2_ y1_ y2_ hJ_
          have e120 : a_.eval (.tmp 120) = _ := st.dep 8 _ 120 rfl rfl (by kernel_rfl)
          have e128 : a_.eval (.tmp 128) = _ := st.dep 16 _ 128 rfl rfl (by kernel_rfl)
          try simp only [List.getD_cons_zero, List.getD_cons_succ] at e120 e128
          refine op2_yield _ (by rfl) ?_ rfl (by decide) (by decide) hJ_
          simp only [execOp, e120, e128]
          go_simp
          all_goals first | with_reducible rfl | omega
        · intro b1_ b2_ a_ w_ st x1_ x2_ y1_ y2_ hJ_
          have e129 : a_.eval (.tmp 129) = _ := st.dep 17 _ 129 rfl rfl (by kernel_rfl)
          try simp only [List.getD_cons_zero, List.getD_cons_succ] at e129
          refine op2_yield _ (by rfl) ?_ rfl (by decide) (by decide) hJ_
          simp only [execOp, e129]
          go_simp
          all_goals first | with_reducible rfl | omega
      case rgrb18 =>
        intro w11 hj
        have hj := (show Below wr.heap.size wr w11 from hj)
        simp only [putL, Act.put, List.headD_cons, List.tail_cons, List.setIfInBounds_toArray, List.set_cons_zero, List.set_cons_succ]
        go_wp2
        first | go_ret | go_ret2 | ((try simp only [Exit.inBlock, Exit.then]); refine bodyPost_ret (results_tmp3 rfl _ _ _) rfl ?_) | go_end0 | refine bodyPost_ret0 rfl rfl ?_
        exact ⟨rfl, below_step BE.out hj⟩

set_option maxHeartbeats 8000000 in
set_option maxRecDepth 100000 in
theorem turned_early (A1 A2 : Option Addr) (n1 c1 n2 c2 : Nat) (wide : Bool) (at_ bit : Int) (w : World) (h : n1 < 1 ∨ 100 < n1 ∨ n2 < 1 ∨ 100 < n2 ∨ at_ < 0) (m1 : n1 ≤ 9223372036854775807) (m2 : n2 ≤ 9223372036854775807) :
    Calls Try.prog 4 #[.slice A1 n1 c1, .slice A2 n2 c2, .bool wide, .int .i64 at_, .int .i64 bit] w fun e w' => e = .returned (.bool true) ∧ Below w.heap.size w w' := by
  have key : (n1 : Int) < 1 ∨ (¬ (n1 : Int) < 1 ∧ (100 : Int) < (n1 : Int)) ∨ (¬ (n1 : Int) < 1 ∧ ¬ (100 : Int) < (n1 : Int) ∧ (n2 : Int) < 1) ∨ (¬ (n1 : Int) < 1 ∧ ¬ (100 : Int) < (n1 : Int) ∧ ¬ (n2 : Int) < 1 ∧ (100 : Int) < (n2 : Int)) ∨ (¬ (n1 : Int) < 1 ∧ ¬ (100 : Int) < (n1 : Int) ∧ ¬ (n2 : Int) < 1 ∧ ¬ (100 : Int) < (n2 : Int) ∧ at_ < 0) := by omega
  clear h
  rcases key with h1 | ⟨h1, h2⟩ | ⟨h1, h2, h3⟩ | ⟨h1, h2, h3, h4⟩ | ⟨h1, h2, h3, h4, h5⟩
  all_goals
    go_enter Try.func4, Try.ntmps4
    go_wp2_with (first | (go_at_call 10; (with_reducible refine (alive_ok _).mono ?_); rintro e w1 ⟨rfl, hb1⟩; have HB1 := Aside0.mk hb1; clear hb1))
    first | go_ret | go_ret2 | ((try simp only [Exit.inBlock, Exit.then]); refine bodyPost_ret (results_tmp3 rfl _ _ _) rfl ?_) | go_end0 | refine bodyPost_ret0 rfl rfl ?_
    exact ⟨rfl, HB1.out⟩
theorem walk (a0 : Option Addr) (len0 cap0 : Nat) (z0 : List Int) (a1 : Option Addr) (len1 cap1 : Nat) (z1 : List Int) (a2 : Bool) (a3 a4 : Int) (W : World) (w0 : IsRow .u8 W a0 len0 cap0 z0) (_y0 : len0 * 1 ≤ 140737488351232) (w1 : IsRow .u8 W a1 len1 cap1 z1) (_y1 : len1 * 1 ≤ 140737488351232) (w3 : (Lit.int .i64 a3).wf = true) (_w4 : (Lit.int .i64 a4).wf = true) :
    Calls Try.prog 4 #[.slice a0 len0 cap0, .slice a1 len1 cap1, .bool a2, .int .i64 a3, .int .i64 a4] W fun e w' => e = .returned (.bool true) ∧ Below W.heap.size W w' := by
  obtain ⟨x, hr, hm, hw⟩ := rds_of_row w0
  obtain ⟨l, hr2, hm2, hw2⟩ := rds_of_row w1
  have hmx : a3 ≤ 9223372036854775807 := by
    have h1 : IntKind.i64.min = -9223372036854775808 := by decide
    have h2 : IntKind.i64.max = 9223372036854775807 := by decide
    simp [Lit.wf, h1, h2] at w3
    omega
  by_cases h : len0 < 1 ∨ 100 < len0 ∨ len1 < 1 ∨ 100 < len1 ∨ a3 < 0
  · exact turned_early a0 a1 len0 cap0 len1 cap1 a2 a3 a4 W h hm hm2
  · exact turned_in a0 a1 len0 cap0 len1 cap1 x l a2 a3 a4 W hr hr2 (fun x hx => wf_u8 (hw x hx)) (fun x hx => wf_u8 (hw2 x hx)) (by omega) (by omega) (by omega) (by omega) (by omega) hmx

end Go.Proofs.Ytlcemeligolabaa.FmTurnedW
