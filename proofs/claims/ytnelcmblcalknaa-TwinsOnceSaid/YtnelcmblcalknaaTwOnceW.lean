/- Of two rows of the same numbers that come mixed each number is fresh just once: the walk. -/
import Derived.Test.YtnelcmblcalknaaTwC
import Derived.Test.YtnelcmblcalknaaTwO
namespace Go.Proofs.Ytnelcmblcalknaa.TwOnceW
open Go.RowKit Go.Proofs.YtnelcmblcalknaaW.PrintWords Go.Proofs.YtnelcmblcalknaaW.PrintLast Go.Proofs.YtnelcmblcalknaaW.PrintMore Go.Proofs.Ytnelcmblcalknaa.K Go.Proofs.Ytnelcmblcalknaa.TwP Go.Proofs.Ytnelcmblcalknaa.TwA Go.Proofs.Ytnelcmblcalknaa.TwB Go.Proofs.Ytnelcmblcalknaa.TwQ Go.Proofs.Ytnelcmblcalknaa.TwC Go.Proofs.Ytnelcmblcalknaa.TwO
set_option linter.unusedVariables false
set_option linter.unusedSimpArgs false
attribute [local go_sem] max2_int min2_int max_two min_two

theorem and_low (x : Int) (m : Nat) (hm : m ≤ 3) : bits .and .i64 x m = (((BitVec.ofInt 64 x).toNat &&& m : Nat) : Int) := by
  simp only [bits]
  have h2 : (BitVec.ofInt IntKind.i64.bits (m : Int)).toNat = m := by
    rw [BitVec.toNat_ofInt]
    show ((m : Int) % ((2 ^ 64 : Nat) : Int)).toNat = m
    omega
  have h1 : (BitVec.ofInt IntKind.i64.bits x &&& BitVec.ofInt IntKind.i64.bits (m : Int)).toNat = (BitVec.ofInt 64 x).toNat &&& m := by
    rw [BitVec.toNat_and, h2]
    rfl
  rw [h1]
  have h3 : (BitVec.ofInt 64 x).toNat &&& m ≤ m := Nat.and_le_right
  generalize (BitVec.ofInt 64 x).toNat &&& m = y at *
  rw [IntKind.wrap_i64]
  omega
theorem and_three (x : Int) : (bits .and .i64 x 3 == 3) = (!(bits .and .i64 x 1 == 0) && !(bits .and .i64 x 2 == 0)) := by
  have h1 := and_low x 1 (by omega)
  have h2 := and_low x 2 (by omega)
  have h3 := and_low x 3 (by omega)
  rw [show (1 : Int) = ((1 : Nat) : Int) from rfl, show (2 : Int) = ((2 : Nat) : Int) from rfl, show (3 : Int) = ((3 : Nat) : Int) from rfl, h1, h2, h3]
  generalize (BitVec.ofInt 64 x).toNat = y
  have e1 : y &&& 1 = y % 2 := Nat.and_one_is_mod y
  have e3 : y &&& 3 = y % 4 := Nat.and_two_pow_sub_one_eq_mod y 2
  have e2 : y &&& 2 = (y.testBit 1).toNat * 2 := by
    have hle : y &&& 2 ≤ 2 := Nat.and_le_right
    have t0 := Nat.testBit_and y 2 0
    have t1 := Nat.testBit_and y 2 1
    rw [show Nat.testBit 2 1 = true by decide, Bool.and_true] at t1
    have hv : y &&& 2 = 0 ∨ y &&& 2 = 1 ∨ y &&& 2 = 2 := by omega
    rcases hv with hv | hv | hv
    · rw [hv] at t1 ⊢
      have : y.testBit 1 = false := t1.symm.trans (by decide)
      rw [this]
      rfl
    · rw [hv] at t0
      simp at t0
    · rw [hv] at t1 ⊢
      have : y.testBit 1 = true := t1.symm.trans (by decide)
      rw [this]
      rfl
  have e4 : y.testBit 1 = decide (y / 2 % 2 = 1) := by rw [Nat.testBit_eq_decide_div_mod_eq]
  rw [e1, e3, e2, e4]
  by_cases a : y / 2 % 2 = 1
  · by_cases b : y % 2 = 1
    · have : y % 4 = 3 := by omega
      simp [a, b, this]
    · have h5 : y % 2 = 0 := by omega
      have : ¬ y % 4 = 3 := by omega
      simp [a, h5]
      omega
  · have : ¬ y % 4 = 3 := by omega
    simp [a]
    omega
theorem and_one (x : Int) : bits .and .i64 x 1 = 0 ∨ bits .and .i64 x 1 = 1 := by
  have h1 := and_low x 1 (by omega)
  have e1 := Nat.and_one_is_mod (BitVec.ofInt 64 x).toNat
  rw [show (1 : Int) = ((1 : Nat) : Int) from rfl, h1, e1]
  omega
theorem mk23 (m : Nat) (hm : m ≤ 4096) (W : World) : (Instr.makeSlice 23 (.int .i64 (m : Int)) (.int .i64 (m : Int))).run Try.prog W = .ok (.slice (some ⟨W.heap.size, 0, none⟩) m m) (W.alloc (.cells (List.replicate m (.int .i64 0)).toArray 3)) := by
  have h := print_make_of (P := Try.prog) 23 3 (.int .i64 0) 8 Try.underlying23 rfl rfl (by decide) m (by omega) W
  have e : madeCells #[.int .i64 0] m = (List.replicate m (.int .i64 0)).toArray := by
    apply Array.ext
    · simp [madeCells]
    · intro i h1 h2
      simp [madeCells, Nat.mod_one]
  rwa [e] at h
def ints (l : List Int) : List Value := l.map (Value.int .i64)
theorem ints_at (l : List Int) (i : Nat) (h : i < l.length) : (ints l)[i]? = some (.int .i64 (l.getD i 0)) := by simp [ints, h]
theorem ints_set (l : List Int) (i : Nat) (x : Int) : (ints l).set i (.int .i64 x) = ints (l.set i x) := by simp [ints, List.map_set]
theorem wf_u32 {x : Int} (h : (Lit.int .u32 x).wf = true) : 0 ≤ x ∧ x < 4294967296 := by
  have h1 : IntKind.u32.min = 0 := by decide
  have h2 : IntKind.u32.max = 4294967295 := by decide
  simp [Lit.wf, h1, h2] at h
  omega
theorem is_far {w : World} {g c : Nat} {T : Tb} (h : Is w g c T) (tm i : Nat) (u : Value) (hne : ¬ (g = tm ∨ c = tm)) : Is (w.setCell ⟨tm, i, none⟩ u) g c T :=
  ⟨h.tab.far (p := ⟨tm, i, none⟩) (fun e => hne (Or.inl e)) u, h.row.far (p := ⟨tm, i, none⟩) (fun e => hne (Or.inr e)) u, h.ne⟩
theorem below_put {w w1 : World} {tm : Nat} (h : Below w.heap.size w w1) (hg : w.heap.size ≤ tm) (i : Nat) (u : Value) : Below w.heap.size w (w1.setCell ⟨tm, i, none⟩ u) :=
  Fr.above (S := fun k => k = tm) h h.size (Fr.put (Fr.refl _ w1) i u) (fun k hk he => by omega)
set_option maxHeartbeats 8000000 in
set_option maxRecDepth 100000 in
theorem once_in (fst : Int) (n sz : Nat) (A3 A4 : Option Addr) (n3 c3 n4 c4 : Nat) (lost lead : List Int) (w : World) (h0 : 0 ≤ fst) (h1 : fst < 4294967296) (hn : n ≤ 100) (hs : 2 ≤ sz) (hs2 : sz ≤ 64) (hr3 : Rds (Kd.int .i64) w A3 n3 c3 lost) (hr4 : Rds (Kd.int .i64) w A4 n4 c4 lead) (hl3 : n ≤ n3) (hl4 : 2 * n + 2 ≤ n4) (hm3 : n3 ≤ 9223372036854775807) (hm4 : n4 ≤ 9223372036854775807) :
    Calls Try.prog 3 #[.int .u32 fst, .int .i64 n, .int .i64 sz, .slice A3 n3 c3, .slice A4 n4 c4] w fun e w' => e = .returned (.bool true) ∧ Below w.heap.size w w' := by
  have B0 := Aside0.mk (Below.refl w.heap.size w)
  have HR3 := Aside0.mk hr3
  have HR4 := Aside0.mk hr4
  clear hr3 hr4
  obtain ⟨L1, hL1⟩ : ∃ L : Nat → Bool, L = fun k : Nat => (bits .and .i64 (rd lost k) 1 == 0) := ⟨_, rfl⟩
  obtain ⟨L2, hL2⟩ : ∃ L : Nat → Bool, L = fun k : Nat => (bits .and .i64 (rd lost k) 2 == 0) := ⟨_, rfl⟩
  have HL := Aside0.mk (And.intro hL1 hL2)
  clear hL1 hL2
  have START := Aside0.mk (Onc.start fst n sz L1 L2 hs hs2)
  have mk := fun W => mk23 n (by omega) W
  go_enter Try.func3, Try.ntmps3
  go_wp2_with (first
      | (go_at_call 8; (with_reducible refine (alive_ok _).mono ?_); rintro e w1 ⟨rfl, hb1⟩; have B1 := Aside0.mk (below_step B0.out hb1); clear hb1)
      | (go_at_call 9; (with_reducible refine (new_ok sz _).mono ?_); rintro e w2 ⟨g, c, rfl, hg, hc, h, hb⟩; have B2 := Aside0.mk (below_step B1.out hb); have G_a := Aside0.mk (And.intro (Nat.le_trans B1.out.size hg) (Nat.le_trans B1.out.size hc)); have I_a2 := Aside0.mk h; clear hg hc h hb))
  obtain ⟨tm, htm⟩ : ∃ tm, tm = w2.heap.size := ⟨_, rfl⟩
  have TM3 := Aside0.mk (show Ob (w2.alloc (.cells (Array.replicate n (.int .i64 0)) 3)) tm 3 (ints (List.replicate n 0)) by
    have := Ob.new w2 3 (List.replicate n (.int .i64 0))
    rw [← htm] at this
    simpa [ints] using this)
  have DT := Aside0.mk (show ¬ (g = tm ∨ c = tm) by have := I_a2.out.lt; omega)
  have GT := Aside0.mk (show w.heap.size ≤ tm by rw [htm]; exact B2.out.size)
  have I_a3 := Aside0.mk (I_a2.out.below (below_alloc (Below.refl _ _) (.cells (Array.replicate n (.int .i64 0)) 3)))
  have B3 := Aside0.mk (below_alloc B2.out (.cells (Array.replicate n (.int .i64 0)) 3))
  rw [← htm]
  clear mk I_a2 B2 htm
  generalize w2.alloc (.cells (Array.replicate n (.int .i64 0)) 3) = w3 at TM3 I_a3 B3 ⊢
  go_loopg [14, 15, 16, 17, 18, 19] (2 * n + 1) (fun kq v14 v15 v16 v17 v18 v19 w' => ∃ (a b : Nat) (T : Tb) (ts : List Int), v14 = .int .i64 a ∧ v15 = .int .i64 b ∧ v16 = .int .i64 ((a + b : Nat) : Int) ∧ a + b ≤ 2 * n ∧ kq = 2 * n + 1 - (a + b) ∧ Aside0 (Onc fst n sz L1 L2 a b T ts) ∧ Aside0 (Is w' g c T) ∧ Aside0 (Ob w' tm 3 (ints ts)) ∧ Aside0 (Below w.heap.size w w'))
  case atStart => exact ⟨0, 0, _, _, by simp, by simp, by simp, by omega, by omega, START, I_a3, TM3, B3⟩
  case round =>
    clear I_a3 TM3 B3 START
    obtain ⟨a, b, T, ts, rfl, rfl, rfl, hab, hm, ON, I_a4, TM4, B4⟩ := hrel
    have han := ON.out.an
    have hbn := ON.out.bn
    have hsa := ON.out.ab
    have hsb := ON.out.ba
    by_cases hl : a < n ∨ b < n
    · by_cases ha : a < n
      · by_cases hb0 : b = n
        · have bb : ((b : Int) == (n : Int)) = true := by rw [hb0]; exact beq_self_eq_true _
          obtain ⟨ad3, hA3, hx3⟩ := (HR3.out.below B4.out).int (a : Int) (by omega) (by omega)
          cases hA3
          simp only [Int.toNat_natCast] at hx3
          have hLL : L1 a = (bits .and .i64 (rd lost a) 1 == 0) := by rw [HL.out.1]
          generalize rd lost a = x3 at hx3 hLL
          have e1 : IntKind.u32.wrap (a : Int) = (a : Int) := by rw [u32_w]; omega
          obtain ⟨m, hm⟩ : ∃ m, m = (fst + a) % 4294967296 := ⟨_, rfl⟩
          have e2 : IntKind.u32.wrap (fst + (a : Int)) = m := by rw [u32_w, hm]
          have HM := Aside0.mk (show 0 ≤ m ∧ m < 4294967296 by omega)
          cases hb : L1 a
          · have hb2 := hLL.symm.trans hb
            have hps := fun j => (push_a L1 L2 a b j).trans (show _ = pushB L1 L2 a b j by rw [hb]; simp)
            have ON2 := Aside0.mk (ON.out.skip (a' := (a + 1)) (b' := b) (by omega) (by omega) (by omega) (by omega) hps)
            clear hps hLL e1 e2 hm
            go_wp2_with fail
            go_roundg (2 * n - (a + b))
            case measure => omega
            case rel => exact ⟨(a + 1), b, T, ts, by go_num, by go_num, by go_num, by omega, by omega, ⟨ON2.out⟩, I_a4, TM4, B4⟩
          · have hb2 := hLL.symm.trans hb
            have hps := fun j => (push_a L1 L2 a b j).trans (show _ = (pushB L1 L2 a b j || decide (j = a)) by rw [hb]; simp)
            have htk := ON.out.take (a' := (a + 1)) (b' := b) (k := a) h0 h1 hn (by omega) (by have := ON.out.ab; have := ON.out.ba; omega) (by have := ON.out.ab; have := ON.out.ba; omega) (by omega) (by omega) (by omega) (by omega) hps
            rw [← hm] at htk
            have TK1 := Aside0.mk htk.1
            have TK2 := Aside0.mk htk.2
            clear htk hps hLL hm
            cases hf : freshB T m
            · have ON2 := Aside0.mk (TK2.out hf)
              go_wp2_with (first
                | (go_at_call 10; (with_reducible refine (fresh_ok g c T ON.out.know.ok m HM.out.1 HM.out.2 _ I_a4.out).mono ?_); rintro e w5 ⟨rfl, h5, f5⟩; have B5 := Aside0.mk (Fr.above B4.out B4.out.size f5 (fun i hi he => by have := G_a.out; omega)); have I_a5 := Aside0.mk h5; have TM5 := Aside0.mk (TM4.out.fr f5 (fun h => DT.out (h.imp Eq.symm Eq.symm))); clear TM4; clear h5 f5 B4 I_a4))
              go_roundg (2 * n - (a + b))
              case measure => omega
              case rel => exact ⟨(a + 1), b, (freshT T m), ts, by go_num, by go_num, by go_num, by omega, by omega, ⟨ON2.out⟩, I_a5, TM5, B5⟩
            · obtain ⟨on2, ht0⟩ := TK1.out hf
              have ON2 := Aside0.mk on2
              have HT0 := Aside0.mk ht0
              clear on2 ht0
              have HTL := Aside0.mk ON.out.tl
              go_wp2_with (first
                | (go_at_call 10; (with_reducible refine (fresh_ok g c T ON.out.know.ok m HM.out.1 HM.out.2 _ I_a4.out).mono ?_); rintro e w5 ⟨rfl, h5, f5⟩; have B5 := Aside0.mk (Fr.above B4.out B4.out.size f5 (fun i hi he => by have := G_a.out; omega)); have I_a5 := Aside0.mk h5; have TM5 := Aside0.mk (TM4.out.fr f5 (fun h => DT.out (h.imp Eq.symm Eq.symm))); have t0 := TM5.out.at_ a (v := .int .i64 0) (by rw [ints_at _ _ (by rw [HTL.out]; omega), HT0.out]); have tf := TM5.out.frozen a; clear TM4; clear h5 f5 B4 I_a4))
              have TM6 := Aside0.mk ((TM5.out.set a (.int .i64 1)).to (ints_set _ _ _))
              have I_a6 := Aside0.mk (is_far I_a5.out tm a (.int .i64 1) DT.out)
              have B6 := Aside0.mk (below_put B5.out GT.out a (.int .i64 1))
              go_roundg (2 * n - (a + b))
              case measure => omega
              case rel => exact ⟨(a + 1), b, (freshT T m), (ts.set a 1), by go_num, by go_num, by go_num, by omega, by omega, ⟨by have := ON2.out; rw [HT0.out] at this; exact this⟩, I_a6, TM6, B6⟩
        · have hbl : b < n := by omega
          have bb : ((b : Int) == (n : Int)) = false := beq_eq_false_iff_ne.mpr (by omega)
          clear hb0
          obtain ⟨ad4, hA4, hx4⟩ := (HR4.out.below B4.out).int ((a + b : Nat) : Int) (by omega) (by omega)
          cases hA4
          simp only [Int.toNat_natCast] at hx4
          have h14 := and_one (rd lead ((a + b : Nat) : Int))
          generalize rd lead ((a + b : Nat) : Int) = x4 at hx4 h14
          rcases h14 with h14 | h14
          · by_cases hd : sz ≤ a + 1 - b
            · skip
              obtain ⟨ad3, hA3, hx3⟩ := (HR3.out.below B4.out).int (b : Int) (by omega) (by omega)
              cases hA3
              simp only [Int.toNat_natCast] at hx3
              have hLL : L2 b = (bits .and .i64 (rd lost b) 2 == 0) := by rw [HL.out.2]
              generalize rd lost b = x3 at hx3 hLL
              have e1 : IntKind.u32.wrap (b : Int) = (b : Int) := by rw [u32_w]; omega
              obtain ⟨m, hm⟩ : ∃ m, m = (fst + b) % 4294967296 := ⟨_, rfl⟩
              have e2 : IntKind.u32.wrap (fst + (b : Int)) = m := by rw [u32_w, hm]
              have HM := Aside0.mk (show 0 ≤ m ∧ m < 4294967296 by omega)
              cases hb : L2 b
              · have hb2 := hLL.symm.trans hb
                have hps := fun j => (push_b L1 L2 a b j).trans (show _ = pushB L1 L2 a b j by rw [hb]; simp)
                have ON2 := Aside0.mk (ON.out.skip (a' := a) (b' := (b + 1)) (by omega) (by omega) (by omega) (by omega) hps)
                clear hps hLL e1 e2 hm
                go_wp2_with fail
                go_roundg (2 * n - (a + b))
                case measure => omega
                case rel => exact ⟨a, (b + 1), T, ts, by go_num, by go_num, by go_num, by omega, by omega, ⟨ON2.out⟩, I_a4, TM4, B4⟩
              · have hb2 := hLL.symm.trans hb
                have hps := fun j => (push_b L1 L2 a b j).trans (show _ = (pushB L1 L2 a b j || decide (j = b)) by rw [hb]; simp)
                have htk := ON.out.take (a' := a) (b' := (b + 1)) (k := b) h0 h1 hn (by omega) (by have := ON.out.ab; have := ON.out.ba; omega) (by have := ON.out.ab; have := ON.out.ba; omega) (by omega) (by omega) (by omega) (by omega) hps
                rw [← hm] at htk
                have TK1 := Aside0.mk htk.1
                have TK2 := Aside0.mk htk.2
                clear htk hps hLL hm
                cases hf : freshB T m
                · have ON2 := Aside0.mk (TK2.out hf)
                  go_wp2_with (first
                    | (go_at_call 10; (with_reducible refine (fresh_ok g c T ON.out.know.ok m HM.out.1 HM.out.2 _ I_a4.out).mono ?_); rintro e w5 ⟨rfl, h5, f5⟩; have B5 := Aside0.mk (Fr.above B4.out B4.out.size f5 (fun i hi he => by have := G_a.out; omega)); have I_a5 := Aside0.mk h5; have TM5 := Aside0.mk (TM4.out.fr f5 (fun h => DT.out (h.imp Eq.symm Eq.symm))); clear TM4; clear h5 f5 B4 I_a4))
                  go_roundg (2 * n - (a + b))
                  case measure => omega
                  case rel => exact ⟨a, (b + 1), (freshT T m), ts, by go_num, by go_num, by go_num, by omega, by omega, ⟨ON2.out⟩, I_a5, TM5, B5⟩
                · obtain ⟨on2, ht0⟩ := TK1.out hf
                  have ON2 := Aside0.mk on2
                  have HT0 := Aside0.mk ht0
                  clear on2 ht0
                  have HTL := Aside0.mk ON.out.tl
                  go_wp2_with (first
                    | (go_at_call 10; (with_reducible refine (fresh_ok g c T ON.out.know.ok m HM.out.1 HM.out.2 _ I_a4.out).mono ?_); rintro e w5 ⟨rfl, h5, f5⟩; have B5 := Aside0.mk (Fr.above B4.out B4.out.size f5 (fun i hi he => by have := G_a.out; omega)); have I_a5 := Aside0.mk h5; have TM5 := Aside0.mk (TM4.out.fr f5 (fun h => DT.out (h.imp Eq.symm Eq.symm))); have t0 := TM5.out.at_ b (v := .int .i64 0) (by rw [ints_at _ _ (by rw [HTL.out]; omega), HT0.out]); have tf := TM5.out.frozen b; clear TM4; clear h5 f5 B4 I_a4))
                  have TM6 := Aside0.mk ((TM5.out.set b (.int .i64 1)).to (ints_set _ _ _))
                  have I_a6 := Aside0.mk (is_far I_a5.out tm b (.int .i64 1) DT.out)
                  have B6 := Aside0.mk (below_put B5.out GT.out b (.int .i64 1))
                  go_roundg (2 * n - (a + b))
                  case measure => omega
                  case rel => exact ⟨a, (b + 1), (freshT T m), (ts.set b 1), by go_num, by go_num, by go_num, by omega, by omega, ⟨by have := ON2.out; rw [HT0.out] at this; exact this⟩, I_a6, TM6, B6⟩
            · skip
              obtain ⟨ad3, hA3, hx3⟩ := (HR3.out.below B4.out).int (a : Int) (by omega) (by omega)
              cases hA3
              simp only [Int.toNat_natCast] at hx3
              have hLL : L1 a = (bits .and .i64 (rd lost a) 1 == 0) := by rw [HL.out.1]
              generalize rd lost a = x3 at hx3 hLL
              have e1 : IntKind.u32.wrap (a : Int) = (a : Int) := by rw [u32_w]; omega
              obtain ⟨m, hm⟩ : ∃ m, m = (fst + a) % 4294967296 := ⟨_, rfl⟩
              have e2 : IntKind.u32.wrap (fst + (a : Int)) = m := by rw [u32_w, hm]
              have HM := Aside0.mk (show 0 ≤ m ∧ m < 4294967296 by omega)
              cases hb : L1 a
              · have hb2 := hLL.symm.trans hb
                have hps := fun j => (push_a L1 L2 a b j).trans (show _ = pushB L1 L2 a b j by rw [hb]; simp)
                have ON2 := Aside0.mk (ON.out.skip (a' := (a + 1)) (b' := b) (by omega) (by omega) (by omega) (by omega) hps)
                clear hps hLL e1 e2 hm
                go_wp2_with fail
                go_roundg (2 * n - (a + b))
                case measure => omega
                case rel => exact ⟨(a + 1), b, T, ts, by go_num, by go_num, by go_num, by omega, by omega, ⟨ON2.out⟩, I_a4, TM4, B4⟩
              · have hb2 := hLL.symm.trans hb
                have hps := fun j => (push_a L1 L2 a b j).trans (show _ = (pushB L1 L2 a b j || decide (j = a)) by rw [hb]; simp)
                have htk := ON.out.take (a' := (a + 1)) (b' := b) (k := a) h0 h1 hn (by omega) (by have := ON.out.ab; have := ON.out.ba; omega) (by have := ON.out.ab; have := ON.out.ba; omega) (by omega) (by omega) (by omega) (by omega) hps
                rw [← hm] at htk
                have TK1 := Aside0.mk htk.1
                have TK2 := Aside0.mk htk.2
                clear htk hps hLL hm
                cases hf : freshB T m
                · have ON2 := Aside0.mk (TK2.out hf)
                  go_wp2_with (first
                    | (go_at_call 10; (with_reducible refine (fresh_ok g c T ON.out.know.ok m HM.out.1 HM.out.2 _ I_a4.out).mono ?_); rintro e w5 ⟨rfl, h5, f5⟩; have B5 := Aside0.mk (Fr.above B4.out B4.out.size f5 (fun i hi he => by have := G_a.out; omega)); have I_a5 := Aside0.mk h5; have TM5 := Aside0.mk (TM4.out.fr f5 (fun h => DT.out (h.imp Eq.symm Eq.symm))); clear TM4; clear h5 f5 B4 I_a4))
                  go_roundg (2 * n - (a + b))
                  case measure => omega
                  case rel => exact ⟨(a + 1), b, (freshT T m), ts, by go_num, by go_num, by go_num, by omega, by omega, ⟨ON2.out⟩, I_a5, TM5, B5⟩
                · obtain ⟨on2, ht0⟩ := TK1.out hf
                  have ON2 := Aside0.mk on2
                  have HT0 := Aside0.mk ht0
                  clear on2 ht0
                  have HTL := Aside0.mk ON.out.tl
                  go_wp2_with (first
                    | (go_at_call 10; (with_reducible refine (fresh_ok g c T ON.out.know.ok m HM.out.1 HM.out.2 _ I_a4.out).mono ?_); rintro e w5 ⟨rfl, h5, f5⟩; have B5 := Aside0.mk (Fr.above B4.out B4.out.size f5 (fun i hi he => by have := G_a.out; omega)); have I_a5 := Aside0.mk h5; have TM5 := Aside0.mk (TM4.out.fr f5 (fun h => DT.out (h.imp Eq.symm Eq.symm))); have t0 := TM5.out.at_ a (v := .int .i64 0) (by rw [ints_at _ _ (by rw [HTL.out]; omega), HT0.out]); have tf := TM5.out.frozen a; clear TM4; clear h5 f5 B4 I_a4))
                  have TM6 := Aside0.mk ((TM5.out.set a (.int .i64 1)).to (ints_set _ _ _))
                  have I_a6 := Aside0.mk (is_far I_a5.out tm a (.int .i64 1) DT.out)
                  have B6 := Aside0.mk (below_put B5.out GT.out a (.int .i64 1))
                  go_roundg (2 * n - (a + b))
                  case measure => omega
                  case rel => exact ⟨(a + 1), b, (freshT T m), (ts.set a 1), by go_num, by go_num, by go_num, by omega, by omega, ⟨by have := ON2.out; rw [HT0.out] at this; exact this⟩, I_a6, TM6, B6⟩
          · by_cases hd : sz ≤ b + 1 - a
            · skip
              obtain ⟨ad3, hA3, hx3⟩ := (HR3.out.below B4.out).int (a : Int) (by omega) (by omega)
              cases hA3
              simp only [Int.toNat_natCast] at hx3
              have hLL : L1 a = (bits .and .i64 (rd lost a) 1 == 0) := by rw [HL.out.1]
              generalize rd lost a = x3 at hx3 hLL
              have e1 : IntKind.u32.wrap (a : Int) = (a : Int) := by rw [u32_w]; omega
              obtain ⟨m, hm⟩ : ∃ m, m = (fst + a) % 4294967296 := ⟨_, rfl⟩
              have e2 : IntKind.u32.wrap (fst + (a : Int)) = m := by rw [u32_w, hm]
              have HM := Aside0.mk (show 0 ≤ m ∧ m < 4294967296 by omega)
              cases hb : L1 a
              · have hb2 := hLL.symm.trans hb
                have hps := fun j => (push_a L1 L2 a b j).trans (show _ = pushB L1 L2 a b j by rw [hb]; simp)
                have ON2 := Aside0.mk (ON.out.skip (a' := (a + 1)) (b' := b) (by omega) (by omega) (by omega) (by omega) hps)
                clear hps hLL e1 e2 hm
                go_wp2_with fail
                go_roundg (2 * n - (a + b))
                case measure => omega
                case rel => exact ⟨(a + 1), b, T, ts, by go_num, by go_num, by go_num, by omega, by omega, ⟨ON2.out⟩, I_a4, TM4, B4⟩
              · have hb2 := hLL.symm.trans hb
                have hps := fun j => (push_a L1 L2 a b j).trans (show _ = (pushB L1 L2 a b j || decide (j = a)) by rw [hb]; simp)
                have htk := ON.out.take (a' := (a + 1)) (b' := b) (k := a) h0 h1 hn (by omega) (by have := ON.out.ab; have := ON.out.ba; omega) (by have := ON.out.ab; have := ON.out.ba; omega) (by omega) (by omega) (by omega) (by omega) hps
                rw [← hm] at htk
                have TK1 := Aside0.mk htk.1
                have TK2 := Aside0.mk htk.2
                clear htk hps hLL hm
                cases hf : freshB T m
                · have ON2 := Aside0.mk (TK2.out hf)
                  go_wp2_with (first
                    | (go_at_call 10; (with_reducible refine (fresh_ok g c T ON.out.know.ok m HM.out.1 HM.out.2 _ I_a4.out).mono ?_); rintro e w5 ⟨rfl, h5, f5⟩; have B5 := Aside0.mk (Fr.above B4.out B4.out.size f5 (fun i hi he => by have := G_a.out; omega)); have I_a5 := Aside0.mk h5; have TM5 := Aside0.mk (TM4.out.fr f5 (fun h => DT.out (h.imp Eq.symm Eq.symm))); clear TM4; clear h5 f5 B4 I_a4))
                  go_roundg (2 * n - (a + b))
                  case measure => omega
                  case rel => exact ⟨(a + 1), b, (freshT T m), ts, by go_num, by go_num, by go_num, by omega, by omega, ⟨ON2.out⟩, I_a5, TM5, B5⟩
                · obtain ⟨on2, ht0⟩ := TK1.out hf
                  have ON2 := Aside0.mk on2
                  have HT0 := Aside0.mk ht0
                  clear on2 ht0
                  have HTL := Aside0.mk ON.out.tl
                  go_wp2_with (first
                    | (go_at_call 10; (with_reducible refine (fresh_ok g c T ON.out.know.ok m HM.out.1 HM.out.2 _ I_a4.out).mono ?_); rintro e w5 ⟨rfl, h5, f5⟩; have B5 := Aside0.mk (Fr.above B4.out B4.out.size f5 (fun i hi he => by have := G_a.out; omega)); have I_a5 := Aside0.mk h5; have TM5 := Aside0.mk (TM4.out.fr f5 (fun h => DT.out (h.imp Eq.symm Eq.symm))); have t0 := TM5.out.at_ a (v := .int .i64 0) (by rw [ints_at _ _ (by rw [HTL.out]; omega), HT0.out]); have tf := TM5.out.frozen a; clear TM4; clear h5 f5 B4 I_a4))
                  have TM6 := Aside0.mk ((TM5.out.set a (.int .i64 1)).to (ints_set _ _ _))
                  have I_a6 := Aside0.mk (is_far I_a5.out tm a (.int .i64 1) DT.out)
                  have B6 := Aside0.mk (below_put B5.out GT.out a (.int .i64 1))
                  go_roundg (2 * n - (a + b))
                  case measure => omega
                  case rel => exact ⟨(a + 1), b, (freshT T m), (ts.set a 1), by go_num, by go_num, by go_num, by omega, by omega, ⟨by have := ON2.out; rw [HT0.out] at this; exact this⟩, I_a6, TM6, B6⟩
            · skip
              obtain ⟨ad3, hA3, hx3⟩ := (HR3.out.below B4.out).int (b : Int) (by omega) (by omega)
              cases hA3
              simp only [Int.toNat_natCast] at hx3
              have hLL : L2 b = (bits .and .i64 (rd lost b) 2 == 0) := by rw [HL.out.2]
              generalize rd lost b = x3 at hx3 hLL
              have e1 : IntKind.u32.wrap (b : Int) = (b : Int) := by rw [u32_w]; omega
              obtain ⟨m, hm⟩ : ∃ m, m = (fst + b) % 4294967296 := ⟨_, rfl⟩
              have e2 : IntKind.u32.wrap (fst + (b : Int)) = m := by rw [u32_w, hm]
              have HM := Aside0.mk (show 0 ≤ m ∧ m < 4294967296 by omega)
              cases hb : L2 b
              · have hb2 := hLL.symm.trans hb
                have hps := fun j => (push_b L1 L2 a b j).trans (show _ = pushB L1 L2 a b j by rw [hb]; simp)
                have ON2 := Aside0.mk (ON.out.skip (a' := a) (b' := (b + 1)) (by omega) (by omega) (by omega) (by omega) hps)
                clear hps hLL e1 e2 hm
                go_wp2_with fail
                go_roundg (2 * n - (a + b))
                case measure => omega
                case rel => exact ⟨a, (b + 1), T, ts, by go_num, by go_num, by go_num, by omega, by omega, ⟨ON2.out⟩, I_a4, TM4, B4⟩
              · have hb2 := hLL.symm.trans hb
                have hps := fun j => (push_b L1 L2 a b j).trans (show _ = (pushB L1 L2 a b j || decide (j = b)) by rw [hb]; simp)
                have htk := ON.out.take (a' := a) (b' := (b + 1)) (k := b) h0 h1 hn (by omega) (by have := ON.out.ab; have := ON.out.ba; omega) (by have := ON.out.ab; have := ON.out.ba; omega) (by omega) (by omega) (by omega) (by omega) hps
                rw [← hm] at htk
                have TK1 := Aside0.mk htk.1
                have TK2 := Aside0.mk htk.2
                clear htk hps hLL hm
                cases hf : freshB T m
                · have ON2 := Aside0.mk (TK2.out hf)
                  go_wp2_with (first
                    | (go_at_call 10; (with_reducible refine (fresh_ok g c T ON.out.know.ok m HM.out.1 HM.out.2 _ I_a4.out).mono ?_); rintro e w5 ⟨rfl, h5, f5⟩; have B5 := Aside0.mk (Fr.above B4.out B4.out.size f5 (fun i hi he => by have := G_a.out; omega)); have I_a5 := Aside0.mk h5; have TM5 := Aside0.mk (TM4.out.fr f5 (fun h => DT.out (h.imp Eq.symm Eq.symm))); clear TM4; clear h5 f5 B4 I_a4))
                  go_roundg (2 * n - (a + b))
                  case measure => omega
                  case rel => exact ⟨a, (b + 1), (freshT T m), ts, by go_num, by go_num, by go_num, by omega, by omega, ⟨ON2.out⟩, I_a5, TM5, B5⟩
                · obtain ⟨on2, ht0⟩ := TK1.out hf
                  have ON2 := Aside0.mk on2
                  have HT0 := Aside0.mk ht0
                  clear on2 ht0
                  have HTL := Aside0.mk ON.out.tl
                  go_wp2_with (first
                    | (go_at_call 10; (with_reducible refine (fresh_ok g c T ON.out.know.ok m HM.out.1 HM.out.2 _ I_a4.out).mono ?_); rintro e w5 ⟨rfl, h5, f5⟩; have B5 := Aside0.mk (Fr.above B4.out B4.out.size f5 (fun i hi he => by have := G_a.out; omega)); have I_a5 := Aside0.mk h5; have TM5 := Aside0.mk (TM4.out.fr f5 (fun h => DT.out (h.imp Eq.symm Eq.symm))); have t0 := TM5.out.at_ b (v := .int .i64 0) (by rw [ints_at _ _ (by rw [HTL.out]; omega), HT0.out]); have tf := TM5.out.frozen b; clear TM4; clear h5 f5 B4 I_a4))
                  have TM6 := Aside0.mk ((TM5.out.set b (.int .i64 1)).to (ints_set _ _ _))
                  have I_a6 := Aside0.mk (is_far I_a5.out tm b (.int .i64 1) DT.out)
                  have B6 := Aside0.mk (below_put B5.out GT.out b (.int .i64 1))
                  go_roundg (2 * n - (a + b))
                  case measure => omega
                  case rel => exact ⟨a, (b + 1), (freshT T m), (ts.set b 1), by go_num, by go_num, by go_num, by omega, by omega, ⟨by have := ON2.out; rw [HT0.out] at this; exact this⟩, I_a6, TM6, B6⟩
      · have hbl : b < n := by omega
        obtain ⟨ad3, hA3, hx3⟩ := (HR3.out.below B4.out).int (b : Int) (by omega) (by omega)
        cases hA3
        simp only [Int.toNat_natCast] at hx3
        have hLL : L2 b = (bits .and .i64 (rd lost b) 2 == 0) := by rw [HL.out.2]
        generalize rd lost b = x3 at hx3 hLL
        have e1 : IntKind.u32.wrap (b : Int) = (b : Int) := by rw [u32_w]; omega
        obtain ⟨m, hm⟩ : ∃ m, m = (fst + b) % 4294967296 := ⟨_, rfl⟩
        have e2 : IntKind.u32.wrap (fst + (b : Int)) = m := by rw [u32_w, hm]
        have HM := Aside0.mk (show 0 ≤ m ∧ m < 4294967296 by omega)
        cases hb : L2 b
        · have hb2 := hLL.symm.trans hb
          have hps := fun j => (push_b L1 L2 a b j).trans (show _ = pushB L1 L2 a b j by rw [hb]; simp)
          have ON2 := Aside0.mk (ON.out.skip (a' := a) (b' := (b + 1)) (by omega) (by omega) (by omega) (by omega) hps)
          clear hps hLL e1 e2 hm
          go_wp2_with fail
          go_roundg (2 * n - (a + b))
          case measure => omega
          case rel => exact ⟨a, (b + 1), T, ts, by go_num, by go_num, by go_num, by omega, by omega, ⟨ON2.out⟩, I_a4, TM4, B4⟩
        · have hb2 := hLL.symm.trans hb
          have hps := fun j => (push_b L1 L2 a b j).trans (show _ = (pushB L1 L2 a b j || decide (j = b)) by rw [hb]; simp)
          have htk := ON.out.take (a' := a) (b' := (b + 1)) (k := b) h0 h1 hn (by omega) (by have := ON.out.ab; have := ON.out.ba; omega) (by have := ON.out.ab; have := ON.out.ba; omega) (by omega) (by omega) (by omega) (by omega) hps
          rw [← hm] at htk
          have TK1 := Aside0.mk htk.1
          have TK2 := Aside0.mk htk.2
          clear htk hps hLL hm
          cases hf : freshB T m
          · have ON2 := Aside0.mk (TK2.out hf)
            go_wp2_with (first
              | (go_at_call 10; (with_reducible refine (fresh_ok g c T ON.out.know.ok m HM.out.1 HM.out.2 _ I_a4.out).mono ?_); rintro e w5 ⟨rfl, h5, f5⟩; have B5 := Aside0.mk (Fr.above B4.out B4.out.size f5 (fun i hi he => by have := G_a.out; omega)); have I_a5 := Aside0.mk h5; have TM5 := Aside0.mk (TM4.out.fr f5 (fun h => DT.out (h.imp Eq.symm Eq.symm))); clear TM4; clear h5 f5 B4 I_a4))
            go_roundg (2 * n - (a + b))
            case measure => omega
            case rel => exact ⟨a, (b + 1), (freshT T m), ts, by go_num, by go_num, by go_num, by omega, by omega, ⟨ON2.out⟩, I_a5, TM5, B5⟩
          · obtain ⟨on2, ht0⟩ := TK1.out hf
            have ON2 := Aside0.mk on2
            have HT0 := Aside0.mk ht0
            clear on2 ht0
            have HTL := Aside0.mk ON.out.tl
            go_wp2_with (first
              | (go_at_call 10; (with_reducible refine (fresh_ok g c T ON.out.know.ok m HM.out.1 HM.out.2 _ I_a4.out).mono ?_); rintro e w5 ⟨rfl, h5, f5⟩; have B5 := Aside0.mk (Fr.above B4.out B4.out.size f5 (fun i hi he => by have := G_a.out; omega)); have I_a5 := Aside0.mk h5; have TM5 := Aside0.mk (TM4.out.fr f5 (fun h => DT.out (h.imp Eq.symm Eq.symm))); have t0 := TM5.out.at_ b (v := .int .i64 0) (by rw [ints_at _ _ (by rw [HTL.out]; omega), HT0.out]); have tf := TM5.out.frozen b; clear TM4; clear h5 f5 B4 I_a4))
            have TM6 := Aside0.mk ((TM5.out.set b (.int .i64 1)).to (ints_set _ _ _))
            have I_a6 := Aside0.mk (is_far I_a5.out tm b (.int .i64 1) DT.out)
            have B6 := Aside0.mk (below_put B5.out GT.out b (.int .i64 1))
            go_roundg (2 * n - (a + b))
            case measure => omega
            case rel => exact ⟨a, (b + 1), (freshT T m), (ts.set b 1), by go_num, by go_num, by go_num, by omega, by omega, ⟨by have := ON2.out; rw [HT0.out] at this; exact this⟩, I_a6, TM6, B6⟩
    · go_wp2_with fail
      go_loopg [10, 20, 21] (n + 1) (fun kq v10 v20 v21 w' => ∃ i : Nat, v20 = .int .i64 i ∧ i ≤ n ∧ kq = n + 1 - i ∧ Aside0 (Ob w' tm 3 (ints ts)) ∧ Aside0 (Below w.heap.size w w'))
      case atStart => exact ⟨0, by simp, by omega, by omega, TM4, B4⟩
      case round =>
        clear TM4 B4 I_a4
        obtain ⟨i, rfl, hi, hmi, TM4, B4⟩ := hrel
        by_cases hil : i < n
        · obtain ⟨ad3, hA3, hx3⟩ := (HR3.out.below B4.out).int (i : Int) (by omega) (by omega)
          cases hA3
          simp only [Int.toNat_natCast] at hx3
          have hti := ON.out.times i hil
          have hp : pushB L1 L2 a b i = ((bits .and .i64 (rd lost i) 1 == 0) || (bits .and .i64 (rd lost i) 2 == 0)) := by
            unfold pushB
            have y1 : i < a := by omega
            have y2 : i < b := by omega
            simp [y1, y2, HL.out.1, HL.out.2]
          rw [hp] at hti
          have h33 := and_three (rd lost i)
          generalize rd lost i = x3 at hx3 hti h33
          have t0' := ints_at ts i (by rw [ON.out.tl]; omega)
          rw [hti] at t0'
          have t0 := TM4.out.at_ i t0'
          clear t0' hti hp
          cases c1 : (bits .and .i64 x3 1 == 0) <;> cases c2 : (bits .and .i64 x3 2 == 0)
          all_goals
            rw [c1, c2] at h33 t0
            simp only [Bool.not_true, Bool.not_false, Bool.and_true, Bool.and_false, Bool.true_and, Bool.false_and, Bool.or_true, Bool.or_false, Bool.true_or, Bool.false_or, if_true, Bool.false_eq_true, if_false] at h33 t0
            go_wp2_with fail
            go_roundg (n - i)
            case measure => omega
            case rel => exact ⟨i + 1, by go_num, by omega, by omega, TM4, B4⟩
        · go_wp2_with fail
          go_ret
          exact ⟨rfl, B4.out⟩
set_option maxHeartbeats 8000000 in
set_option maxRecDepth 100000 in
theorem once_a (fst n sz : Int) (A3 A4 : Option Addr) (n3 c3 n4 c4 : Nat) (w : World) (hm3 : n3 ≤ 9223372036854775807) (hm4 : n4 ≤ 9223372036854775807) (h : n < 0) :
    Calls Try.prog 3 #[.int .u32 fst, .int .i64 n, .int .i64 sz, .slice A3 n3 c3, .slice A4 n4 c4] w fun e w' => e = .returned (.bool true) ∧ Below w.heap.size w w' := by
  have B0 := Aside0.mk (Below.refl w.heap.size w)
  go_enter Try.func3, Try.ntmps3
  go_wp2_with (first
      | (go_at_call 8; (with_reducible refine (alive_ok _).mono ?_); rintro e w1 ⟨rfl, hb1⟩; have B1 := Aside0.mk (below_step B0.out hb1); clear hb1))
  go_ret
  exact ⟨rfl, B1.out⟩
set_option maxHeartbeats 8000000 in
set_option maxRecDepth 100000 in
theorem once_b (fst n sz : Int) (A3 A4 : Option Addr) (n3 c3 n4 c4 : Nat) (w : World) (hm3 : n3 ≤ 9223372036854775807) (hm4 : n4 ≤ 9223372036854775807) (p0 : 0 ≤ n) (h : 100 < n) :
    Calls Try.prog 3 #[.int .u32 fst, .int .i64 n, .int .i64 sz, .slice A3 n3 c3, .slice A4 n4 c4] w fun e w' => e = .returned (.bool true) ∧ Below w.heap.size w w' := by
  have B0 := Aside0.mk (Below.refl w.heap.size w)
  go_enter Try.func3, Try.ntmps3
  go_wp2_with (first
      | (go_at_call 8; (with_reducible refine (alive_ok _).mono ?_); rintro e w1 ⟨rfl, hb1⟩; have B1 := Aside0.mk (below_step B0.out hb1); clear hb1))
  go_ret
  exact ⟨rfl, B1.out⟩
set_option maxHeartbeats 8000000 in
set_option maxRecDepth 100000 in
theorem once_c (fst n sz : Int) (A3 A4 : Option Addr) (n3 c3 n4 c4 : Nat) (w : World) (hm3 : n3 ≤ 9223372036854775807) (hm4 : n4 ≤ 9223372036854775807) (p0 : 0 ≤ n) (p1 : n ≤ 100) (h : sz < 2) :
    Calls Try.prog 3 #[.int .u32 fst, .int .i64 n, .int .i64 sz, .slice A3 n3 c3, .slice A4 n4 c4] w fun e w' => e = .returned (.bool true) ∧ Below w.heap.size w w' := by
  have B0 := Aside0.mk (Below.refl w.heap.size w)
  go_enter Try.func3, Try.ntmps3
  go_wp2_with (first
      | (go_at_call 8; (with_reducible refine (alive_ok _).mono ?_); rintro e w1 ⟨rfl, hb1⟩; have B1 := Aside0.mk (below_step B0.out hb1); clear hb1))
  go_ret
  exact ⟨rfl, B1.out⟩
set_option maxHeartbeats 8000000 in
set_option maxRecDepth 100000 in
theorem once_d (fst n sz : Int) (A3 A4 : Option Addr) (n3 c3 n4 c4 : Nat) (w : World) (hm3 : n3 ≤ 9223372036854775807) (hm4 : n4 ≤ 9223372036854775807) (p0 : 0 ≤ n) (p1 : n ≤ 100) (p2 : 2 ≤ sz) (h : 64 < sz) :
    Calls Try.prog 3 #[.int .u32 fst, .int .i64 n, .int .i64 sz, .slice A3 n3 c3, .slice A4 n4 c4] w fun e w' => e = .returned (.bool true) ∧ Below w.heap.size w w' := by
  have B0 := Aside0.mk (Below.refl w.heap.size w)
  go_enter Try.func3, Try.ntmps3
  go_wp2_with (first
      | (go_at_call 8; (with_reducible refine (alive_ok _).mono ?_); rintro e w1 ⟨rfl, hb1⟩; have B1 := Aside0.mk (below_step B0.out hb1); clear hb1))
  go_ret
  exact ⟨rfl, B1.out⟩
set_option maxHeartbeats 8000000 in
set_option maxRecDepth 100000 in
theorem once_e (fst n sz : Int) (A3 A4 : Option Addr) (n3 c3 n4 c4 : Nat) (w : World) (hm3 : n3 ≤ 9223372036854775807) (hm4 : n4 ≤ 9223372036854775807) (p0 : 0 ≤ n) (p1 : n ≤ 100) (p2 : 2 ≤ sz) (p3 : sz ≤ 64) (h : (n3 : Int) < n) :
    Calls Try.prog 3 #[.int .u32 fst, .int .i64 n, .int .i64 sz, .slice A3 n3 c3, .slice A4 n4 c4] w fun e w' => e = .returned (.bool true) ∧ Below w.heap.size w w' := by
  have B0 := Aside0.mk (Below.refl w.heap.size w)
  go_enter Try.func3, Try.ntmps3
  go_wp2_with (first
      | (go_at_call 8; (with_reducible refine (alive_ok _).mono ?_); rintro e w1 ⟨rfl, hb1⟩; have B1 := Aside0.mk (below_step B0.out hb1); clear hb1))
  go_ret
  exact ⟨rfl, B1.out⟩
set_option maxHeartbeats 8000000 in
set_option maxRecDepth 100000 in
theorem once_f (fst n sz : Int) (A3 A4 : Option Addr) (n3 c3 n4 c4 : Nat) (w : World) (hm3 : n3 ≤ 9223372036854775807) (hm4 : n4 ≤ 9223372036854775807) (p0 : 0 ≤ n) (p1 : n ≤ 100) (p2 : 2 ≤ sz) (p3 : sz ≤ 64) (p4 : n ≤ (n3 : Int)) (h : (n4 : Int) < 2 * n + 2) :
    Calls Try.prog 3 #[.int .u32 fst, .int .i64 n, .int .i64 sz, .slice A3 n3 c3, .slice A4 n4 c4] w fun e w' => e = .returned (.bool true) ∧ Below w.heap.size w w' := by
  have B0 := Aside0.mk (Below.refl w.heap.size w)
  go_enter Try.func3, Try.ntmps3
  go_wp2_with (first
      | (go_at_call 8; (with_reducible refine (alive_ok _).mono ?_); rintro e w1 ⟨rfl, hb1⟩; have B1 := Aside0.mk (below_step B0.out hb1); clear hb1))
  go_ret
  exact ⟨rfl, B1.out⟩
theorem walk (a0 a1 a2 : Int) (a3 : Option Addr) (len3 cap3 : Nat) (z3 : List Int) (a4 : Option Addr) (len4 cap4 : Nat) (z4 : List Int) (W : World) (_h0 : (Lit.int .u32 a0).wf = true) (_h1 : (Lit.int .i64 a1).wf = true) (_h2 : (Lit.int .i64 a2).wf = true) (w3 : IsRow .i64 W a3 len3 cap3 z3) (_y3 : len3 * 8 ≤ 140737488351232) (w4 : IsRow .i64 W a4 len4 cap4 z4) (_y4 : len4 * 8 ≤ 140737488351232) :
    Calls Try.prog 3 #[.int .u32 a0, .int .i64 a1, .int .i64 a2, .slice a3 len3 cap3, .slice a4 len4 cap4] W fun e w' => e = .returned (.bool true) ∧ Below W.heap.size W w' := by
  obtain ⟨l3, hr3, hm3, _⟩ := rds_of_row w3
  obtain ⟨l4, hr4, hm4, _⟩ := rds_of_row w4
  have hf := wf_u32 _h0
  by_cases p0 : a1 < 0
  · exact once_a a0 a1 a2 a3 a4 len3 cap3 len4 cap4 W hm3 hm4 p0
  by_cases p1 : 100 < a1
  · exact once_b a0 a1 a2 a3 a4 len3 cap3 len4 cap4 W hm3 hm4 (by omega) p1
  by_cases p2 : a2 < 2
  · exact once_c a0 a1 a2 a3 a4 len3 cap3 len4 cap4 W hm3 hm4 (by omega) (by omega) p2
  by_cases p3 : 64 < a2
  · exact once_d a0 a1 a2 a3 a4 len3 cap3 len4 cap4 W hm3 hm4 (by omega) (by omega) (by omega) p3
  by_cases p4 : (len3 : Int) < a1
  · exact once_e a0 a1 a2 a3 a4 len3 cap3 len4 cap4 W hm3 hm4 (by omega) (by omega) (by omega) (by omega) p4
  by_cases p5 : (len4 : Int) < 2 * a1 + 2
  · exact once_f a0 a1 a2 a3 a4 len3 cap3 len4 cap4 W hm3 hm4 (by omega) (by omega) (by omega) (by omega) (by omega) p5
  obtain ⟨n, rfl⟩ : ∃ n : Nat, a1 = n := ⟨a1.toNat, by omega⟩
  obtain ⟨sz, rfl⟩ : ∃ n : Nat, a2 = n := ⟨a2.toNat, by omega⟩
  exact once_in a0 n sz a3 a4 len3 cap3 len4 cap4 l3 l4 W hf.1 hf.2 (by omega) (by omega) (by omega) hr3 hr4 (by omega) (by omega) hm3 hm4

end Go.Proofs.Ytnelcmblcalknaa.TwOnceW
