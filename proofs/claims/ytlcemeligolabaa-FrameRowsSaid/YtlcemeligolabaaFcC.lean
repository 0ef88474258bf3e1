/- Contracts of tail, Grow, Concat, Put. -/
import Derived.Test.YtlcemeligolabaaFcB
namespace Go.Proofs.Ytlcemeligolabaa.FcC
open Go.RowKit Go.Proofs.YtlcemeligolabaaW.PrintWords Go.Proofs.YtlcemeligolabaaW.PrintLast Go.Proofs.YtlcemeligolabaaW.PrintMore Go.Proofs.Ytlcemeligolabaa.K Go.Proofs.Ytlcemeligolabaa.FcP Go.Proofs.Ytlcemeligolabaa.FcA Go.Proofs.Ytlcemeligolabaa.FcB
set_option linter.unusedVariables false
set_option linter.unusedSimpArgs false
attribute [local go_sem] max2_int min2_int max_two min_two

theorem info5 : (Try.prog.info? 5).map (fun i => (i.zero, i.size, i.bytes)) = some (some (.int .u8 0), 1, 1) := by kernel_rfl
def byi (n x : Nat) : List Int := (bys n x).map (fun c : Nat => (c : Int))
theorem bys_snoc (n : Nat) : ∀ x, bys (n + 1) x = bys n x ++ [x / 256 ^ n % 256] := by
  induction n with
  | zero => intro x; simp [bys]
  | succ n ih =>
    intro x
    rw [bys, ih, bys]
    simp [Nat.pow_succ, Nat.div_div_eq_div_mul, Nat.mul_comm]
theorem byi_snoc (n x : Nat) : byi (n + 1) x = byi n x ++ [((x / 256 ^ n % 256 : Nat) : Int)] := by unfold byi; rw [bys_snoc]; simp
theorem byi_len (n x : Nat) : (byi n x).length = n := by simp [byi, bys_len]
theorem byi_b (n x : Nat) : ∀ y ∈ byi n x, 0 ≤ y ∧ y ≤ 255 := by
  intro y hy
  unfold byi at hy
  rw [List.mem_map] at hy
  obtain ⟨c, hc, rfl⟩ := hy
  have := bys_lt n x c hc
  omega
def tailL (l : List Int) (wide : Bool) : List Int := if wide = true then byi 4 (longN l) else byi 2 (shortN l)
def sizeT (wide : Bool) : Nat := if wide = true then 4 else 2
theorem tailL_len (l : List Int) (wide : Bool) : (tailL l wide).length = sizeT wide := by unfold tailL sizeT; split <;> exact byi_len _ _
theorem tailL_b (l : List Int) (wide : Bool) : ∀ y ∈ tailL l wide, 0 ≤ y ∧ y ≤ 255 := by unfold tailL; split <;> exact byi_b _ _

set_option maxHeartbeats 8000000 in
set_option maxRecDepth 100000 in
theorem tail_false (A : Option Addr) (n c : Nat) (l : List Int) (w : World) (hr : Rds (Kd.int .u8) w A n c l) (hl : ∀ x ∈ l, 0 ≤ x ∧ x ≤ 255) (hn : n ≤ 9223372036854775807) :
    Calls Try.prog 31 #[.slice A n c, .bool false] w fun e w' => ∃ v, e = .returned v ∧ Own (Kd.int .u8) 5 w.heap.size w' v (byi 2 (shortN l)) ∧ Below w.heap.size w w' := by
  have CS := Aside0.mk (short_ok A n c l w hr hl hn)
  have CL := Aside0.mk (long_ok A n c l w hr hl hn)
  have l1 := shortN_lt l
  have l2 := longN_lt l
  clear hr hl
  generalize shortN l = s1 at *
  generalize longN l = s2 at *
  have ew : IntKind.u32.wrap (s1 : Int) = (s1 : Int) := by rw [u32_w]; omega
  have B0 := Aside0.mk (Below.refl w.heap.size w)
  have O0 := Aside0.mk (Own.nil (Kd.int .u8) 5 w.heap.size w)
  go_enter Try.func31, Try.ntmps31
  go_wp2_with (first | (go_at_call 37; (with_reducible refine CS.out.mono ?_); rintro e w' ⟨rfl, rfl⟩) | (go_at_call 38; (with_reducible refine CL.out.mono ?_); rintro e w' ⟨rfl, rfl⟩))
  clear ew CS CL
  go_loopg [6, 7, 15] 3 (fun kq v6 v7 v15 w' => ∃ (i x : Nat), v6 = .int .u32 (x : Int) ∧ v15 = .int .i64 i ∧ i ≤ 2 ∧ kq = 3 - i ∧ x < 4294967296 ∧ Aside0 (x = s1 / 256 ^ i) ∧ Aside0 (Own (Kd.int .u8) 5 w.heap.size w' v7 (byi i s1)) ∧ Aside0 (Below w.heap.size w w'))
  case atStart => exact ⟨0, _, rfl, by simp, by omega, by omega, by omega, ⟨by simp⟩, ⟨O0.out⟩, B0⟩
  case round =>
    clear O0 B0
    obtain ⟨i, x, rfl, rfl, hi, hkq, hx, HX, HO, HB⟩ := hrel
    by_cases hlt : i < 2
    · have e1 : IntKind.u8.wrap (x : Int) = ((x % 256 : Nat) : Int) := by rw [u8_w]; omega
      have SN := Aside0.mk (byi_snoc i s1)
      have LN := Aside0.mk (byi_len i s1)
      have HY : Aside0 (x / 256 = s1 / 256 ^ (i + 1)) := ⟨by rw [HX.out, Nat.div_div_eq_div_mul, Nat.pow_succ]⟩
      rw [← HX.out] at SN
      go_wp2_with (first | (at_builtin; refine app_int Try.underlying24 info5 rfl (by decide) (.tmp 17) (.tmp 20) rfl rfl rfl rfl HO.out HB.out HB.out.size (by rw [LN.out]; omega) ?_; intro v3 w3 HO3 hb3 _))
      go_roundg (2 - i)
      case measure => omega
      case rel => exact ⟨i + 1, x / 256, by simp, by go_num, by omega, by omega, by omega, HY, ⟨by rw [SN.out]; exact HO3⟩, ⟨hb3⟩⟩
    · obtain rfl : i = 2 := by omega
      go_wp2_with fail
      go_ret
      exact ⟨_, rfl, HO.out, HB.out⟩

set_option maxHeartbeats 8000000 in
set_option maxRecDepth 100000 in
theorem tail_true (A : Option Addr) (n c : Nat) (l : List Int) (w : World) (hr : Rds (Kd.int .u8) w A n c l) (hl : ∀ x ∈ l, 0 ≤ x ∧ x ≤ 255) (hn : n ≤ 9223372036854775807) :
    Calls Try.prog 31 #[.slice A n c, .bool true] w fun e w' => ∃ v, e = .returned v ∧ Own (Kd.int .u8) 5 w.heap.size w' v (byi 4 (longN l)) ∧ Below w.heap.size w w' := by
  have CS := Aside0.mk (short_ok A n c l w hr hl hn)
  have CL := Aside0.mk (long_ok A n c l w hr hl hn)
  have l1 := shortN_lt l
  have l2 := longN_lt l
  clear hr hl
  generalize shortN l = s1 at *
  generalize longN l = s2 at *
  have ew : IntKind.u32.wrap (s1 : Int) = (s1 : Int) := by rw [u32_w]; omega
  have B0 := Aside0.mk (Below.refl w.heap.size w)
  have O0 := Aside0.mk (Own.nil (Kd.int .u8) 5 w.heap.size w)
  go_enter Try.func31, Try.ntmps31
  go_wp2_with (first | (go_at_call 37; (with_reducible refine CS.out.mono ?_); rintro e w' ⟨rfl, rfl⟩) | (go_at_call 38; (with_reducible refine CL.out.mono ?_); rintro e w' ⟨rfl, rfl⟩))
  clear ew CS CL
  go_loopg [6, 7, 15] 5 (fun kq v6 v7 v15 w' => ∃ (i x : Nat), v6 = .int .u32 (x : Int) ∧ v15 = .int .i64 i ∧ i ≤ 4 ∧ kq = 5 - i ∧ x < 4294967296 ∧ Aside0 (x = s2 / 256 ^ i) ∧ Aside0 (Own (Kd.int .u8) 5 w.heap.size w' v7 (byi i s2)) ∧ Aside0 (Below w.heap.size w w'))
  case atStart => exact ⟨0, _, rfl, by simp, by omega, by omega, by omega, ⟨by simp⟩, ⟨O0.out⟩, B0⟩
  case round =>
    clear O0 B0
    obtain ⟨i, x, rfl, rfl, hi, hkq, hx, HX, HO, HB⟩ := hrel
    by_cases hlt : i < 4
    · have e1 : IntKind.u8.wrap (x : Int) = ((x % 256 : Nat) : Int) := by rw [u8_w]; omega
      have SN := Aside0.mk (byi_snoc i s2)
      have LN := Aside0.mk (byi_len i s2)
      have HY : Aside0 (x / 256 = s2 / 256 ^ (i + 1)) := ⟨by rw [HX.out, Nat.div_div_eq_div_mul, Nat.pow_succ]⟩
      rw [← HX.out] at SN
      go_wp2_with (first | (at_builtin; refine app_int Try.underlying24 info5 rfl (by decide) (.tmp 17) (.tmp 20) rfl rfl rfl rfl HO.out HB.out HB.out.size (by rw [LN.out]; omega) ?_; intro v3 w3 HO3 hb3 _))
      go_roundg (4 - i)
      case measure => omega
      case rel => exact ⟨i + 1, x / 256, by simp, by go_num, by omega, by omega, by omega, HY, ⟨by rw [SN.out]; exact HO3⟩, ⟨hb3⟩⟩
    · obtain rfl : i = 4 := by omega
      go_wp2_with fail
      go_ret
      exact ⟨_, rfl, HO.out, HB.out⟩

theorem tail_ok (A : Option Addr) (n c : Nat) (l : List Int) (wide : Bool) (w : World) (hr : Rds (Kd.int .u8) w A n c l) (hl : ∀ x ∈ l, 0 ≤ x ∧ x ≤ 255) (hn : n ≤ 9223372036854775807) :
    Calls Try.prog 31 #[.slice A n c, .bool wide] w fun e w' => ∃ v, e = .returned v ∧ Own (Kd.int .u8) 5 w.heap.size w' v (tailL l wide) ∧ Below w.heap.size w w' := by
  cases wide
  · exact tail_false A n c l w hr hl hn
  · exact tail_true A n c l w hr hl hn
theorem own_zero {B n c : Nat} {w : World} {A : Option Addr} {xs : List Int} (h : Own (Kd.int .u8) 5 B w (.slice A n c) xs) : Own (Kd.int .u8) 5 B w (.slice A 0 c) [] := ⟨by have := Kd.R_take (m := 0) h.out (Nat.zero_le _); simpa using this⟩
set_option maxHeartbeats 8000000 in
set_option maxRecDepth 100000 in
theorem grow_ok (n : Nat) (w : World) (hn : n ≤ 1000000) : Calls Try.prog 30 #[.slice none 0 0, .int .i64 n] w fun e w' => ∃ v, e = .returned v ∧ Own (Kd.int .u8) 5 w.heap.size w' v [] ∧ Below w.heap.size w w' := by
  have B0 := Aside0.mk (Below.refl w.heap.size w)
  have O0 := Aside0.mk (Own.nil (Kd.int .u8) 5 w.heap.size w)
  by_cases h0 : n = 0
  · subst h0
    go_enter Try.func30, Try.ntmps30
    go_wp2
    go_ret
    exact ⟨_, rfl, O0.out, B0.out⟩
  · have h1 : 0 < (n : Int) := by omega
    have h2 : 0 ≤ (n : Int) := by omega
    go_enter Try.func30, Try.ntmps30
    go_wp2_with (first | (at_builtin; refine Kd.R_append_zeros (Kd.int .u8) (w0 := w) w.heap.size rfl (.tmp 20) (.tmp 21) 24 3 5 (.int .u8 0) 1 rfl Try.underlying24 (k := .i64) Try.underlying3 info5 rfl (by decide) (by decide) (.slice none 0 0) [] (0 : Int) (n : Int) (fun _ => True) rfl rfl rfl (fun _ _ => trivial) O0.out.out h2 (Below.refl _ _) (Nat.le_refl _) (by simp; omega) ?_; intro v1 w1 h3 h4 _ _; obtain ⟨A1, c1, hv1, hc1⟩ := (Own.mk h3).sliceN (n := n) (by simp); subst hv1; have O1 := Aside0.mk (own_zero (Own.mk h3)); have B1 := Aside0.mk h4; clear h3 h4))
    go_ret
    exact ⟨_, rfl, O1.out, B1.out⟩

theorem addl (l1 l2 : List Int) (n1 n2 : Nat) (h1 : n1 = l1.length) (h2 : n2 = l2.length) (hb : n1 + n2 ≤ 1000000) : ([] : List Int).length + n1 ≤ 140737488355328 ∧ (l1.length + n2) * 1 ≤ 140737488355328 := by simp; omega
set_option maxHeartbeats 8000000 in
set_option maxRecDepth 100000 in
theorem concat_ok (g : Nat) (A1 A2 : Option Addr) (n1 n2 c1 c2 : Nat) (l1 l2 : List Int) (w : World) (hb : Ob w g 24 [.slice A1 n1 c1, .slice A2 n2 c2]) (r1 : Rds (Kd.int .u8) w A1 n1 c1 l1) (r2 : Rds (Kd.int .u8) w A2 n2 c2 l2) (hn : n1 + n2 ≤ 1000000) :
    Calls Try.prog 19 #[.slice (some ⟨g, 0, none⟩) 2 2] w fun e w' => ∃ v, e = .returned v ∧ Own (Kd.int .u8) 5 w.heap.size w' v (l1 ++ l2) ∧ Below w.heap.size w w' := by
  have HOB := Aside0.mk hb
  have R1 := Aside0.mk r1
  have R2 := Aside0.mk r2
  have AL := Aside0.mk (addl l1 l2 n1 n2 r1.len r2.len hn)
  clear hb r1 r2
  have y0 := HOB.out.at_ 0 (v := .slice A1 n1 c1) rfl
  have y1 := HOB.out.at_ 1 (v := .slice A2 n2 c2) rfl
  go_enter Try.func19, Try.ntmps19
  go_wp2
  go_loopg [3, 5, 11] 3 (fun kq v3 v5 v11 w' => ∃ (i : Nat) (s : Int), v3 = .int .i64 s ∧ v11 = .int .i64 i ∧ kq = 3 - i ∧ w = w' ∧ ((i = 0 ∧ s = 0) ∨ (i = 1 ∧ s = n1) ∨ (i = 2 ∧ s = ((n1 + n2 : Nat) : Int))))
  case atStart => exact ⟨0, 0, rfl, by simp, by omega, rfl, .inl ⟨rfl, rfl⟩⟩
  case round =>
    obtain ⟨i, s, rfl, rfl, hkq, rfl, hc⟩ := hrel
    rcases hc with ⟨rfl, rfl⟩ | ⟨rfl, rfl⟩ | ⟨rfl, rfl⟩
    · go_wp2_with fail
      go_roundg 2
      case measure => omega
      case rel => exact ⟨1, n1, by simp, by simp, by omega, rfl, .inr (.inl ⟨rfl, rfl⟩)⟩
    · go_wp2_with fail
      go_roundg 1
      case measure => omega
      case rel => exact ⟨2, _, rfl, by simp, by omega, rfl, .inr (.inr ⟨rfl, by simp⟩)⟩
    · have hs0 : ¬ ((n1 + n2 : Nat) : Int) < 0 := by omega
      obtain ⟨m, hm⟩ : ∃ m, m = n1 + n2 := ⟨_, rfl⟩
      rw [← hm]
      have hm2 : m ≤ 1000000 := by omega
      clear hm hs0
      go_wp2_with (first | (go_at_call 30; have hcall := grow_ok m w hm2; (with_reducible refine hcall.mono ?_); clear hcall; rintro e w2 ⟨v2, rfl, ho, hb⟩; obtain ⟨A3, c3, hv2, _⟩ := ho.sliceN (n := 0) rfl; subst hv2; have O2 := Aside0.mk ho; have B2 := Aside0.mk hb; clear ho hb))
      clear y0 y1
      go_loopg [6, 8, 27] 3 (fun kq v6 v8 v27 w' => ∃ (i : Nat) (acc : List Int), v27 = .int .i64 i ∧ kq = 3 - i ∧ ((i = 0 ∧ acc = []) ∨ (i = 1 ∧ acc = l1) ∨ (i = 2 ∧ acc = l1 ++ l2)) ∧ Aside0 (Own (Kd.int .u8) 5 w.heap.size w' v6 acc) ∧ Aside0 (Below w.heap.size w w'))
      case atStart => exact ⟨0, [], by simp, by omega, .inl ⟨rfl, rfl⟩, O2, B2⟩
      case round =>
        clear O2 B2
        obtain ⟨i, acc, rfl, hkq, hc, O4, B4⟩ := hrel
        have y0 := (HOB.out.below B4.out).at_ 0 (v := .slice A1 n1 c1) rfl
        have y1 := (HOB.out.below B4.out).at_ 1 (v := .slice A2 n2 c2) rfl
        rcases hc with ⟨rfl, rfl⟩ | ⟨rfl, rfl⟩ | ⟨rfl, rfl⟩
        · go_wp2_with (first | (at_builtin; refine app_rowi Try.underlying24 info5 rfl (by decide) (.tmp 31) (.tmp 32) rfl rfl rfl rfl O4.out (R1.out.below B4.out) B4.out B4.out.size (by have := AL.out.1; omega) ?_; intro v5 w5 ho hb _; have O5 := Aside0.mk ho; have B5 := Aside0.mk hb; clear ho hb))
          go_roundg 2
          case measure => omega
          case rel => exact ⟨1, _, by simp, by omega, .inr (.inl ⟨rfl, by simp⟩), O5, B5⟩
        · go_wp2_with (first | (at_builtin; refine app_rowi Try.underlying24 info5 rfl (by decide) (.tmp 31) (.tmp 32) rfl rfl rfl rfl O4.out (R2.out.below B4.out) B4.out B4.out.size AL.out.2 ?_; intro v5 w5 ho hb _; have O5 := Aside0.mk ho; have B5 := Aside0.mk hb; clear ho hb))
          go_roundg 1
          case measure => omega
          case rel => exact ⟨2, _, by simp, by omega, .inr (.inr ⟨rfl, rfl⟩), O5, B5⟩
        · go_wp2_with fail
          go_ret
          exact ⟨_, rfl, O4.out, B4.out⟩
set_option maxHeartbeats 8000000 in
set_option maxRecDepth 100000 in
theorem put_ok (A : Option Addr) (n c : Nat) (l : List Int) (wide : Bool) (w : World) (hr : Rds (Kd.int .u8) w A n c l) (hl : ∀ x ∈ l, 0 ≤ x ∧ x ≤ 255) (hn : n ≤ 100000) :
    Calls Try.prog 21 #[.slice A n c, .bool wide] w fun e w' => ∃ v, e = .returned v ∧ Own (Kd.int .u8) 5 w.heap.size w' v (l ++ tailL l wide) ∧ Below w.heap.size w w' := by
  have HR := Aside0.mk hr
  have CT := Aside0.mk (tail_ok A n c l wide w hr hl (by omega))
  have TL := Aside0.mk (tailL_len l wide)
  have hs : sizeT wide ≤ 4 := by unfold sizeT; split <;> omega
  clear hr hl
  generalize sizeT wide = q at TL hs
  generalize tailL l wide = tl at CT TL ⊢
  obtain ⟨k, hk⟩ : ∃ k, (l ++ tl).length = k := ⟨_, rfl⟩
  have HK := Aside0.mk hk
  clear hk
  go_enter Try.func21, Try.ntmps21
  go_wp2_with (first
    | (go_at_call 31; (with_reducible refine CT.out.mono ?_); rintro e w1 ⟨v1, rfl, ho, hb⟩; obtain ⟨A1, c1, hv1, hc1⟩ := ho.sliceN TL.out; subst hv1; have O1 := Aside0.mk ho; have B1 := Aside0.mk hb; clear ho hb)
    | (go_at_call 19; have hcall := concat_ok w1.heap.size A A1 n q c c1 l tl (w1.alloc (.cells #[.slice A n c, .slice A1 q c1] 24)) (Ob.new w1 24 [.slice A n c, .slice A1 q c1]) ((HR.out.below B1.out).alloc _) (O1.out.rds.alloc _) (by omega); (with_reducible refine hcall.mono ?_); clear hcall; rintro e w2 ⟨v2, rfl, ho, hb⟩; have O2 := Aside0.mk (ho.lower (Nat.le_trans B1.out.size (by simp))); have B2 := Aside0.mk (below_step (below_alloc B1.out _) hb); obtain ⟨A2, c2, hv2, _⟩ := ho.sliceN HK.out; subst hv2; clear ho hb))
  go_ret
  exact ⟨_, rfl, O2.out, B2.out⟩

end Go.Proofs.Ytlcemeligolabaa.FcC
