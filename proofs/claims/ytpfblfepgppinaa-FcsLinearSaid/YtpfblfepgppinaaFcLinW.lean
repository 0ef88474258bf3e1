/- The sums of three texts of one length, xored, are the sum of these xored: the walk. -/
import Derived.Test.YtpfblfepgppinaaFcB
namespace Go.Proofs.Ytpfblfepgppinaa.FcLinW
open Go.RowKit Go.Proofs.YtpfblfepgppinaaW.PrintWords Go.Proofs.YtpfblfepgppinaaW.PrintLast Go.Proofs.YtpfblfepgppinaaW.PrintMore Go.Proofs.Ytpfblfepgppinaa.K Go.Proofs.Ytpfblfepgppinaa.FcP Go.Proofs.Ytpfblfepgppinaa.FcA Go.Proofs.Ytpfblfepgppinaa.FcB
set_option linter.unusedVariables false
set_option linter.unusedSimpArgs false
attribute [local go_sem] max2_int min2_int max_two min_two

theorem zipx_with : ∀ (l m : List Nat), zipx l m = List.zipWith (· ^^^ ·) l m := by
  intro l
  induction l with
  | nil => intro m; rfl
  | cons a l ih => intro m; cases m with
    | nil => rfl
    | cons b m => simp [zipx, ih]
def zN (a b c : List Int) (j : Nat) : Nat := (rd a j).toNat ^^^ (rd b j).toNat ^^^ (rd c j).toNat
def xrow (a b c : List Int) (n i : Nat) : List Int := (List.range n).map (fun j => if j < i then (zN a b c j : Int) else 0)
theorem xrow_len (a b c : List Int) (n i : Nat) : (xrow a b c n i).length = n := by simp [xrow]
theorem xrow_zero (a b c : List Int) (n : Nat) : xrow a b c n 0 = List.replicate n 0 := by
  apply List.ext_getElem
  · simp [xrow]
  · intro i h1 h2
    simp [xrow]
theorem xrow_set (a b c : List Int) (n i : Nat) (hi : i < n) : (xrow a b c n i).set i (zN a b c i : Int) = xrow a b c n (i + 1) := by
  apply List.ext_getElem
  · simp [xrow]
  · intro j h1 h2
    simp only [xrow, List.getElem_set, List.getElem_map, List.getElem_range]
    by_cases hij : i = j
    · subst hij
      simp
    · rw [if_neg hij]
      by_cases hj : j < i
      · rw [if_pos hj, if_pos (by omega)]
      · rw [if_neg hj, if_neg (by omega)]
theorem rd_get (l : List Int) (j : Nat) (h : j < l.length) : rd l j = l[j] := by
  unfold rd
  simp [h]
theorem zN_lt {a b c : List Int} (ha : ∀ x ∈ a, 0 ≤ x ∧ x ≤ 255) (hb : ∀ x ∈ b, 0 ≤ x ∧ x ≤ 255) (hc : ∀ x ∈ c, 0 ≤ x ∧ x ≤ 255) (j : Nat) (h1 : j < a.length) (h2 : j < b.length) (h3 : j < c.length) : zN a b c j < 256 := by
  have q1 := wf8 ha j h1
  have q2 := wf8 hb j h2
  have q3 := wf8 hc j h3
  exact Nat.xor_lt_two_pow (n := 8) (Nat.xor_lt_two_pow (n := 8) (by omega) (by omega)) (by omega)
theorem xrow_b {a b c : List Int} {n : Nat} (ha : ∀ x ∈ a, 0 ≤ x ∧ x ≤ 255) (hb : ∀ x ∈ b, 0 ≤ x ∧ x ≤ 255) (hc : ∀ x ∈ c, 0 ≤ x ∧ x ≤ 255) (h1 : n = a.length) (h2 : n = b.length) (h3 : n = c.length) : ∀ x ∈ xrow a b c n n, 0 ≤ x ∧ x ≤ 255 := by
  intro x hx
  unfold xrow at hx
  rw [List.mem_map] at hx
  obtain ⟨j, hj, rfl⟩ := hx
  have hj : j < n := by simpa using hj
  rw [if_pos hj]
  have := zN_lt ha hb hc j (by omega) (by omega) (by omega)
  omega
theorem xrow_nat {a b c : List Int} {n : Nat} (h1 : n = a.length) (h2 : n = b.length) (h3 : n = c.length) : nat (xrow a b c n n) = zipx (zipx (nat a) (nat b)) (nat c) := by
  rw [zipx_with, zipx_with]
  apply List.ext_getElem
  · simp [nat, xrow]; omega
  · intro j g1 g2
    have hj : j < n := by simpa [nat, xrow] using g1
    simp only [nat, xrow, List.getElem_map, List.getElem_range, List.getElem_zipWith]
    rw [if_pos hj]
    unfold zN
    rw [rd_get a j (by omega), rd_get b j (by omega), rd_get c j (by omega)]
    simp
theorem lin (a b c : List Int) (n : Nat) (ha : ∀ x ∈ a, 0 ≤ x ∧ x ≤ 255) (hb : ∀ x ∈ b, 0 ≤ x ∧ x ≤ 255) (hc : ∀ x ∈ c, 0 ≤ x ∧ x ≤ 255) (h1 : n = a.length) (h2 : n = b.length) (h3 : n = c.length) :
    shortN (xrow a b c n n) = shortN a ^^^ shortN b ^^^ shortN c ∧ longN (xrow a b c n n) = longN a ^^^ longN b ^^^ longN c := by
  unfold shortN longN
  rw [xrow_nat h1 h2 h3]
  exact ⟨linear 33800 16 (by decide) (by decide) _ _ _ (by simp [nat]; omega) (by simp [nat]; omega) (nat_lt ha) (nat_lt hb) (nat_lt hc), linear 3988292384 32 (by decide) (by decide) _ _ _ (by simp [nat]; omega) (by simp [nat]; omega) (nat_lt ha) (nat_lt hb) (nat_lt hc)⟩
theorem rds_ob {w : World} {b : Nat} {xs : List Int} {n : Nat} (h : Ob w b 5 (xs.map (Value.int .u8))) (hn : xs.length = n) (hm : n ≤ 9223372036854775807) : Rds (Kd.int .u8) w (some ⟨b, 0, none⟩) n n xs := by
  subst hn
  refine ⟨⟨rfl, hm, fun _ => ⟨_, rfl, fun j p hj => ⟨[.int .u8 p], rfl, rfl, fun i u hu => ?_⟩⟩⟩, rfl, Nat.le_refl _⟩
  cases i with
  | zero =>
    simp at hu
    subst hu
    rw [add_at, Nat.zero_add, show j * (Kd.int .u8).sz + 0 = j from Nat.mul_one j]
    exact h.at_ j (by simp [hj])
  | succ i => simp at hu
theorem mk22 (m : Nat) (hm : m ≤ 4096) (W : World) : (Instr.makeSlice 22 (.int .i64 (m : Int)) (.int .i64 (m : Int))).run Try.prog W = .ok (.slice (some ⟨W.heap.size, 0, none⟩) m m) (W.alloc (.cells (List.replicate m (.int .u8 0)).toArray 5)) := by
  have h := print_make_of (P := Try.prog) 22 5 (.int .u8 0) 1 Try.underlying22 rfl rfl (by decide) m (by omega) W
  have e : madeCells #[.int .u8 0] m = (List.replicate m (.int .u8 0)).toArray := by
    apply Array.ext
    · simp [madeCells]
    · intro i h1 h2
      simp [madeCells, Nat.mod_one]
  rwa [e] at h
set_option maxHeartbeats 8000000 in
set_option maxRecDepth 100000 in
theorem lin_in (A1 A2 A3 : Option Addr) (n c1 c2 c3 : Nat) (a b c : List Int) (w : World) (ra : Rds (Kd.int .u8) w A1 n c1 a) (rb : Rds (Kd.int .u8) w A2 n c2 b) (rc : Rds (Kd.int .u8) w A3 n c3 c) (hn : n ≤ 200)
    (ha : ∀ x ∈ a, 0 ≤ x ∧ x ≤ 255) (hb : ∀ x ∈ b, 0 ≤ x ∧ x ≤ 255) (hc : ∀ x ∈ c, 0 ≤ x ∧ x ≤ 255) :
    Calls Try.prog 3 #[.slice A1 n c1, .slice A2 n c2, .slice A3 n c3] w fun e w' => e = .returned (.bool true) ∧ Below w.heap.size w w' := by
  have RA := Aside0.mk ra
  have RB := Aside0.mk rb
  have RC := Aside0.mk rc
  have WA := Aside0.mk ha
  have WB := Aside0.mk hb
  have WC := Aside0.mk hc
  have LIN := Aside0.mk (lin a b c n ha hb hc ra.len rb.len rc.len)
  have XB := Aside0.mk (xrow_b ha hb hc ra.len rb.len rc.len)
  have XS := Aside0.mk (xrow_set a b c n)
  have XL := Aside0.mk (xrow_len a b c n)
  have ZL : Aside0 (∀ j, j < n → zN a b c j < 256) := ⟨fun j hj => zN_lt ha hb hc j (by have := ra.len; omega) (by have := rb.len; omega) (by have := rc.len; omega)⟩
  have mk := mk22 n (by omega)
  have hnm : n ≤ 9223372036854775807 := by omega
  have X0 := Aside0.mk (xrow_zero a b c n)
  clear ra rb rc ha hb hc
  go_enter Try.func3, Try.ntmps3
  go_wp2_with (first
      | (go_at_call 9; (with_reducible refine (alive_ok _).mono ?_); rintro e w1 ⟨rfl, hb1⟩; have HB1 := Aside0.mk hb1; clear hb1))
  have I2 : Aside0 (Ob (w1.alloc (.cells (Array.replicate n (.int .u8 0)) 5)) w1.heap.size 5 ((xrow a b c n 0).map (Value.int .u8))) := ⟨by
    have := Ob.new w1 5 (List.replicate n (Value.int .u8 0))
    rw [X0.out, List.map_replicate]
    rwa [List.toArray_replicate] at this⟩
  have HB2 := Aside0.mk (below_alloc HB1.out (.cells (Array.replicate n (.int .u8 0)) 5))
  have GX := Aside0.mk HB1.out.size
  generalize w1.alloc (.cells (Array.replicate n (.int .u8 0)) 5) = w2 at I2 HB2 ⊢
  generalize w1.heap.size = bx at I2 GX ⊢
  clear mk HB1 X0
  go_loopg [9] (n + 1) (fun kq v9 w' => ∃ i : Nat, v9 = .int .i64 i ∧ i ≤ n ∧ kq = n + 1 - i ∧ Aside0 (Ob w' bx 5 ((xrow a b c n i).map (Value.int .u8))) ∧ Aside0 (Below w.heap.size w w'))
  case atStart => exact ⟨0, by simp, by omega, by omega, I2, HB2⟩
  case round =>
    clear I2 HB2
    obtain ⟨i, rfl, hi, hkq, I3, HB3⟩ := hrel
    by_cases hlt : i < n
    · obtain ⟨a1, hA1, p1⟩ := (RA.out.below HB3.out).int (i : Int) (by omega) (by omega)
      obtain ⟨a2, hA2, p2⟩ := (RB.out.below HB3.out).int (i : Int) (by omega) (by omega)
      obtain ⟨a3, hA3, p3⟩ := (RC.out.below HB3.out).int (i : Int) (by omega) (by omega)
      subst hA1 hA2 hA3
      simp only [Int.toNat_natCast] at p1 p2 p3
      have x1 := wf8 WA.out i (by have := RA.out.len; omega)
      have x2 := wf8 WB.out i (by have := RB.out.len; omega)
      have x3 := wf8 WC.out i (by have := RC.out.len; omega)
      have zl := ZL.out i hlt
      have XSi := Aside0.mk (XS.out i hlt)
      have hz : zN a b c i = (rd a i).toNat ^^^ (rd b i).toNat ^^^ (rd c i).toNat := rfl
      obtain ⟨y1, e1⟩ : ∃ y : Nat, rd a i = (y : Int) := ⟨(rd a i).toNat, by omega⟩
      obtain ⟨y2, e2⟩ : ∃ y : Nat, rd b i = (y : Int) := ⟨(rd b i).toNat, by omega⟩
      obtain ⟨y3, e3⟩ : ∃ y : Nat, rd c i = (y : Int) := ⟨(rd c i).toNat, by omega⟩
      rw [e1] at p1 x1 hz
      rw [e2] at p2 x2 hz
      rw [e3] at p3 x3 hz
      simp only [Int.toNat_natCast] at hz
      have q1 : bits .xor .u8 (y1 : Int) (y2 : Int) = ((y1 ^^^ y2 : Nat) : Int) := xor_u8 y1 y2 (by omega) (by omega)
      have q2 : bits .xor .u8 ((y1 ^^^ y2 : Nat) : Int) (y3 : Int) = ((zN a b c i : Nat) : Int) := by rw [hz]; exact xor_u8 (y1 ^^^ y2) y3 (Nat.xor_lt_two_pow (n := 8) (by omega) (by omega)) (by omega)
      have c0 := I3.out.at_ i (v := .int .u8 ((xrow a b c n i).getD i 0)) (by have := XL.out i; simp [List.getD, show i < (xrow a b c n i).length by omega])
      have f0 := I3.out.frozen i
      clear hz e1 e2 e3
      generalize y1 ^^^ y2 = y12 at q1 q2
      generalize zN a b c i = z at q2 zl XSi
      go_wp2
      refine region_tail 17 (by kernel_rfl) (by kernel_rfl) ?_
      intro w4 hb4 hc4 hf4 hh4
      replace p1 := (hc4 _).trans p1
      replace p2 := (hc4 _).trans p2
      replace p3 := (hc4 _).trans p3
      replace c0 := (hc4 _).trans c0
      replace f0 := (hf4 _).trans f0
      have I4 := Aside0.mk (I3.out.heap hh4)
      have HB4 := Aside0.mk (below_step HB3.out hb4)
      clear hb4 hc4 hf4 hh4
      simp only [List.take_succ_cons, List.take_zero, List.drop_succ_cons, List.drop_zero]
      repeat still_step
      refine wpStill_nil ?_
      go_wp2_with fail
      go_roundg (n - i)
      case measure => omega
      case rel => exact ⟨i + 1, by go_num, by omega, by omega, ⟨by have := I4.out.set i (.int .u8 z); rw [← XSi.out, List.map_set]; exact this⟩, ⟨Fr.above HB4.out HB4.out.size (Fr.put (Fr.refl (fun x => x = bx) w4) i (.int .u8 z)) (fun j hj e => by have := GX.out; omega)⟩⟩
    · obtain rfl : i = n := by omega
      have RX := Aside0.mk (rds_ob I3.out (XL.out i) hnm)
      have S1 := LIN.out.1
      have S2 := LIN.out.2
      have l1 := shortN_lt a
      have l2 := shortN_lt b
      have l3 := shortN_lt c
      have m1 := longN_lt a
      have m2 := longN_lt b
      have m3 := longN_lt c
      have CA := Aside0.mk (short_ok A1 i c1 a _ (RA.out.below HB3.out) WA.out hnm)
      have CB := Aside0.mk (short_ok A2 i c2 b _ (RB.out.below HB3.out) WB.out hnm)
      have CC := Aside0.mk (short_ok A3 i c3 c _ (RC.out.below HB3.out) WC.out hnm)
      have CX := Aside0.mk (short_ok _ i i _ _ RX.out XB.out hnm)
      have DA := Aside0.mk (long_ok A1 i c1 a _ (RA.out.below HB3.out) WA.out hnm)
      have DB := Aside0.mk (long_ok A2 i c2 b _ (RB.out.below HB3.out) WB.out hnm)
      have DC := Aside0.mk (long_ok A3 i c3 c _ (RC.out.below HB3.out) WC.out hnm)
      have DX := Aside0.mk (long_ok _ i i _ _ RX.out XB.out hnm)
      rw [S1] at CX
      rw [S2] at DX
      clear S1 S2 LIN XS XL XB ZL
      generalize shortN a = s1 at *
      generalize shortN b = s2 at *
      generalize shortN c = s3 at *
      generalize longN a = t1 at *
      generalize longN b = t2 at *
      generalize longN c = t3 at *
      have q1 : bits .xor .u16 (s1 : Int) (s2 : Int) = ((s1 ^^^ s2 : Nat) : Int) := xor_u16 s1 s2 l1 l2
      have hs : s1 ^^^ s2 < 65536 := Nat.xor_lt_two_pow (n := 16) l1 l2
      have q2 : bits .xor .u16 ((s1 ^^^ s2 : Nat) : Int) (s3 : Int) = ((s1 ^^^ s2 ^^^ s3 : Nat) : Int) := xor_u16 _ s3 hs l3
      have q3 : bits .xor .u32 (t1 : Int) (t2 : Int) = ((t1 ^^^ t2 : Nat) : Int) := xor_u32 t1 t2 m1 m2
      have ht : t1 ^^^ t2 < 4294967296 := Nat.xor_lt_two_pow (n := 32) m1 m2
      have q4 : bits .xor .u32 ((t1 ^^^ t2 : Nat) : Int) (t3 : Int) = ((t1 ^^^ t2 ^^^ t3 : Nat) : Int) := xor_u32 _ t3 ht m3
      generalize s1 ^^^ s2 = s12 at *
      generalize t1 ^^^ t2 = t12 at *
      generalize s12 ^^^ s3 = s at *
      generalize t12 ^^^ t3 = t at *
      go_wp2_with (first
        | (go_at_call 10; (with_reducible refine CA.out.mono ?_); rintro e w' ⟨rfl, rfl⟩)
        | (go_at_call 10; (with_reducible refine CB.out.mono ?_); rintro e w' ⟨rfl, rfl⟩)
        | (go_at_call 10; (with_reducible refine CC.out.mono ?_); rintro e w' ⟨rfl, rfl⟩)
        | (go_at_call 10; (with_reducible refine CX.out.mono ?_); rintro e w' ⟨rfl, rfl⟩)
        | (go_at_call 11; (with_reducible refine DA.out.mono ?_); rintro e w' ⟨rfl, rfl⟩)
        | (go_at_call 11; (with_reducible refine DB.out.mono ?_); rintro e w' ⟨rfl, rfl⟩)
        | (go_at_call 11; (with_reducible refine DC.out.mono ?_); rintro e w' ⟨rfl, rfl⟩)
        | (go_at_call 11; (with_reducible refine DX.out.mono ?_); rintro e w' ⟨rfl, rfl⟩))
      go_ret
      exact ⟨rfl, HB3.out⟩

set_option maxHeartbeats 8000000 in
set_option maxRecDepth 100000 in
theorem lin_long (A1 A2 A3 : Option Addr) (n1 n2 n3 c1 c2 c3 : Nat) (w : World) (hl : 200 < n1) (hm : n1 ≤ 9223372036854775807) :
    Calls Try.prog 3 #[.slice A1 n1 c1, .slice A2 n2 c2, .slice A3 n3 c3] w fun e w' => e = .returned (.bool true) ∧ Below w.heap.size w w' := by
  have h1 : (200 : Int) < (n1 : Int) := by omega
  clear hl
  go_enter Try.func3, Try.ntmps3
  go_wp2_with (first
      | (go_at_call 9; (with_reducible refine (alive_ok _).mono ?_); rintro e w1 ⟨rfl, hb1⟩; have HB1 := Aside0.mk hb1; clear hb1))
  go_ret
  exact ⟨rfl, HB1.out⟩
set_option maxHeartbeats 8000000 in
set_option maxRecDepth 100000 in
theorem lin_two (A1 A2 A3 : Option Addr) (n1 n2 n3 c1 c2 c3 : Nat) (w : World) (hl : n1 ≤ 200) (h2 : n2 ≠ n1) (hm : n2 ≤ 9223372036854775807) :
    Calls Try.prog 3 #[.slice A1 n1 c1, .slice A2 n2 c2, .slice A3 n3 c3] w fun e w' => e = .returned (.bool true) ∧ Below w.heap.size w w' := by
  have h1 : ((n2 : Int) != (n1 : Int)) = true := by simp [bne]; omega
  have h3 : ((n2 : Int) == (n1 : Int)) = false := by simp; omega
  go_enter Try.func3, Try.ntmps3
  go_wp2_with (first
      | (go_at_call 9; (with_reducible refine (alive_ok _).mono ?_); rintro e w1 ⟨rfl, hb1⟩; have HB1 := Aside0.mk hb1; clear hb1))
  go_ret
  exact ⟨rfl, HB1.out⟩
set_option maxHeartbeats 8000000 in
set_option maxRecDepth 100000 in
theorem lin_three (A1 A2 A3 : Option Addr) (n1 n3 c1 c2 c3 : Nat) (w : World) (hl : n1 ≤ 200) (h2 : n3 ≠ n1) (hm : n3 ≤ 9223372036854775807) :
    Calls Try.prog 3 #[.slice A1 n1 c1, .slice A2 n1 c2, .slice A3 n3 c3] w fun e w' => e = .returned (.bool true) ∧ Below w.heap.size w w' := by
  have h1 : ((n3 : Int) != (n1 : Int)) = true := by simp [bne]; omega
  have h3 : ((n3 : Int) == (n1 : Int)) = false := by simp; omega
  go_enter Try.func3, Try.ntmps3
  go_wp2_with (first
      | (go_at_call 9; (with_reducible refine (alive_ok _).mono ?_); rintro e w1 ⟨rfl, hb1⟩; have HB1 := Aside0.mk hb1; clear hb1))
  go_ret
  exact ⟨rfl, HB1.out⟩
theorem walk (a0 : Option Addr) (len0 cap0 : Nat) (z0 : List Int) (a1 : Option Addr) (len1 cap1 : Nat) (z1 : List Int) (a2 : Option Addr) (len2 cap2 : Nat) (z2 : List Int) (W : World)
    (w0 : IsRow .u8 W a0 len0 cap0 z0) (_y0 : len0 * 1 ≤ 140737488351232) (w1 : IsRow .u8 W a1 len1 cap1 z1) (_y1 : len1 * 1 ≤ 140737488351232) (w2 : IsRow .u8 W a2 len2 cap2 z2) (_y2 : len2 * 1 ≤ 140737488351232) :
    Calls Try.prog 3 #[.slice a0 len0 cap0, .slice a1 len1 cap1, .slice a2 len2 cap2] W fun e w' => e = .returned (.bool true) ∧ Below W.heap.size W w' := by
  obtain ⟨l0, r0, m0, b0⟩ := rds_of_row w0
  obtain ⟨l1, r1, m1, b1⟩ := rds_of_row w1
  obtain ⟨l2, r2, m2, b2⟩ := rds_of_row w2
  rcases Nat.lt_or_ge 200 len0 with h | h
  · exact lin_long a0 a1 a2 len0 len1 len2 cap0 cap1 cap2 W h m0
  · by_cases e1 : len1 = len0
    · subst e1
      by_cases e2 : len2 = len1
      · subst e2
        exact lin_in a0 a1 a2 len2 cap0 cap1 cap2 l0 l1 l2 W r0 r1 r2 h (fun x hx => wf_u8 (b0 x hx)) (fun x hx => wf_u8 (b1 x hx)) (fun x hx => wf_u8 (b2 x hx))
      · exact lin_three a0 a1 a2 len1 len2 cap0 cap1 cap2 W h e2 m2
    · exact lin_two a0 a1 a2 len0 len1 len2 cap0 cap1 cap2 W h e1 m1

end Go.Proofs.Ytpfblfepgppinaa.FcLinW
