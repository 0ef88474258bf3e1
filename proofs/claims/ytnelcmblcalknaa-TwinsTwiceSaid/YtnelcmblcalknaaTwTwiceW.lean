/- Nothing is fresh twice, as long as numbers stay within half of all: the walk. -/
import Derived.Test.YtnelcmblcalknaaTwC
import Derived.Test.YtnelcmblcalknaaK3
namespace Go.Proofs.Ytnelcmblcalknaa.TwTwiceW
open Go.RowKit Go.Proofs.YtnelcmblcalknaaW.PrintWords Go.Proofs.YtnelcmblcalknaaW.PrintLast Go.Proofs.YtnelcmblcalknaaW.PrintMore Go.Proofs.Ytnelcmblcalknaa.K Go.Proofs.Ytnelcmblcalknaa.TwP Go.Proofs.Ytnelcmblcalknaa.TwA Go.Proofs.Ytnelcmblcalknaa.TwB Go.Proofs.Ytnelcmblcalknaa.TwQ Go.Proofs.Ytnelcmblcalknaa.TwC
set_option linter.unusedVariables false
set_option linter.unusedSimpArgs false
attribute [local go_sem] max2_int min2_int max_two min_two

/-- All that came, and what the table knows of it. -/
structure Seen (T : Tb) (l : List Int) : Prop where
  none : l = [] → T.known = false ∧ ∀ b, has T b = false
  some : l ≠ [] → T.known = true ∧ T.high ∈ l
  low : ∀ m ∈ l, 0 ≤ m ∧ m ≤ 65535
  up : ∀ m ∈ l, m ≤ T.high
  came : ∀ m ∈ l, T.high - m < T.came.length → has T (T.high - m).toNat = true
theorem Seen.start (size : Int) : Seen (newT size) [] := ⟨fun _ => ⟨rfl, has_new size⟩, fun h => absurd rfl h, by simp, by simp, by simp⟩
theorem Seen.next {T : Tb} {l : List Int} (ok : Ok T) (h : Seen T l) (x : Int) (h0 : 0 ≤ x) (h1 : x ≤ 65535) : Seen (freshT T x) (l ++ [x]) ∧ (freshB T x = true → x ∉ l) := by
  have hl := fresh_len T x
  obtain ⟨hn, hs, hlow, hup, hc⟩ := h
  have ho := ok.at_lt
  by_cases he : l = []
  · obtain ⟨hk, hz⟩ := hn he
    obtain ⟨a1, a2, a3, a4⟩ := fresh_unknown T ok x hk (hz 0)
    subst he
    refine ⟨⟨by simp, fun _ => ⟨a2, by simp [a3]⟩, by simp; omega, by simp [a3], ?_⟩, by simp⟩
    intro m hm hlt
    simp at hm
    subst hm
    rw [a3, Int.sub_self]
    show has _ 0 = true
    rw [a4 0 (by omega), if_pos rfl]
  · obtain ⟨hk, hh⟩ := hs he
    have hb := hlow T.high hh
    rcases Int.lt_trichotomy T.high x with hx | hx | hx
    · obtain ⟨d, hd⟩ : ∃ d : Nat, x - T.high = d := ⟨(x - T.high).toNat, by omega⟩
      obtain ⟨a1, a2, a3, a4⟩ := fresh_up T ok x hk d (by unfold sub32; omega) (by unfold sub32; omega) (by omega) (by omega)
      refine ⟨⟨by simp, fun _ => ⟨a2, by simp [a3]⟩, ?_, ?_, ?_⟩, fun _ hm => by have := hup x hm; omega⟩
      · intro m hm
        simp at hm
        rcases hm with hm | rfl
        · exact hlow m hm
        · exact ⟨h0, h1⟩
      · intro m hm
        rw [a3]
        simp at hm
        rcases hm with hm | rfl
        · have := hup m hm; omega
        · exact Int.le_refl _
      · intro m hm hlt
        rw [a3, hl] at hlt
        rw [a3]
        simp at hm
        rcases hm with hm | rfl
        · have h5 := hup m hm
          rw [a4 _ (by omega), if_neg (by omega), if_neg (by omega), show (x - m).toNat - d = (T.high - m).toNat by omega]
          exact hc m hm (by omega)
        · rw [Int.sub_self]
          show has _ 0 = true
          rw [a4 0 (by omega), if_pos rfl]
    · subst hx
      obtain ⟨a1, a2⟩ := fresh_same T T.high hk (by unfold sub32; omega)
      rw [a1, a2]
      refine ⟨⟨by simp, fun _ => ⟨hk, by simp⟩, ?_, ?_, ?_⟩, by simp⟩
      · intro m hm
        simp at hm
        rcases hm with hm | rfl
        · exact hlow m hm
        · exact ⟨h0, h1⟩
      · intro m hm
        simp at hm
        rcases hm with hm | rfl
        · exact hup m hm
        · exact Int.le_refl _
      · intro m hm hlt
        simp at hm
        rcases hm with hm | rfl
        · exact hc m hm hlt
        · exact hc _ hh hlt
    · obtain ⟨d, hd⟩ : ∃ d : Nat, T.high - x = d := ⟨(T.high - x).toNat, by omega⟩
      obtain ⟨a1, a2, a3, a4⟩ := fresh_back T ok x hk d (by unfold sub32; omega) (by omega) (by unfold sub32; omega)
      refine ⟨⟨by simp, fun _ => ⟨a2, by simp [a3, hh]⟩, ?_, ?_, ?_⟩, ?_⟩
      · intro m hm
        simp at hm
        rcases hm with hm | rfl
        · exact hlow m hm
        · exact ⟨h0, h1⟩
      · intro m hm
        rw [a3]
        simp at hm
        rcases hm with hm | rfl
        · exact hup m hm
        · omega
      · intro m hm hlt
        rw [a3, hl] at hlt
        rw [a3]
        simp at hm
        have h5 : m ≤ T.high := by
          rcases hm with hm | rfl
          · exact hup m hm
          · omega
        rw [a4 _ (by omega)]
        split
        · rfl
        · rename_i h6
          rcases hm with hm | rfl
          · exact hc m hm hlt
          · omega
      · intro hf hm
        rw [a1] at hf
        simp at hf
        have := hc x hm (by omega)
        rw [show (T.high - x).toNat = d by omega] at this
        rw [this] at hf
        exact absurd hf.2 (by simp)
theorem info3 : (Try.prog.info? 3).map (fun i => (i.zero, i.size, i.bytes)) = some (some (.int .i64 0), 1, 8) := by kernel_rfl
theorem andFFFF (x : Int) : 0 ≤ bits .and .i64 x 65535 ∧ bits .and .i64 x 65535 ≤ 65535 := by
  simp only [bits]
  have h1 : (BitVec.ofInt IntKind.i64.bits x &&& BitVec.ofInt IntKind.i64.bits 65535).toNat ≤ 65535 := by
    rw [BitVec.toNat_and]
    exact Nat.and_le_right
  generalize (BitVec.ofInt IntKind.i64.bits x &&& BitVec.ofInt IntKind.i64.bits 65535).toNat = m at *
  rw [IntKind.wrap_i64]
  omega
set_option maxHeartbeats 8000000 in
set_option maxRecDepth 100000 in
theorem twice_in (size : Int) (Ad : Option Addr) (n cp : Nat) (l : List Int) (w : World) (hr : Rds (Kd.int .i64) w Ad n cp l) (hn : n ≤ 150) :
    Calls Try.prog 5 #[.int .i64 size, .slice Ad n cp] w fun e w' => e = .returned (.bool true) ∧ Below w.heap.size w w' := by
  have B0 := Aside0.mk (Below.refl w.heap.size w)
  have HR := Aside0.mk hr
  have hln := hr.len
  have HL := Aside0.mk hln
  clear hr hln
  go_enter Try.func5, Try.ntmps5
  go_wp2_with (first
      | (go_at_call 8; (with_reducible refine (alive_ok _).mono ?_); rintro e w1 ⟨rfl, hb1⟩; have B1 := Aside0.mk (below_step B0.out hb1); clear hb1)
      | (go_at_call 9; (with_reducible refine (new_ok size _).mono ?_); rintro e w2 ⟨g, c, rfl, hg, hc, h, hb⟩; have B2 := Aside0.mk (below_step B1.out hb); have G_a := Aside0.mk (And.intro (Nat.le_trans B1.out.size hg) (Nat.le_trans B1.out.size hc)); have I_a2 := Aside0.mk h; clear hg hc h hb))
  go_loopg [4, 7, 8, 9, 10, 11] (n + 1) (fun kq v4 v7 v8 v9 v10 v11 w' => ∃ (k : Nat) (A : Tb) (xs : List Int), v8 = .int .i64 k ∧ k ≤ n ∧ kq = n + 1 - k ∧ Aside0 (Ok A) ∧ Aside0 (Seen A xs) ∧ Aside0 (xs.length = k) ∧ Aside0 (Own (Kd.int .i64) 3 w.heap.size w' v7 xs) ∧ Aside0 (Is w' g c A) ∧ Aside0 (Below w.heap.size w w'))
  case atStart => exact ⟨0, _, [], by simp, by omega, by omega, ⟨Ok.new size⟩, ⟨Seen.start size⟩, ⟨rfl⟩, ⟨Own.nil _ _ _ _⟩, I_a2, B2⟩
  case round =>
    clear I_a2 B2
    obtain ⟨k, A, xs, rfl, hk, hm, OA, SE, LX, OX, I_a3, B3⟩ := hrel
    by_cases hlt : k < n
    · obtain ⟨ad, hA, hx0⟩ := (HR.out.below B3.out).int (k : Int) (by omega) (by omega)
      subst hA
      simp only [Int.toNat_natCast] at hx0
      generalize rd l k = x0 at hx0
      have hx := andFFFF x0
      obtain ⟨x, hxx⟩ : ∃ x, x = bits .and .i64 x0 65535 := ⟨_, rfl⟩
      rw [← hxx] at hx
      have e0 := hxx.symm
      clear hxx
      have e1 : IntKind.u32.wrap x = x := by rw [u32_w]; omega
      obtain ⟨As, cs, hv7, hcs⟩ := OX.out.slice
      subst hv7
      have hsn := SE.out.next OA.out x hx.1 hx.2
      have SN := Aside0.mk hsn.1
      have FN := Aside0.mk hsn.2
      clear hsn
      have HX := Aside0.mk hx
      obtain ⟨q, hq⟩ : ∃ q, q = xs.length := ⟨_, rfl⟩
      have HQ := Aside0.mk hq
      have HQK := Aside0.mk (hq.trans LX.out)
      have hq150 : q < 150 := by have := HQK.out; omega
      rw [← hq] at hcs ⊢
      clear hq
      go_wp2_with (first
      | (go_at_call 10; (with_reducible refine (fresh_ok g c A OA.out x HX.out.1 (by have := HX.out; omega) _ I_a3.out).mono ?_); rintro e w4 ⟨rfl, h4, f4⟩; have B4 := Aside0.mk (Fr.above B3.out B3.out.size f4 (fun i hi he => by have := G_a.out; omega)); have I_a4 := Aside0.mk h4; have OX4 := Aside0.mk (OX.out.fr f4 (fun k hk => by rintro (h | h); exact OX.out.ne I_a3.out.tab (by decide) k hk h; exact OX.out.ne I_a3.out.row (by decide) k hk h)); clear OX; clear h4 f4 B3 I_a3))
      go_loopg [11] (q + 1) (fun kq v11 w' => w' = w4 ∧ ∃ j : Nat, v11 = .int .i64 j ∧ j ≤ q ∧ kq = q + 1 - j)
      case atStart => exact ⟨rfl, 0, by simp, by omega, by omega⟩
      case round =>
        obtain ⟨rfl, j, rfl, hj, hmj⟩ := hrel
        by_cases hjl : j < q
        · obtain ⟨ad2, hA2, hx2⟩ := OX4.out.rds.int (j : Int) (by omega) (by rw [← HQ.out]; omega)
          subst hA2
          simp only [Int.toNat_natCast] at hx2
          have hmem := rd_mem xs j (by rw [← HQ.out]; exact hjl)
          generalize rd xs j = m at hx2 hmem
          by_cases hmx : m = x
          · subst hmx
            have hf : freshB A m = false := by
              cases hfb : freshB A m
              · rfl
              · exact absurd hmem (FN.out hfb)
            clear hmem
            go_wp2_with fail
            go_roundg (q - j)
            case measure => omega
            case rel => exact ⟨rfl, j + 1, by go_num, by omega, by omega⟩
          · have bm : (m == x) = false := beq_eq_false_iff_ne.mpr hmx
            clear hmem
            go_wp2_with fail
            go_roundg (q - j)
            case measure => omega
            case rel => exact ⟨rfl, j + 1, by go_num, by omega, by omega⟩
        · have HO4 := OX4.out
          rw [← HQ.out] at HO4
          have LXo := LX.out
          go_wp2_with (first | (at_builtin; refine app_int2 Try.underlying23 info3 rfl (by decide) (.tmp 53) (.tmp 55) rfl rfl rfl rfl HO4 B4.out B4.out.size (by have := HQ.out; omega) ?_; intro v6 w6 HO6 hb6 hB6 f6))
          have B6 := Aside0.mk hb6
          have I6 := Aside0.mk (I_a4.out.fr f6 (fun h => HO4.ne I_a4.out.tab (by decide) g h rfl) (fun h => HO4.ne I_a4.out.row (by decide) c h rfl))
          go_roundg (n - k)
          case measure => omega
          case rel => exact ⟨k + 1, _, xs ++ [x], by go_num, by omega, by omega, ⟨OA.out.fresh x (by omega) (by omega)⟩, SN, ⟨by simp [LX.out]⟩, ⟨HO6⟩, I6, B6⟩
    · go_wp2_with fail
      go_ret
      exact ⟨rfl, B3.out⟩
set_option maxHeartbeats 8000000 in
set_option maxRecDepth 100000 in
theorem twice_out (size : Int) (Ad : Option Addr) (n cp : Nat) (w : World) (hn : 150 < n) (hm : n ≤ 9223372036854775807) :
    Calls Try.prog 5 #[.int .i64 size, .slice Ad n cp] w fun e w' => e = .returned (.bool true) ∧ Below w.heap.size w w' := by
  have B0 := Aside0.mk (Below.refl w.heap.size w)
  have h1 : (150 : Int) < (n : Int) := by omega
  clear hn
  go_enter Try.func5, Try.ntmps5
  go_wp2_with (first
      | (go_at_call 8; (with_reducible refine (alive_ok _).mono ?_); rintro e w1 ⟨rfl, hb1⟩; have B1 := Aside0.mk (below_step B0.out hb1); clear hb1))
  go_ret
  exact ⟨rfl, B1.out⟩
theorem walk (a0 : Int) (a1 : Option Addr) (len1 cap1 : Nat) (z1 : List Int) (W : World) (_h0 : (Lit.int .i64 a0).wf = true) (w1 : IsRow .i64 W a1 len1 cap1 z1) (_y1 : len1 * 8 ≤ 140737488351232) :
    Calls Try.prog 5 #[.int .i64 a0, .slice a1 len1 cap1] W fun e w' => e = .returned (.bool true) ∧ Below W.heap.size W w' := by
  obtain ⟨l, hr, hm, hw⟩ := rds_of_row w1
  rcases Nat.lt_or_ge 150 len1 with h | h
  · exact twice_out a0 a1 len1 cap1 W h hm
  · exact twice_in a0 a1 len1 cap1 l W hr h

end Go.Proofs.Ytnelcmblcalknaa.TwTwiceW
