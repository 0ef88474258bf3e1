/- The law MonitorKnown. -/
import Derived.Test.YtjmkddadbblblaaMoC
namespace Go.Proofs.Ytjmkddadbblblaa.MoKnownW
open Go.Proofs.Ytjmkddadbblblaa.MoP (Mo Ok)
open Go.RowKit Go.Proofs.YtjmkddadbblblaaW.PrintWords Go.Proofs.YtjmkddadbblblaaW.PrintLast Go.Proofs.YtjmkddadbblblaaW.PrintMore Go.Proofs.Ytjmkddadbblblaa.K Go.Proofs.Ytjmkddadbblblaa.TaP Go.Proofs.Ytjmkddadbblblaa.TaA Go.Proofs.Ytjmkddadbblblaa.TaB Go.Proofs.Ytjmkddadbblblaa.TaR Go.Proofs.Ytjmkddadbblblaa.MoA Go.Proofs.Ytjmkddadbblblaa.MoR Go.Proofs.Ytjmkddadbblblaa.MoB Go.Proofs.Ytjmkddadbblblaa.MoC
set_option linter.unusedVariables false
set_option linter.unusedSimpArgs false
attribute [local go_sem] max2_int min2_int max_two min_two

def SL : List ByteArray := [⟨#[]⟩, ⟨#[98]⟩, ⟨#[98, 98]⟩, ⟨#[98, 98, 98]⟩, ⟨#[98, 98, 98, 98]⟩, ⟨#[98, 98, 98, 98, 103]⟩, ⟨#[98, 98, 98, 98, 103, 103]⟩, ⟨#[98, 98, 103, 103]⟩, ⟨#[98, 103, 98]⟩, ⟨#[103, 103, 103, 103, 103, 103, 103, 103, 103, 103, 103, 103, 103, 103, 103, 103, 103, 98, 98]⟩, ⟨#[98, 98, 98, 98, 103, 103, 98, 98]⟩, ⟨#[98, 98, 103]⟩, ⟨#[98, 98, 103, 103, 98]⟩, ⟨#[98, 98, 103, 98, 103, 98]⟩]
def WL : List Int := [0, 0, 1, 1, 2, 2, 0, 0, 1, 1, 1, 1, 0, 2]
theorem lits (w : World) : Ob ((w.alloc (.cells #[.string ⟨#[]⟩, .string ⟨#[98]⟩, .string ⟨#[98, 98]⟩, .string ⟨#[98, 98, 98]⟩, .string ⟨#[98, 98, 98, 98]⟩, .string ⟨#[98, 98, 98, 98, 103]⟩, .string ⟨#[98, 98, 98, 98, 103, 103]⟩, .string ⟨#[98, 98, 103, 103]⟩, .string ⟨#[98, 103, 98]⟩, .string ⟨#[103, 103, 103, 103, 103, 103, 103, 103, 103, 103, 103, 103, 103, 103, 103, 103, 103, 98, 98]⟩, .string ⟨#[98, 98, 98, 98, 103, 103, 98, 98]⟩, .string ⟨#[98, 98, 103]⟩, .string ⟨#[98, 98, 103, 103, 98]⟩, .string ⟨#[98, 98, 103, 98, 103, 98]⟩] 9)).alloc (.cells #[.int .i64 0, .int .i64 0, .int .i64 1, .int .i64 1, .int .i64 2, .int .i64 2, .int .i64 0, .int .i64 0, .int .i64 1, .int .i64 1, .int .i64 1, .int .i64 1, .int .i64 0, .int .i64 2] 3)) w.heap.size 9 (SL.map Value.string) ∧ Ob ((w.alloc (.cells #[.string ⟨#[]⟩, .string ⟨#[98]⟩, .string ⟨#[98, 98]⟩, .string ⟨#[98, 98, 98]⟩, .string ⟨#[98, 98, 98, 98]⟩, .string ⟨#[98, 98, 98, 98, 103]⟩, .string ⟨#[98, 98, 98, 98, 103, 103]⟩, .string ⟨#[98, 98, 103, 103]⟩, .string ⟨#[98, 103, 98]⟩, .string ⟨#[103, 103, 103, 103, 103, 103, 103, 103, 103, 103, 103, 103, 103, 103, 103, 103, 103, 98, 98]⟩, .string ⟨#[98, 98, 98, 98, 103, 103, 98, 98]⟩, .string ⟨#[98, 98, 103]⟩, .string ⟨#[98, 98, 103, 103, 98]⟩, .string ⟨#[98, 98, 103, 98, 103, 98]⟩] 9)).alloc (.cells #[.int .i64 0, .int .i64 0, .int .i64 1, .int .i64 1, .int .i64 2, .int .i64 2, .int .i64 0, .int .i64 0, .int .i64 1, .int .i64 1, .int .i64 1, .int .i64 1, .int .i64 0, .int .i64 2] 3)) (w.heap.size + 1) 3 (WL.map (Value.int .i64)) := by
  refine ⟨(Ob.new w 9 (SL.map Value.string)).alloc _, ?_⟩
  have := Ob.new (w.alloc (.cells #[.string ⟨#[]⟩, .string ⟨#[98]⟩, .string ⟨#[98, 98]⟩, .string ⟨#[98, 98, 98]⟩, .string ⟨#[98, 98, 98, 98]⟩, .string ⟨#[98, 98, 98, 98, 103]⟩, .string ⟨#[98, 98, 98, 98, 103, 103]⟩, .string ⟨#[98, 98, 103, 103]⟩, .string ⟨#[98, 103, 98]⟩, .string ⟨#[103, 103, 103, 103, 103, 103, 103, 103, 103, 103, 103, 103, 103, 103, 103, 103, 103, 98, 98]⟩, .string ⟨#[98, 98, 98, 98, 103, 103, 98, 98]⟩, .string ⟨#[98, 98, 103]⟩, .string ⟨#[98, 98, 103, 103, 98]⟩, .string ⟨#[98, 98, 103, 98, 103, 98]⟩] 9)) 3 (WL.map (Value.int .i64))
  rwa [World.size_alloc] at this
def Mk (s : ByteArray) : Nat → Mo
  | 0 => MoP.newM 4 2 1000
  | i + 1 => MoP.noteM (Mk s i) (s.data.getD i 0 == 103)
theorem mk_ok (s : ByteArray) (i : Nat) : Ok (Mk s i) := by
  induction i with
  | zero => exact MoP.Ok.new _ _ _
  | succ i ih => exact ih.note _
theorem mk_step (s : ByteArray) (i : Nat) (h : i < s.size) : MoP.noteM (Mk s i) (((s[i].toNat : Nat) : Int) == 103) = Mk s (i + 1) := by
  have e1 : s.data.getD i 0 = s[i] := by simp [Array.getD, ByteArray.getElem_eq_getElem_data, show i < s.data.size from h, h]
  have e2 : (((s[i].toNat : Nat) : Int) == 103) = (s[i] == 103) := by
    generalize s[i] = x
    by_cases hx : x = 103
    · subst hx; rfl
    · rw [beq_eq_false_iff_ne.mpr hx]
      refine beq_eq_false_iff_ne.mpr (fun h2 => hx (UInt8.toNat_inj.1 ?_))
      show x.toNat = 103
      omega
  rw [e2, ← e1]
  rfl
theorem short : ∀ k : Nat, k < 14 → (SL.getD k ⟨#[]⟩).size ≤ 20 := by decide +kernel
theorem ob_note {w w' : World} {p g c b t : Nat} {M : Mo} {l : List Value} (i : IsM w p g c M) (o : Ob w b t l) (h1 : t ≠ 46) (h2 : t ≠ 56) (h3 : t ≠ 4) (f : Fr (fun k => k = p ∨ k = g ∨ k = c) w w') : Ob w' b t l := by
  obtain ⟨W, h, _⟩ := i.win
  refine o.fr f (fun e => ?_)
  rcases e with e | e | e
  · exact blk_ne o i.tab h1 e
  · exact blk_ne o h.tab h2 e
  · exact blk_ne o h.row h3 e
theorem state_s (p g c : Nat) (M : Mo) (w : World) (i : IsM w p g c M) : Calls Try.prog 11 #[.pointer (some ⟨p, 0, none⟩)] w fun e w' => e = .returned (.int .i64 M.state) ∧ w' = w := (state_ok p g c M w i).mono fun _ _ h => ⟨h.1, h.2.symm⟩
theorem known : ∀ k : Nat, k < 14 → (Mk (SL.getD k ⟨#[]⟩) (SL.getD k ⟨#[]⟩).size).state = WL.getD k 0 := by decide +kernel
theorem sl_at (k : Nat) (h : k < 14) : (SL.map Value.string)[k]? = some (.string (SL.getD k ⟨#[]⟩)) ∧ (WL.map (Value.int .i64))[k]? = some (.int .i64 (WL.getD k 0)) := by
  have h1 : k < SL.length := h
  have h2 : k < WL.length := h
  simp [h1, h2]
set_option maxHeartbeats 8000000 in
set_option maxRecDepth 100000 in
theorem known_in (k : Nat) (hk : k < 14) (w : World) : Calls Try.prog 3 #[.int .i64 k] w fun e w' => e = .returned (.bool true) ∧ Below w.heap.size w w' := by
  have LT := Aside0.mk lits
  have q1 : ¬ (14 : Int) ≤ (k : Int) := by omega
  have HK := Aside0.mk (known k hk)
  have HZ := Aside0.mk (short k hk)
  have HA := Aside0.mk (sl_at k hk)
  obtain ⟨s, hs⟩ : ∃ s, s = SL.getD k ⟨#[]⟩ := ⟨_, rfl⟩
  obtain ⟨v, hv⟩ : ∃ v, v = WL.getD k 0 := ⟨_, rfl⟩
  rw [← hs, ← hv] at HK HA
  rw [← hs] at HZ
  clear hs hv
  go_enter Try.func3, Try.ntmps3
  go_wp2_with (first
      | (go_at_call 8; have hcall := alive_ok w; (with_reducible refine hcall.mono ?_); clear hcall; rintro e w1 ⟨rfl, hb⟩; have B1 := Aside0.mk hb; clear hb)
      | (go_at_call 9; (with_reducible refine (newm_ok 4 2 1000 _).mono ?_); rintro e w2 ⟨p, g, c, rfl, hp, hg, hc, i, hb⟩; have O := LT.out w1; have O1 := Aside0.mk (O.1.below hb); have O2 := Aside0.mk (O.2.below hb); have HP := Aside0.mk (Nat.le_trans B1.out.size (Nat.le_trans (below_alloc (below_alloc (Below.refl _ _) _) _).size hp)); have HG := Aside0.mk (Nat.le_trans B1.out.size (Nat.le_trans (below_alloc (below_alloc (Below.refl _ _) _) _).size hg)); have HC := Aside0.mk (Nat.le_trans B1.out.size (Nat.le_trans (below_alloc (below_alloc (Below.refl _ _) _) _).size hc)); have I2 := Aside0.mk i; have B2 := Aside0.mk (below_step (below_alloc (below_alloc B1.out _) _) hb); clear O hp hg hc i hb))
  obtain ⟨b1, hb1⟩ : ∃ b1, b1 = w1.heap.size := ⟨_, rfl⟩
  obtain ⟨b2, hb2⟩ : ∃ b2, b2 = w1.heap.size + 1 := ⟨_, rfl⟩
  rw [← hb1] at O1
  rw [← hb2] at O2
  rw [← hb2, ← hb1]
  clear hb1 hb2 B1 LT
  obtain ⟨sz, hsz⟩ : ∃ x, x = s.size := ⟨_, rfl⟩
  have SZ := Aside0.mk hsz
  have hz20 : sz ≤ 20 := by rw [hsz]; exact HZ.out
  go_loopg [7] (sz + 1) (fun kq v7 w' => ∃ i : Nat, v7 = .int .i64 i ∧ i ≤ sz ∧ kq = sz + 1 - i ∧ Aside0 (IsM w' p g c (Mk s i)) ∧ Aside0 (Ob w' b1 9 (SL.map Value.string)) ∧ Aside0 (Ob w' b2 3 (WL.map (Value.int .i64))) ∧ Aside0 (Below w.heap.size w w'))
  case atStart => exact ⟨0, rfl, by omega, by omega, I2, O1, O2, B2⟩
  case round =>
    clear I2 B2 O1 O2
    obtain ⟨i, rfl, hi, hkq, I3, O1, O2, B3⟩ := hrel
    have x1 := O1.out.at_ k HA.out.1
    have x2 := O2.out.at_ k HA.out.2
    by_cases hlt : i < sz
    · have e1 := mk_step s i (by rw [← SZ.out]; exact hlt)
      have MS := Aside0.mk e1
      clear e1
      go_wp2_with (first
      | (go_at_call 10; (with_reducible refine (notem_ok p g c (Mk s i) _ (mk_ok s i) _ I3.out).mono ?_); rintro e w4 ⟨rfl, i, f⟩; have O3 := Aside0.mk (ob_note I3.out O1.out (by decide) (by decide) (by decide) f); have O4 := Aside0.mk (ob_note I3.out O2.out (by decide) (by decide) (by decide) f); have I4 := Aside0.mk (MS.out ▸ i); have B4 := Aside0.mk (Fr.above B3.out B3.out.size f (fun i hi he => by have := HP.out; have := HG.out; have := HC.out; omega)); clear i f I3 B3))
      go_roundg (sz - i)
      case measure => omega
      case rel => exact ⟨i + 1, by go_num, by omega, by omega, I4, O3, O4, B4⟩
    · obtain rfl : i = sz := by omega
      have eq1 : ((Mk s i).state == v) = true := by rw [SZ.out, HK.out]; simp
      go_wp2_with fail
      refine region_still (by kernel_rfl) (by kernel_rfl) ?_
      intro w5 hb5 hc5 hf5 hh5
      replace x2 := (hc5 _).trans x2
      have I5 := Aside0.mk (I3.out.below hb5)
      have B5 := Aside0.mk (below_step B3.out hb5)
      clear hb5 hc5 hf5 hh5
      repeat still_step
      still_call (state_s p g c (Mk s i) _ I5.out)
      repeat still_step
      refine wpStill_nil ?_
      go_wp2_with fail
      first | go_ret | go_ret2 | ((try simp only [Exit.inBlock, Exit.then]); refine bodyPost_ret (results_tmp3 rfl _ _ _) rfl ?_) | go_end0 | refine bodyPost_ret0 rfl rfl ?_
      exact ⟨by show Ending.returned (.bool ((Mk s s.size).state == v)) = _; rw [HK.out]; simp, B5.out⟩

set_option maxHeartbeats 8000000 in
set_option maxRecDepth 100000 in
theorem known_out (a : Int) (h : a < 0 ∨ 14 ≤ a) (w : World) : Calls Try.prog 3 #[.int .i64 a] w fun e w' => e = .returned (.bool true) ∧ Below w.heap.size w w' := by
  rcases h with h | h
  · go_enter Try.func3, Try.ntmps3
    go_wp2_with (first
      | (go_at_call 8; have hcall := alive_ok w; (with_reducible refine hcall.mono ?_); clear hcall; rintro e w1 ⟨rfl, hb⟩; have B1 := Aside0.mk hb; clear hb))
    first | go_ret | go_ret2 | ((try simp only [Exit.inBlock, Exit.then]); refine bodyPost_ret (results_tmp3 rfl _ _ _) rfl ?_) | go_end0 | refine bodyPost_ret0 rfl rfl ?_
    exact ⟨rfl, below_alloc (below_alloc B1.out _) _⟩
  · have h2 : ¬ a < 0 := by omega
    go_enter Try.func3, Try.ntmps3
    go_wp2_with (first
      | (go_at_call 8; have hcall := alive_ok w; (with_reducible refine hcall.mono ?_); clear hcall; rintro e w1 ⟨rfl, hb⟩; have B1 := Aside0.mk hb; clear hb))
    first | go_ret | go_ret2 | ((try simp only [Exit.inBlock, Exit.then]); refine bodyPost_ret (results_tmp3 rfl _ _ _) rfl ?_) | go_end0 | refine bodyPost_ret0 rfl rfl ?_
    exact ⟨rfl, below_alloc (below_alloc B1.out _) _⟩
theorem walk (a0 : Int) (W : World) (_h0 : (Lit.int .i64 a0).wf = true) : Calls Try.prog 3 #[.int .i64 a0] W fun e W' => e = .returned (.bool true) ∧ Below W.heap.size W W' := by
  by_cases h : 0 ≤ a0 ∧ a0 < 14
  · obtain ⟨k, rfl⟩ : ∃ n : Nat, a0 = n := ⟨a0.toNat, by omega⟩
    exact known_in k (by omega) W
  · exact known_out a0 (by omega) W

end Go.Proofs.Ytjmkddadbblblaa.MoKnownW
