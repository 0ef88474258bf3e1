/- Contracts of the reference of twins. -/
import Derived.Test.YtnelcmblcalknaaTwC
import Derived.Test.YtnelcmblcalknaaK3
namespace Go.Proofs.Ytnelcmblcalknaa.TwR
open Go.RowKit Go.Proofs.YtnelcmblcalknaaW.PrintWords Go.Proofs.YtnelcmblcalknaaW.PrintLast Go.Proofs.YtnelcmblcalknaaW.PrintMore Go.Proofs.Ytnelcmblcalknaa.K Go.Proofs.Ytnelcmblcalknaa.TwP Go.Proofs.Ytnelcmblcalknaa.TwA Go.Proofs.Ytnelcmblcalknaa.TwB Go.Proofs.Ytnelcmblcalknaa.TwQ Go.Proofs.Ytnelcmblcalknaa.TwC
set_option linter.unusedVariables false
set_option linter.unusedSimpArgs false
attribute [local go_sem] max2_int min2_int max_two min_two

structure Rf where
  size : Int
  known : Bool
  high : Int
  came : List Int
def Rf.cells (r : Rf) (v : Value) : List Value := [.int .i64 r.size, .bool r.known, .int .u32 r.high, v]
structure IsR (B : Nat) (w : World) (gr : Nat) (v : Value) (r : Rf) : Prop where
  tab : Ob w gr 42 (r.cells v)
  row : Own (Kd.int .u32) 22 B w v r.came
def newR (size : Int) : Rf := ⟨sizeQ size, false, 0, []⟩
def clearR (r : Rf) : Rf := { r with known := false, came := [] }
def freshRB (r : Rf) (n : Int) : Bool :=
  if r.known = false then true else if sub32 n r.high = 0 then false else if sub32 n r.high < 2147483648 then true else if r.size ≤ sub32 r.high n then false else !(r.came.contains n)
def freshR (r : Rf) (n : Int) : Rf :=
  if r.known = false then ⟨r.size, true, n, [n]⟩ else if sub32 n r.high = 0 then r else if sub32 n r.high < 2147483648 then ⟨r.size, r.known, n, r.came.filter (fun x => decide (sub32 n x < r.size)) ++ [n]⟩ else if r.size ≤ sub32 r.high n then r else if r.came.contains n then r else ⟨r.size, r.known, r.high, r.came ++ [n]⟩
theorem info22 : (Try.prog.info? 22).map (fun i => (i.zero, i.size, i.bytes)) = some (some (.int .u32 0), 1, 4) := by kernel_rfl
set_option maxHeartbeats 8000000 in
set_option maxRecDepth 100000 in
theorem cut_ok (size : Int) (w : World) : Calls Try.prog 17 #[.int .i64 size, .int .i64 1, .int .i64 4096] w fun e w' => e = .returned (.int .i64 (sizeQ size)) ∧ w' = w := by
  by_cases h1 : size < 1
  · have e : ((sizeQ size : Nat) : Int) = 1 := by unfold sizeQ; rw [if_pos h1]; rfl
    rw [e]
    clear e
    go_enter Try.func17, Try.ntmps17
    go_wp2
    go_ret
    exact ⟨rfl, rfl⟩
  · by_cases h2 : size > 4096
    · have e : ((sizeQ size : Nat) : Int) = 4096 := by unfold sizeQ; rw [if_neg h1, if_pos h2]; rfl
      rw [e]
      clear e
      go_enter Try.func17, Try.ntmps17
      go_wp2
      go_ret
      exact ⟨rfl, rfl⟩
    · have e : ((sizeQ size : Nat) : Int) = size := by unfold sizeQ; rw [if_neg h1, if_neg h2]; omega
      rw [e]
      clear e
      go_enter Try.func17, Try.ntmps17
      go_wp2
      go_ret
      exact ⟨rfl, rfl⟩
set_option maxHeartbeats 8000000 in
set_option maxRecDepth 100000 in
theorem newr_ok (size : Int) (B : Nat) (w : World) : Calls Try.prog 11 #[.int .i64 size] w fun e w' => ∃ gr, e = .returned (.pointer (some ⟨gr, 0, none⟩)) ∧ w.heap.size ≤ gr ∧ IsR B w' gr (.slice none 0 0) (newR size) ∧ Below w.heap.size w w' := by
  go_enter Try.func11, Try.ntmps11
  go_wp2_with (first | (go_at_call 17; (with_reducible refine (cut_ok _ _).mono ?_); rintro e w' ⟨rfl, rfl⟩))
  go_ret
  exact ⟨_, rfl, Nat.le_refl _, ⟨Ob.new _ 42 _, Own.nil _ _ _ _⟩, below_alloc (Below.refl _ _) _⟩
theorem fr_r {w w' : World} {gr i : Nat} {v : Value} (h : Fr (fun k => k = gr ∨ some k = v.ownBlock) w w') (u : Value) : Fr (fun k => k = gr ∨ some k = v.ownBlock) w (w'.setCell ⟨gr, i, none⟩ u) := h.set (p := ⟨gr, i, none⟩) (Or.inl rfl) u
theorem not_mem_of_rd (l : List Int) (n : Int) (h : ∀ i : Nat, i < l.length → rd l i ≠ n) : n ∉ l := by
  intro hm
  obtain ⟨i, hi, he⟩ := List.getElem_of_mem hm
  apply h i hi
  unfold rd
  simp [hi, he]
theorem row_far {w : World} {B gr : Nat} {v : Value} {r : Rf} (h : IsR B w gr v r) (i : Nat) (u : Value) : Own (Kd.int .u32) 22 B (w.setCell ⟨gr, i, none⟩ u) v r.came :=
  Own.fr h.row (Fr.put (Fr.refl (fun x => x = gr) w) i u) (h.row.ne h.tab (by decide))
set_option maxHeartbeats 8000000 in
set_option maxRecDepth 100000 in
theorem clearr_ok (B gr : Nat) (v : Value) (r : Rf) (w : World) (h : IsR B w gr v r) : Calls Try.prog 13 #[.pointer (some ⟨gr, 0, none⟩)] w fun e w' => e = .returned (.tuple #[]) ∧ IsR B w' gr (.slice none 0 0) (clearR r) ∧ Fr (fun k => k = gr ∨ some k = v.ownBlock) w w' := by
  have c1 := h.tab.at_ 1 (v := .bool r.known) rfl
  have f1 := h.tab.frozen 1
  have c3 := h.tab.at_ 3 (v := v) rfl
  have f3 := h.tab.frozen 3
  have I := Aside0.mk h
  clear h
  go_enter Try.func13, Try.ntmps13
  go_wp2
  first | go_ret | go_ret2 | go_end0
  exact ⟨rfl, ⟨(I.out.tab.set 1 (.bool false)).set 3 (.slice none 0 0), Own.nil _ _ _ _⟩, ((Fr.refl (fun k => k = gr ∨ some k = v.ownBlock) w).set (p := ⟨gr, 1, none⟩) (Or.inl rfl) _).set (p := ⟨gr, 3, none⟩) (Or.inl rfl) _⟩
set_option maxHeartbeats 8000000 in
set_option maxRecDepth 100000 in
theorem freshr_ok (w0 : World) (gr : Nat) (v : Value) (r : Rf) (n : Int) (hs0 : 1 ≤ r.size) (hs1 : r.size ≤ 4096) (hh0 : 0 ≤ r.high) (hh1 : r.high < 4294967296) (hc : ∀ x ∈ r.came, 0 ≤ x ∧ x < 4294967296) (hl : r.came.length ≤ 1000) (hn0 : 0 ≤ n) (hn1 : n < 4294967296)
    (w : World) (hB0 : Below w0.heap.size w0 w) (hg : w0.heap.size ≤ gr) (h : IsR w0.heap.size w gr v r) :
    Calls Try.prog 14 #[.pointer (some ⟨gr, 0, none⟩), .int .u32 n] w fun e w' => e = .returned (.bool (freshRB r n)) ∧ (∃ v', IsR w0.heap.size w' gr v' (freshR r n)) ∧ Fr (fun k => k = gr ∨ some k = v.ownBlock) w w' := by
  have c0 := h.tab.at_ 0 (v := .int .i64 r.size) rfl
  have c1 := h.tab.at_ 1 (v := .bool r.known) rfl
  have f1 := h.tab.frozen 1
  have c2 := h.tab.at_ 2 (v := .int .u32 r.high) rfl
  have f2 := h.tab.frozen 2
  have c3 := h.tab.at_ 3 (v := v) rfl
  have f3 := h.tab.frozen 3
  have I := Aside0.mk h
  have HB := Aside0.mk hB0
  have HG := Aside0.mk hg
  have HC := Aside0.mk hc
  have HLN := Aside0.mk hl
  have es : IntKind.u32.wrap r.size = r.size := by rw [u32_w]; omega
  clear hc hl
  by_cases hk : r.known = false
  · rw [show freshRB r n = true by unfold freshRB; rw [if_pos hk], show freshR r n = ⟨r.size, true, n, [n]⟩ by unfold freshR; rw [if_pos hk]]
    rw [hk] at c1
    have OB := ((h.tab.set 1 (.bool true)).set 2 (.int .u32 n)).alloc (.cells #[.int .u32 n] 22)
    have k3 := OB.at_ 3 (v := v) rfl
    have kf := OB.frozen 3
    have FR := ((((Fr.refl (fun k => k = gr ∨ some k = v.ownBlock) w).set (p := ⟨gr, 1, none⟩) (Or.inl rfl) (.bool true)).set (p := ⟨gr, 2, none⟩) (Or.inl rfl) (.int .u32 n)).alloc (.cells #[.int .u32 n] 22)).set (p := ⟨gr, 3, none⟩) (Or.inl rfl) (.slice (some ⟨w.heap.size, 0, none⟩) 1 1)
    have OW : Own (Kd.int .u32) 22 w0.heap.size (((w.setCell ⟨gr, 1, none⟩ (.bool true)).setCell ⟨gr, 2, none⟩ (.int .u32 n)).alloc (.cells #[.int .u32 n] 22)) (.slice (some ⟨w.heap.size, 0, none⟩) 1 1) [n] := by
      have hsz : ((w.setCell ⟨gr, 1, none⟩ (.bool true)).setCell ⟨gr, 2, none⟩ (.int .u32 n)).heap.size = w.heap.size := by simp [World.setCell]
      have := lit_own (enc := Value.int .u32) (h1 := fun _ => rfl) 22 w0.heap.size ((w.setCell ⟨gr, 1, none⟩ (.bool true)).setCell ⟨gr, 2, none⟩ (.int .u32 n)) [n] (by rw [hsz]; exact HB.out.size) (by simp)
      rw [hsz] at this
      exact this
    have IR := Aside0.mk (show IsR w0.heap.size ((((w.setCell ⟨gr, 1, none⟩ (.bool true)).setCell ⟨gr, 2, none⟩ (.int .u32 n)).alloc (.cells #[.int .u32 n] 22)).setCell ⟨gr, 3, none⟩ (.slice (some ⟨w.heap.size, 0, none⟩) 1 1)) gr (.slice (some ⟨w.heap.size, 0, none⟩) 1 1) ⟨r.size, true, n, [n]⟩ from
      ⟨OB.set 3 _, Own.fr OW (Fr.put (Fr.refl (fun x => x = gr) _) 3 _) (OW.ne OB (by decide))⟩)
    have FR := Aside0.mk FR
    clear h hk OB OW
    go_enter Try.func14, Try.ntmps14
    go_wp2
    first | go_ret | go_ret2 | go_end0
    exact ⟨rfl, ⟨_, IR.out⟩, FR.out⟩
  · have hk2 : r.known = true := by simpa using hk
    rw [hk2] at c1
    obtain ⟨d, hd⟩ : ∃ x, x = sub32 n r.high := ⟨_, rfl⟩
    obtain ⟨be, hbe⟩ : ∃ x, x = sub32 r.high n := ⟨_, rfl⟩
    have hd0 := sub32_b n r.high
    have hbe0 := sub32_b r.high n
    have e1 : IntKind.u32.wrap (n - r.high) = d := by rw [u32_w, hd]; rfl
    have e2 : IntKind.u32.wrap (r.high - n) = be := by rw [u32_w, hbe]; rfl
    have eB : freshRB r n = if d = 0 then false else if d < 2147483648 then true else if r.size ≤ be then false else !(r.came.contains n) := by unfold freshRB; rw [if_neg hk, hd, hbe]
    have eR : freshR r n = if d = 0 then r else if d < 2147483648 then ⟨r.size, r.known, n, r.came.filter (fun x => decide (sub32 n x < r.size)) ++ [n]⟩ else if r.size ≤ be then r else if r.came.contains n then r else ⟨r.size, r.known, r.high, r.came ++ [n]⟩ := by unfold freshR; rw [if_neg hk, hd, hbe]
    rw [eB, eR]
    rw [← hd] at hd0
    rw [← hbe] at hbe0
    clear eB eR hd hbe hk
    by_cases hz : d = 0
    · rw [if_pos hz, if_pos hz]
      subst hz
      clear h
      go_enter Try.func14, Try.ntmps14
      go_wp2
      first | go_ret | go_ret2 | go_end0
      exact ⟨rfl, ⟨_, I.out⟩, Fr.refl _ _⟩
    · have bz : (d == 0) = false := beq_eq_false_iff_ne.mpr hz
      rw [if_neg hz, if_neg hz]
      by_cases hu : d < 2147483648
      · rw [if_pos hu, if_pos hu]
        obtain ⟨A, cp, hv, hcp⟩ := h.row.slice
        subst hv
        obtain ⟨q, hq⟩ : ∃ q, q = r.came.length := ⟨_, rfl⟩
        have HQ := Aside0.mk hq
        have hq1 : q ≤ 1000 := by have := HLN.out; omega
        have OBA := h.tab.set 2 (.int .u32 n)
        have OWA := row_far h 2 (.int .u32 n)
        have FRA := fr_r (i := 2) (Fr.refl (fun k => k = gr ∨ some k = (Value.slice A r.came.length cp).ownBlock) w) (.int .u32 n)
        have hsz : (w.setCell ⟨gr, 2, none⟩ (.int .u32 n)).heap.size = w.heap.size := by simp [World.setCell]
        have hBA : w0.heap.size ≤ (w.setCell ⟨gr, 2, none⟩ (.int .u32 n)).heap.size := by rw [hsz]; exact HB.out.size
        rw [← hq] at hcp c3 FRA OBA OWA ⊢
        clear h hq hsz
        go_enter Try.func14, Try.ntmps14
        go_wp2
        generalize w.setCell ⟨gr, 2, none⟩ (.int .u32 n) = wA at OBA OWA FRA hBA ⊢
        have OBA := Aside0.mk OBA
        have OWA := Aside0.mk OWA
        have FRA := Aside0.mk FRA
        clear c0 c1 f1 c2 f2 c3 f3
        go_loopg [7, 8] (q + 1) (fun kq v7 v8 w' => ∃ (j : Nat) (acc : List Int), v8 = .int .i64 j ∧ j ≤ q ∧ kq = q + 1 - j ∧ Aside0 (acc = (r.came.take j).filter (fun x => decide (sub32 n x < r.size))) ∧ Own (Kd.int .u32) 22 wA.heap.size w' v7 acc ∧ Below wA.heap.size wA w')
        case atStart => exact ⟨0, [], by simp, by omega, by omega, ⟨by simp⟩, Own.nil _ _ _ _, Below.refl _ _⟩
        case round =>
          obtain ⟨j, acc, rfl, hj, hmj, HA, HO, HBw⟩ := hrel
          have hacc : acc.length ≤ 1000 := by
            rw [HA.out]
            refine Nat.le_trans (List.length_filter_le _ _) ?_
            rw [List.length_take]
            omega
          have OBw := Aside0.mk (OBA.out.below HBw)
          have c3 := OBw.out.at_ 3 (v := .slice A q cp) rfl
          have f3 := OBw.out.frozen 3
          by_cases hjl : j < q
          · obtain ⟨ad, hA, hx⟩ := (OWA.out.rds.below HBw).int (j : Int) (by omega) (by omega)
            subst hA
            simp only [Int.toNat_natCast] at hx
            have htk : r.came.take (j + 1) = r.came.take j ++ [rd r.came j] := by
              have hjl' : j < r.came.length := by rw [← HQ.out]; exact hjl
              rw [List.take_succ_eq_append_getElem hjl']
              unfold rd
              simp [hjl']
            have HTK := Aside0.mk htk
            have hxb := HC.out _ (rd_mem r.came j (by rw [← HQ.out]; exact hjl))
            clear htk
            generalize rd r.came j = x at hx HTK hxb
            have e3 : IntKind.u32.wrap (n - x) = sub32 n x := by rw [u32_w]; rfl
            have hsb := sub32_b n x
            by_cases hlt : sub32 n x < r.size
            · have HF : Aside0 (acc ++ [x] = (r.came.take (j + 1)).filter (fun x => decide (sub32 n x < r.size))) := ⟨by rw [HTK.out, List.filter_append, HA.out]; simp [hlt]⟩
              generalize sub32 n x = y at e3 hsb hlt
              clear hxb
              go_wp2_with (first | (at_builtin; refine app_int Try.underlying29 info22 rfl (by decide) (.tmp 68) (.tmp 76) rfl rfl rfl rfl HO HBw HBw.size (by omega) ?_; intro v6 w6 HO6 hb6 hB6))
              go_roundg (q - j)
              case measure => omega
              case rel => exact ⟨j + 1, acc ++ [x], by go_num, by omega, by omega, HF, HO6, hb6⟩
            · have HF : Aside0 (acc = (r.came.take (j + 1)).filter (fun x => decide (sub32 n x < r.size))) := ⟨by rw [HTK.out, List.filter_append, HA.out]; simp [hlt]⟩
              generalize sub32 n x = y at e3 hsb hlt
              clear hxb
              go_wp2_with fail
              go_roundg (q - j)
              case measure => omega
              case rel => exact ⟨j + 1, acc, by go_num, by omega, by omega, HF, HO, HBw⟩
          · have HF : Aside0 (acc = r.came.filter (fun x => decide (sub32 n x < r.size))) := ⟨by rw [HA.out, show r.came.take j = r.came from List.take_of_length_le (by rw [← HQ.out]; omega)]⟩
            obtain ⟨m, hm⟩ : ∃ m, m = acc.length := ⟨_, rfl⟩
            have HM := Aside0.mk hm
            clear hm
            go_wp2_with (first | (at_builtin; refine app_int Try.underlying29 info22 rfl (by decide) (.tmp 79) (.tmp 81) rfl rfl rfl rfl HO HBw HBw.size (by omega) ?_; intro v6 w6 HO6 hb6 hB6; obtain ⟨A6, c6, hv6, hc6⟩ := HO6.sliceN (n := m + 1) (by simp [HM.out]); subst hv6; clear hc6; have OB6 := Aside0.mk (OBA.out.below hb6); have k3 := OB6.out.at_ 3 (v := .slice A q cp) rfl; have kf := OB6.out.frozen 3; have HO6 := Aside0.mk HO6; have BL6 := Aside0.mk hb6; clear hb6))
            first | go_ret | go_ret2 | go_end0
            exact ⟨rfl, ⟨_, ⟨OB6.out.set 3 _, by rw [← HF.out]; exact Own.fr (HO6.out.lower hBA) (Fr.put (Fr.refl (fun x => x = gr) _) 3 _) (HO6.out.ne OB6.out (by decide))⟩⟩, fr_r (FRA.out.then BL6.out) _⟩
      · rw [if_neg hu, if_neg hu]
        by_cases hs : r.size ≤ be
        · rw [if_pos hs, if_pos hs]
          clear h
          go_enter Try.func14, Try.ntmps14
          go_wp2
          first | go_ret | go_ret2 | go_end0
          exact ⟨rfl, ⟨_, I.out⟩, Fr.refl _ _⟩
        · rw [if_neg hs, if_neg hs]
          obtain ⟨A, cp, hv, hcp⟩ := h.row.slice
          subst hv
          obtain ⟨q, hq⟩ : ∃ q, q = r.came.length := ⟨_, rfl⟩
          have HQ := Aside0.mk hq
          have hq1 : q ≤ 1000 := by have := HLN.out; omega
          rw [← hq] at hcp c3 ⊢
          have OW := Aside0.mk h.row
          clear h hq
          have key : Aside0 (∀ j, j < q → ∃ ad, A = some ad ∧ w.cell? (ad.add j) = some (.int .u32 (rd r.came j))) := ⟨fun j hj => by
            obtain ⟨ad, h1, h2⟩ := OW.out.rds.int (j : Int) (by omega) (by have := HQ.out; omega)
            exact ⟨ad, h1, by simpa using h2⟩⟩
          by_cases hmm : n ∈ r.came
          · have hct : r.came.contains n = true := by simpa using hmm
            rw [hct, Bool.not_true, if_pos rfl]
            have HM := Aside0.mk hmm
            clear hmm hct
            go_enter Try.func14, Try.ntmps14
            go_wp2
            go_loopg [4, 9] (q + 1) (fun kq v4 v9 w' => w' = w ∧ ∃ j : Nat, v9 = .int .i64 j ∧ j ≤ q ∧ kq = q + 1 - j ∧ Aside0 (∀ i, i < j → rd r.came i ≠ n))
            case atStart => exact ⟨rfl, 0, by simp, by omega, by omega, ⟨fun i hi => absurd hi (by omega)⟩⟩
            case round =>
              obtain ⟨rfl, j, rfl, hj, hmj, HN⟩ := hrel
              by_cases hjl : j < q
              · obtain ⟨ad, hA, hx⟩ := key.out j hjl
                subst hA
                have hmem := rd_mem r.came j (by have := HQ.out; omega)
                obtain ⟨x, hxx⟩ : ∃ x, x = rd r.came j := ⟨_, rfl⟩
                rw [← hxx] at hx hmem
                by_cases hxn : x = n
                · subst hxn
                  clear hmem hxx
                  go_wp2_with fail
                  first | go_ret | go_ret2 | go_end0
                  exact ⟨rfl, ⟨_, I.out⟩, Fr.refl _ _⟩
                · have bx : (x == n) = false := beq_eq_false_iff_ne.mpr hxn
                  have HN2 : Aside0 (∀ i, i < j + 1 → rd r.came i ≠ n) := ⟨fun i hi => by
                    by_cases hij : i = j
                    · subst hij; rw [← hxx]; exact hxn
                    · exact HN.out i (by omega)⟩
                  clear hxx hmem hxn
                  go_wp2_with fail
                  go_roundg (q - j)
                  case measure => omega
                  case rel => exact ⟨rfl, j + 1, by go_num, by omega, by omega, HN2⟩
              · exact absurd HM.out (not_mem_of_rd r.came n (fun i hi => HN.out i (by have := HQ.out; omega)))
          · have hct : r.came.contains n = false := by simpa using hmm
            rw [hct, Bool.not_false, if_neg (by simp)]
            have HM := Aside0.mk hmm
            clear hmm hct
            go_enter Try.func14, Try.ntmps14
            go_wp2
            go_loopg [4, 9] (q + 1) (fun kq v4 v9 w' => w' = w ∧ ∃ j : Nat, v9 = .int .i64 j ∧ j ≤ q ∧ kq = q + 1 - j ∧ Aside0 (∀ i, i < j → rd r.came i ≠ n))
            case atStart => exact ⟨rfl, 0, by simp, by omega, by omega, ⟨fun i hi => absurd hi (by omega)⟩⟩
            case round =>
              obtain ⟨rfl, j, rfl, hj, hmj, HN⟩ := hrel
              by_cases hjl : j < q
              · obtain ⟨ad, hA, hx⟩ := key.out j hjl
                subst hA
                have hmem := rd_mem r.came j (by have := HQ.out; omega)
                obtain ⟨x, hxx⟩ : ∃ x, x = rd r.came j := ⟨_, rfl⟩
                rw [← hxx] at hx hmem
                by_cases hxn : x = n
                · exact absurd (hxn ▸ hmem) HM.out
                · have bx : (x == n) = false := beq_eq_false_iff_ne.mpr hxn
                  have HN2 : Aside0 (∀ i, i < j + 1 → rd r.came i ≠ n) := ⟨fun i hi => by
                    by_cases hij : i = j
                    · subst hij; rw [← hxx]; exact hxn
                    · exact HN.out i (by omega)⟩
                  clear hxx hmem hxn
                  go_wp2_with fail
                  go_roundg (q - j)
                  case measure => omega
                  case rel => exact ⟨rfl, j + 1, by go_num, by omega, by omega, HN2⟩
              · have HO := OW.out
                rw [← HQ.out] at HO
                go_wp2_with (first | (at_builtin; refine app_int2 Try.underlying29 info22 rfl (by decide) (.tmp 116) (.tmp 118) rfl rfl rfl rfl HO HB.out HB.out.size (by have := HQ.out; omega) ?_; intro v6 w6 HO6 hb6 hB6 f6; obtain ⟨A6, c6, hv6, hc6⟩ := HO6.sliceN (n := q + 1) (by simp [HQ.out]); subst hv6; clear hc6; have OB6 := I.out.tab.fr f6 (fun h => HO.ne I.out.tab (by decide) gr h rfl); have k3 := OB6.at_ 3 (v := .slice A r.came.length cp) rfl; have kf := OB6.frozen 3; have OB6 := Aside0.mk OB6; have HO6 := Aside0.mk HO6; have F6 := Aside0.mk f6; clear f6 hb6))
                first | go_ret | go_ret2 | go_end0
                exact ⟨rfl, ⟨_, ⟨OB6.out.set 3 _, Own.fr HO6.out (Fr.put (Fr.refl (fun x => x = gr) _) 3 _) (HO6.out.ne OB6.out (by decide))⟩⟩, fr_r (F6.out.mono (fun k hk => Or.inr hk)) _⟩

end Go.Proofs.Ytnelcmblcalknaa.TwR
