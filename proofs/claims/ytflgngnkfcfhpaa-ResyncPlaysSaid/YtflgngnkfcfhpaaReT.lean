/- Three ends that lie apart; two lists are one. -/
import Derived.Test.YtflgngnkfcfhpaaReS
import Derived.Test.YtflgngnkfcfhpaaReF
import Derived.Test.YtflgngnkfcfhpaaReO
namespace Go.Proofs.Ytflgngnkfcfhpaa.ReT
open Go.RowKit Go.Proofs.YtflgngnkfcfhpaaW.PrintWords Go.Proofs.YtflgngnkfcfhpaaW.PrintLast Go.Proofs.YtflgngnkfcfhpaaW.PrintMore Go.Proofs.Ytflgngnkfcfhpaa.K Go.Proofs.Ytflgngnkfcfhpaa.ReP Go.Proofs.Ytflgngnkfcfhpaa.ReA Go.Proofs.Ytflgngnkfcfhpaa.ReB Go.Proofs.Ytflgngnkfcfhpaa.ReC Go.Proofs.Ytflgngnkfcfhpaa.ReD Go.Proofs.Ytflgngnkfcfhpaa.RrP Go.Proofs.Ytflgngnkfcfhpaa.ReR Go.Proofs.Ytflgngnkfcfhpaa.ReS Go.Proofs.Ytflgngnkfcfhpaa.ReF Go.Proofs.Ytflgngnkfcfhpaa.ReO
set_option linter.unusedVariables false
set_option linter.unusedSimpArgs false
attribute [local go_sem] max2_int min2_int max_two min_two

attribute [local go_sem] eq39
/-- Two ends and a reference that lie apart. -/
structure Three (w0 w : World) (g go gr : Nat) (v vo vr : Value) (E Eo : En) (R : Rn) : Prop where
  e : IsO 42 w0.heap.size w g v E.cells E.out
  o : IsO 42 w0.heap.size w go vo Eo.cells Eo.out
  r : IsO 45 w0.heap.size w gr vr R.cells R.out
  eo : Apart g v go vo
  er : Apart g v gr vr
  oo : Apart go vo gr vr
  ge : w0.heap.size ≤ g
  go_ : w0.heap.size ≤ go
  gr_ : w0.heap.size ≤ gr
  below : Below w0.heap.size w0 w
section
variable {w0 w w1 : World} {g go gr : Nat} {v vo vr v1 : Value} {E Eo E1 : En} {R R1 : Rn}
theorem Three.step (T : Three w0 w g go gr v vo vr E Eo R) (hb : Below w.heap.size w w1) : Three w0 w1 g go gr v vo vr E Eo R :=
  ⟨T.e.below hb, T.o.below hb, T.r.below hb, T.eo, T.er, T.oo, T.ge, T.go_, T.gr_, below_step T.below hb⟩
theorem Three.moveE (T : Three w0 w g go gr v vo vr E Eo R) (m : Mv g v v1 w w1) (i : IsO 42 w0.heap.size w1 g v1 E1.cells E1.out) : Three w0 w1 g go gr v1 vo vr E1 Eo R :=
  ⟨i, T.o.mv m T.eo, T.r.mv m T.er, T.eo.mv m T.o, T.er.mv m T.r, T.oo, T.ge, T.go_, T.gr_, T.e.down T.ge m T.below⟩
theorem Three.moveO (T : Three w0 w g go gr v vo vr E Eo R) (m : Mv go vo v1 w w1) (i : IsO 42 w0.heap.size w1 go v1 E1.cells E1.out) : Three w0 w1 g go gr v v1 vr E E1 R :=
  ⟨T.e.mv m T.eo.symm, i, T.r.mv m T.oo, (T.eo.symm.mv m T.e).symm, T.er, T.oo.mv m T.r, T.ge, T.go_, T.gr_, T.o.down T.go_ m T.below⟩
theorem Three.moveR (T : Three w0 w g go gr v vo vr E Eo R) (m : Mv gr vr v1 w w1) (i : IsO 45 w0.heap.size w1 gr v1 R1.cells R1.out) : Three w0 w1 g go gr v vo v1 E Eo R1 :=
  ⟨T.e.mv m T.er.symm, T.o.mv m T.oo.symm, i, T.eo, (T.er.symm.mv m T.e).symm, (T.oo.symm.mv m T.o).symm, T.ge, T.go_, T.gr_, T.r.down T.gr_ m T.below⟩
theorem apart_new {t g' B : Nat} {l : List Value} {out : List (Int × Int)} (h : IsO t B w g v l out) (hg : w.heap.size ≤ g') : Apart g v g' (.slice none 0 0) := by
  intro k hk hf
  have := h.lt k hk
  rcases hf with hf | hf
  · omega
  · simp [Value.ownBlock] at hf
end
theorem ob_mvt {w w1 : World} {gA t t2 B g : Nat} {v v1 : Value} {l l' : List Value} {out : List (Int × Int)} (h : Ob w gA t l) (i : IsO t2 B w g v l' out) (m : Mv g v v1 w w1) (h1 : t ≠ t2) (h2 : 39 ≠ t) : Ob w1 gA t l :=
  h.fr m.fr (fun hf => hf.elim (blk_ne h i.tab h1) (fun e => own_ne i.row h h2 gA e rfl))
/-- A play, behind k calls. -/
structure Pl (E Eo : En) (R : Rn) (k : Nat) : Prop where
  sim : Sim E R (1048576 * k)
  len : E.out.length ≤ 5002 * k
  ok : Ok Eo
  olen : Eo.out.length ≤ k
theorem note_len (E : En) (b : Bool) : (noteE E b).out.length ≤ E.out.length + 1 := by
  unfold noteE
  split
  · omega
  · split <;> simp [asksE, leftE]
theorem input_len (E : En) (b : Bool) (x : Int) : (inputE E b x).out.length ≤ E.out.length + 1 := by
  unfold inputE
  split
  · simp [outE]
  · split <;> simp [stateE]
theorem Pl.start (f a : Int) : Pl (newE f a) (newE 1 1) (newR f a) 0 := ⟨by simpa using Sim.new f a, by simp [newE], Ok.new 1 1, by simp [newE]⟩
theorem Pl.other {E Eo : En} {R : Rn} {k : Nat} (h : Pl E Eo R k) (b : Bool) : Ok (noteE (failE Eo) b) ∧ (noteE (failE Eo) b).out.length ≤ k + 1 := by
  refine ⟨h.ok.fail.note b, ?_⟩
  have := note_len (failE Eo) b
  have := h.olen
  have e9 : (failE Eo).out.length = Eo.out.length := rfl
  omega
theorem Pl.next {E E1 Eo : En} {R R1 : Rn} {k : Nat} (h : Pl E Eo R k) (s : Sim E1 R1 (1048576 * (k + 1 : Nat))) (hl : E1.out.length ≤ E.out.length + 5002) : Pl E1 (noteE (failE Eo) true) R1 (k + 1) :=
  ⟨s, by have := h.len; omega, (h.other true).1, (h.other true).2⟩
theorem Pl.wide {E Eo : En} {R : Rn} {k : Nat} (h : Pl E Eo R k) {E1 : En} {R1 : Rn} (s : Sim E1 R1 (1048576 * k)) : Sim E1 R1 (1048576 * (k + 1 : Nat)) := s.wider (by omega)
set_option maxHeartbeats 8000000 in
set_option maxRecDepth 100000 in
theorem same_ok (A1 A2 : Option Addr) (n c1 c2 : Nat) (xs : List (Int × Int)) (w : World) (h1 : Rds PK w A1 n c1 xs) (h2 : Rds PK w A2 n c2 xs) (hn : n ≤ 9223372036854775807) :
    Calls Try.prog 19 #[.slice A1 n c1, .slice A2 n c2] w fun e w' => e = .returned (.bool true) ∧ Below w.heap.size w w' := by
  have R1 := Aside0.mk h1
  have R2 := Aside0.mk h2
  clear h1 h2
  go_enter Try.func19, Try.ntmps19
  go_wp2
  go_loopg [5] (n + 1) (fun kq v5 w' => ∃ j : Nat, v5 = .int .i64 j ∧ j ≤ n ∧ kq = n + 1 - j ∧ Aside0 (Below w.heap.size w w'))
  case atStart => exact ⟨0, by simp, by omega, by omega, ⟨Below.refl _ _⟩⟩
  case round =>
    obtain ⟨j, rfl, hj, hkq, HB⟩ := hrel
    by_cases hjl : j < n
    · obtain ⟨a1, hA1, p0, p1⟩ := pair_at (R1.out.below HB.out) j hjl
      obtain ⟨a2, hA2, q0, q1⟩ := pair_at (R2.out.below HB.out) j hjl
      subst hA1 hA2
      generalize xs.getD j (0, 0) = x at p0 p1 q0 q1
      obtain ⟨x0, x1⟩ := x
      simp only at p0 p1 q0 q1
      rw [add_field a1 _ 1 (by decide)] at p1
      rw [add_field a2 _ 1 (by decide)] at q1
      go_wp2
      refine region_still (by kernel_rfl) (by kernel_rfl) ?_
      intro w3 hb3 hc3 hf3 hh3
      replace p0 := (hc3 _).trans p0
      replace p1 := (hc3 _).trans p1
      replace q0 := (hc3 _).trans q0
      replace q1 := (hc3 _).trans q1
      have HB3 := Aside0.mk (below_step HB.out hb3)
      clear hb3 hc3 hf3 hh3
      repeat still_step
      refine wpStill_nil ?_
      go_wp2_with fail
      go_roundg (n - j)
      case measure => omega
      case rel => exact ⟨j + 1, by go_num, by omega, by omega, HB3⟩
    · go_wp2_with fail
      go_ret
      exact ⟨rfl, HB.out⟩

end Go.Proofs.Ytflgngnkfcfhpaa.ReT
