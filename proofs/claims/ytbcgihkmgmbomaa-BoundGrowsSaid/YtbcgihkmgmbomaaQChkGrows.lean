/- Both looks at a link come to the same. -/
import Derived.Test.YtbcgihkmgmbomaaQBoundGrowsx3
namespace Go.Proofs.Ytbcgihkmgmbomaa.QChkGrows
open Go.RowKit Go.Proofs.YtbcgihkmgmbomaaW.PrintWords Go.Proofs.YtbcgihkmgmbomaaW.PrintLast Go.Proofs.YtbcgihkmgmbomaaW.PrintMore 
set_option linter.unusedVariables false
set_option linter.unusedSimpArgs false
open Go.Proofs.Ytbcgihkmgmbomaa.PBoundGrows

def wi (x l h : Int) : Bool := decide (l ≤ x ∧ x ≤ h)
theorem within_eq (x l h : Int) : shape_within.f x l h = some (wi x l h) := by
  unfold shape_within.f wi
  split
  · rename_i h1
    congr 1
    simp
    omega
  · rename_i h1
    congr 1
    simp
    omega
def most (s : Int) : Int := 2 * ((if s < 1 then 1 else if s > 1000 then 1000 else s) + 16) + 2
theorem most_eq (a0 a1 a2 a3 a4 a5 a6 a7 a8 a9 a10 a11 a12 a13 : Int) (a14 a15 : Bool) : shape_Most.f a0 a1 a2 a3 a4 a5 a6 a7 a8 a9 a10 a11 a12 a13 a14 a15 = some (most a9) := by
  simp only [shape_Most.f, most, mx, mn]
  congr 1
  repeat' split
  all_goals omega
def p1 (a3 a4 a5 a6 a7 : Int) : Bool := wi a3 1 1048576 && wi a4 1 100 && wi a5 0 1048576 && wi a6 1 1048576 && wi a7 1 65536
def p2 (a1 a2 a8 a9 a10 a11 : Int) : Bool := wi a2 1 (wrap64 (Int.tdiv a1 8)) && wi a8 0 1000 && wi a9 1 1000 && wi a11 1 4096 && wi a10 (most a9) 1048576
def p3 (a12 a13 : Int) : Bool := wi a12 1 16 && wi a13 1 16
def pk (a7 a11 : Int) : Bool := decide (wrap64 (a7 * a11) ≥ 32)
def pm (a0 a1 : Int) : Bool := (a0 == 0 || a0 == 1) && (a1 == 128 || a1 == 32768)
def ok (a0 a1 a2 a3 a4 a5 a6 a7 a8 a9 a10 a11 a12 a13 : Int) (a14 a15 : Bool) : Bool := pm a0 a1 && p1 a3 a4 a5 a6 a7 && p2 a1 a2 a8 a9 a10 a11 && p3 a12 a13 && pk a7 a11
theorem j2_eq (k : Nat) (x y z : Bool) (a0 a1 a2 a3 a4 a5 a6 a7 a8 a9 a10 a11 a12 a13 : Int) (a14 a15 : Bool) : shape_Check.j2 (k + 1) x y z a0 a1 a2 a3 a4 a5 a6 a7 a8 a9 a10 a11 a12 a13 a14 a15 = some (bif (x && y && z && p3 a12 a13 && pk a7 a11) then 0 else 1) := by
  simp only [shape_Check.j2, within_eq, Option.bind_some, p3, pk, ← Bool.cond_eq_ite]
  generalize wi a12 1 16 = u
  generalize wi a13 1 16 = v
  by_cases h : wrap64 (a7 * a11) ≥ 32
  · simp only [if_pos h, decide_eq_true h]
    cases x <;> cases y <;> cases z <;> cases u <;> cases v <;> rfl
  · simp only [if_neg h, decide_eq_false h]
    cases x <;> cases y <;> cases z <;> cases u <;> cases v <;> rfl
theorem j1_eq (k : Nat) (x y : Bool) (a0 a1 a2 a3 a4 a5 a6 a7 a8 a9 a10 a11 a12 a13 : Int) (a14 a15 : Bool) : shape_Check.j1 (k + 2) x y a0 a1 a2 a3 a4 a5 a6 a7 a8 a9 a10 a11 a12 a13 a14 a15 = some (bif (x && y && p2 a1 a2 a8 a9 a10 a11 && p3 a12 a13 && pk a7 a11) then 0 else 1) := by
  simp only [shape_Check.j1, within_eq, most_eq, j2_eq, Option.bind_some, p2, ← Bool.cond_eq_ite]
  generalize wi a2 1 (wrap64 (Int.tdiv a1 8)) = b1
  generalize wi a8 0 1000 = b2
  generalize wi a9 1 1000 = b3
  generalize wi a11 1 4096 = b4
  generalize wi a10 (most a9) 1048576 = b5
  cases b1 <;> cases b2 <;> cases b3 <;> cases b4 <;> cases b5 <;> rfl
theorem j0_eq (k : Nat) (x : Bool) (a0 a1 a2 a3 a4 a5 a6 a7 a8 a9 a10 a11 a12 a13 : Int) (a14 a15 : Bool) : shape_Check.j0 (k + 3) x a0 a1 a2 a3 a4 a5 a6 a7 a8 a9 a10 a11 a12 a13 a14 a15 = some (bif (x && p1 a3 a4 a5 a6 a7 && p2 a1 a2 a8 a9 a10 a11 && p3 a12 a13 && pk a7 a11) then 0 else 1) := by
  simp only [shape_Check.j0, within_eq, j1_eq, Option.bind_some, p1, ← Bool.cond_eq_ite]
  generalize wi a3 1 1048576 = b1
  generalize wi a4 1 100 = b2
  generalize wi a5 0 1048576 = b3
  generalize wi a6 1 1048576 = b4
  generalize wi a7 1 65536 = b5
  cases b1 <;> cases b2 <;> cases b3 <;> cases b4 <;> cases b5 <;> rfl
theorem check_eq (k : Nat) (a0 a1 a2 a3 a4 a5 a6 a7 a8 a9 a10 a11 a12 a13 : Int) (a14 a15 : Bool) : shape_Check.f (k + 3) a0 a1 a2 a3 a4 a5 a6 a7 a8 a9 a10 a11 a12 a13 a14 a15 = some (bif ok a0 a1 a2 a3 a4 a5 a6 a7 a8 a9 a10 a11 a12 a13 a14 a15 then 0 else 1) := by
  simp only [shape_Check.f, j0_eq, ok, pm]
  have e0 : ¬ a0 = 0 → (a0 == 0) = false := fun h => beq_eq_false_iff_ne.mpr h
  have e1 : ¬ a0 = 1 → (a0 == 1) = false := fun h => beq_eq_false_iff_ne.mpr h
  have e2 : ¬ a1 = 128 → (a1 == 128) = false := fun h => beq_eq_false_iff_ne.mpr h
  by_cases h0 : a0 = 0 <;> by_cases h1 : a0 = 1 <;> by_cases h2 : a1 = 128 <;> (try have e0 := e0 h0) <;> (try have e1 := e1 h1) <;> (try have e2 := e2 h2) <;> simp [h0, h1, h2, *]
end Go.Proofs.Ytbcgihkmgmbomaa.QChkGrows
