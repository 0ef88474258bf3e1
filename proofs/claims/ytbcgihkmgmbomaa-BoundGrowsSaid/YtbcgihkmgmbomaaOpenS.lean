/- A link that comes in by value: what it holds. -/
import Derived.Test.YtbcgihkmgmbomaaRows
import Derived.ChangeSame
import Derived.OpenShut
import Derived.KernelRfl
namespace Go.Proofs.Ytbcgihkmgmbomaa.OpenS
open Go.ChangeShapes Go.WideShapes
set_option linter.unusedVariables false
theorem take_one {l : List Value} {i : Nat} {v : Value} (h : (l.drop i).take 1 = [v]) : l[i]? = some v := by
  have := congrArg (·[0]?) h
  simpa [List.getElem?_take, List.getElem?_drop] using this
set_option maxHeartbeats 4000000 in
set_option maxRecDepth 100000 in
theorem open_config {H : Type} {enc : TypeId × Value → H} {w : World} {base b0 : Nat} {spare : Nat → Bool} {held : Bool} {r : Reach} {v : Value} {d : DataW H} {ps : List MemPlace}
    (hval : Value.okWide Try.prog w r b0 23 v) (h : DataW.Trod enc Try.prog w base spare held 23 v d ps) :
    ∃ (a0 a1 a2 a3 a4 a5 a6 a7 a8 a9 a10 a11 a12 a13 : Int) (a14 a15 : Bool), v = .agg #[.int .i64 a0, .int .i64 a1, .int .i64 a2, .int .i64 a3, .int .i64 a4, .int .i64 a5, .int .i64 a6, .int .i64 a7, .int .i64 a8, .int .i64 a9, .int .i64 a10, .int .i64 a11, .int .i64 a12, .int .i64 a13, .bool a14, .bool a15] := by
  obtain ⟨cs0, rfl, hsz⟩ := okWide_struct Try.underlying23 hval
  rw [show Try.prog.cellsOf 23 = 16 by kernel_rfl] at hsz
  obtain ⟨fuel, hf⟩ := h
  obtain ⟨xs, n, _, _, hl, hlen, hfd⟩ := DataW.trod_struct Try.underlying23 hf
  rw [show (Value.agg cs0).cells = cs0 from rfl] at hfd
  have c3 : Try.prog.cellsOf 3 = 1 := by kernel_rfl
  have c4 : Try.prog.cellsOf 4 = 1 := by kernel_rfl
  have e0 : DataW.trod enc Try.prog w base spare held n 3 ((cs0.toList.drop 0).take (Try.prog.cellsOf 3)) = xs[0]? := hfd 0 _ rfl
  rw [c3, List.getElem?_eq_getElem (by rw [hlen]; decide)] at e0
  obtain ⟨a0, f0, _, _⟩ := DataW.trod_int Try.underlying3 e0
  have g0 := take_one f0
  have e1 : DataW.trod enc Try.prog w base spare held n 3 ((cs0.toList.drop 1).take (Try.prog.cellsOf 3)) = xs[1]? := hfd 1 _ rfl
  rw [c3, List.getElem?_eq_getElem (by rw [hlen]; decide)] at e1
  obtain ⟨a1, f1, _, _⟩ := DataW.trod_int Try.underlying3 e1
  have g1 := take_one f1
  have e2 : DataW.trod enc Try.prog w base spare held n 3 ((cs0.toList.drop 2).take (Try.prog.cellsOf 3)) = xs[2]? := hfd 2 _ rfl
  rw [c3, List.getElem?_eq_getElem (by rw [hlen]; decide)] at e2
  obtain ⟨a2, f2, _, _⟩ := DataW.trod_int Try.underlying3 e2
  have g2 := take_one f2
  have e3 : DataW.trod enc Try.prog w base spare held n 3 ((cs0.toList.drop 3).take (Try.prog.cellsOf 3)) = xs[3]? := hfd 3 _ rfl
  rw [c3, List.getElem?_eq_getElem (by rw [hlen]; decide)] at e3
  obtain ⟨a3, f3, _, _⟩ := DataW.trod_int Try.underlying3 e3
  have g3 := take_one f3
  have e4 : DataW.trod enc Try.prog w base spare held n 3 ((cs0.toList.drop 4).take (Try.prog.cellsOf 3)) = xs[4]? := hfd 4 _ rfl
  rw [c3, List.getElem?_eq_getElem (by rw [hlen]; decide)] at e4
  obtain ⟨a4, f4, _, _⟩ := DataW.trod_int Try.underlying3 e4
  have g4 := take_one f4
  have e5 : DataW.trod enc Try.prog w base spare held n 3 ((cs0.toList.drop 5).take (Try.prog.cellsOf 3)) = xs[5]? := hfd 5 _ rfl
  rw [c3, List.getElem?_eq_getElem (by rw [hlen]; decide)] at e5
  obtain ⟨a5, f5, _, _⟩ := DataW.trod_int Try.underlying3 e5
  have g5 := take_one f5
  have e6 : DataW.trod enc Try.prog w base spare held n 3 ((cs0.toList.drop 6).take (Try.prog.cellsOf 3)) = xs[6]? := hfd 6 _ rfl
  rw [c3, List.getElem?_eq_getElem (by rw [hlen]; decide)] at e6
  obtain ⟨a6, f6, _, _⟩ := DataW.trod_int Try.underlying3 e6
  have g6 := take_one f6
  have e7 : DataW.trod enc Try.prog w base spare held n 3 ((cs0.toList.drop 7).take (Try.prog.cellsOf 3)) = xs[7]? := hfd 7 _ rfl
  rw [c3, List.getElem?_eq_getElem (by rw [hlen]; decide)] at e7
  obtain ⟨a7, f7, _, _⟩ := DataW.trod_int Try.underlying3 e7
  have g7 := take_one f7
  have e8 : DataW.trod enc Try.prog w base spare held n 3 ((cs0.toList.drop 8).take (Try.prog.cellsOf 3)) = xs[8]? := hfd 8 _ rfl
  rw [c3, List.getElem?_eq_getElem (by rw [hlen]; decide)] at e8
  obtain ⟨a8, f8, _, _⟩ := DataW.trod_int Try.underlying3 e8
  have g8 := take_one f8
  have e9 : DataW.trod enc Try.prog w base spare held n 3 ((cs0.toList.drop 9).take (Try.prog.cellsOf 3)) = xs[9]? := hfd 9 _ rfl
  rw [c3, List.getElem?_eq_getElem (by rw [hlen]; decide)] at e9
  obtain ⟨a9, f9, _, _⟩ := DataW.trod_int Try.underlying3 e9
  have g9 := take_one f9
  have e10 : DataW.trod enc Try.prog w base spare held n 3 ((cs0.toList.drop 10).take (Try.prog.cellsOf 3)) = xs[10]? := hfd 10 _ rfl
  rw [c3, List.getElem?_eq_getElem (by rw [hlen]; decide)] at e10
  obtain ⟨a10, f10, _, _⟩ := DataW.trod_int Try.underlying3 e10
  have g10 := take_one f10
  have e11 : DataW.trod enc Try.prog w base spare held n 3 ((cs0.toList.drop 11).take (Try.prog.cellsOf 3)) = xs[11]? := hfd 11 _ rfl
  rw [c3, List.getElem?_eq_getElem (by rw [hlen]; decide)] at e11
  obtain ⟨a11, f11, _, _⟩ := DataW.trod_int Try.underlying3 e11
  have g11 := take_one f11
  have e12 : DataW.trod enc Try.prog w base spare held n 3 ((cs0.toList.drop 12).take (Try.prog.cellsOf 3)) = xs[12]? := hfd 12 _ rfl
  rw [c3, List.getElem?_eq_getElem (by rw [hlen]; decide)] at e12
  obtain ⟨a12, f12, _, _⟩ := DataW.trod_int Try.underlying3 e12
  have g12 := take_one f12
  have e13 : DataW.trod enc Try.prog w base spare held n 3 ((cs0.toList.drop 13).take (Try.prog.cellsOf 3)) = xs[13]? := hfd 13 _ rfl
  rw [c3, List.getElem?_eq_getElem (by rw [hlen]; decide)] at e13
  obtain ⟨a13, f13, _, _⟩ := DataW.trod_int Try.underlying3 e13
  have g13 := take_one f13
  have e14 : DataW.trod enc Try.prog w base spare held n 4 ((cs0.toList.drop 14).take (Try.prog.cellsOf 4)) = xs[14]? := hfd 14 _ rfl
  rw [c4, List.getElem?_eq_getElem (by rw [hlen]; decide)] at e14
  obtain ⟨a14, f14, _⟩ := DataW.trod_bool Try.underlying4 e14
  have g14 := take_one f14
  have e15 : DataW.trod enc Try.prog w base spare held n 4 ((cs0.toList.drop 15).take (Try.prog.cellsOf 4)) = xs[15]? := hfd 15 _ rfl
  rw [c4, List.getElem?_eq_getElem (by rw [hlen]; decide)] at e15
  obtain ⟨a15, f15, _⟩ := DataW.trod_bool Try.underlying4 e15
  have g15 := take_one f15
  refine ⟨a0, a1, a2, a3, a4, a5, a6, a7, a8, a9, a10, a11, a12, a13, a14, a15, ?_⟩
  congr 1
  apply Array.ext'
  apply List.ext_getElem?
  intro i
  match i with
  | 0 => rw [g0]; rfl
  | 1 => rw [g1]; rfl
  | 2 => rw [g2]; rfl
  | 3 => rw [g3]; rfl
  | 4 => rw [g4]; rfl
  | 5 => rw [g5]; rfl
  | 6 => rw [g6]; rfl
  | 7 => rw [g7]; rfl
  | 8 => rw [g8]; rfl
  | 9 => rw [g9]; rfl
  | 10 => rw [g10]; rfl
  | 11 => rw [g11]; rfl
  | 12 => rw [g12]; rfl
  | 13 => rw [g13]; rfl
  | 14 => rw [g14]; rfl
  | 15 => rw [g15]; rfl
  | j + 16 => rw [List.getElem?_eq_none (by rw [Array.length_toList, hsz]; omega), List.getElem?_eq_none (by simp)]
end Go.Proofs.Ytbcgihkmgmbomaa.OpenS
