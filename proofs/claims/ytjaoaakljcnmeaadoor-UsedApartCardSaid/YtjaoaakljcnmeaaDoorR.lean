/- A style that comes in: what a row's reading of it gives a walk. Written by mkR.py. -/
import Derived.Test.YtjaoaakljcnmeaaDoorF7
import Derived.Deep.Strs
import Derived.ChangeSlices
import Derived.ProofKit
namespace Go.Proofs.YtjaoaakljcnmeaaDoor.G
open Go.RowKit Go.ChangeShapes Go.WideShapes

set_option maxRecDepth 100000 in
theorem open_st23 {H : Type} {enc : TypeId × Value → H} {W : World} {r : Reach} {b base : Nat} {sp : Nat → Bool} {held : Bool} {v : Value} {x : DataW H × List MemPlace} (hk : Value.okWide Tryd.prog W r b 23 v) (h : ∃ fuel, DataW.trod enc Tryd.prog W base sp held fuel 23 v.cells.toList = some x) :
    ∃ (s0 : Int) (s1 : Int) (s2 : Int) (s3 : Int) (s4 : Bool) (s5 : Int) (s6 : Int) (s7 : Int) (s8 : Bool) (s9 : Int) (s10 : Int) (s11 : Bool) (s12 : Int) (s13 : Bool) (s14 : Int) (s15 : Int), v = .agg (stV s0 s1 s2 s3 s4 s5 s6 s7 s8 s9 s10 s11 s12 s13 s14 s15) := by
  obtain ⟨cs, rfl, hs⟩ := okWide_struct Tryd.underlying23 hk
  obtain ⟨fuel, h⟩ := h
  rw [cellsAt23] at hs
  obtain ⟨l⟩ := cs
  have hs' : l.length = 16 := by simpa using hs
  have h' : DataW.trod enc Tryd.prog W base sp held fuel 23 l = some x := h
  obtain ⟨xs, n, _, _, _, hx, hf⟩ := DataW.trod_struct Tryd.underlying23 h'
  have hx' : xs.length = 16 := hx
  obtain ⟨c0, c1, c2, c3, c4, c5, c6, c7, c8, c9, c10, c11, c12, c13, c14, c15, rfl⟩ : ∃ c0 c1 c2 c3 c4 c5 c6 c7 c8 c9 c10 c11 c12 c13 c14 c15 : Value, l = [c0, c1, c2, c3, c4, c5, c6, c7, c8, c9, c10, c11, c12, c13, c14, c15] := by
    match l, hs' with
    | [c0, c1, c2, c3, c4, c5, c6, c7, c8, c9, c10, c11, c12, c13, c14, c15], _ => exact ⟨c0, c1, c2, c3, c4, c5, c6, c7, c8, c9, c10, c11, c12, c13, c14, c15, rfl⟩
  clear h h' hk hs hx
  have f0 : DataW.trod enc Tryd.prog W base sp held n 3 (([c0, c1, c2, c3, c4, c5, c6, c7, c8, c9, c10, c11, c12, c13, c14, c15].drop 0).take (Tryd.prog.cellsOf 3)) = xs[0]? := hf 0 _ rfl
  rw [List.getElem?_eq_getElem (show 0 < xs.length by omega)] at f0
  rw [cellsAt3] at f0
  obtain ⟨n0, e0, _, _⟩ := DataW.trod_int Tryd.underlying3 f0
  have q0 : c0 = .int .i64 n0 := by simpa using e0
  have f1 : DataW.trod enc Tryd.prog W base sp held n 2 (([c0, c1, c2, c3, c4, c5, c6, c7, c8, c9, c10, c11, c12, c13, c14, c15].drop 1).take (Tryd.prog.cellsOf 2)) = xs[1]? := hf 1 _ rfl
  rw [List.getElem?_eq_getElem (show 1 < xs.length by omega)] at f1
  rw [cellsAt2] at f1
  obtain ⟨n1, e1, _, _⟩ := DataW.trod_int Tryd.underlying2 f1
  have q1 : c1 = .int .i64 n1 := by simpa using e1
  have f2 : DataW.trod enc Tryd.prog W base sp held n 2 (([c0, c1, c2, c3, c4, c5, c6, c7, c8, c9, c10, c11, c12, c13, c14, c15].drop 2).take (Tryd.prog.cellsOf 2)) = xs[2]? := hf 2 _ rfl
  rw [List.getElem?_eq_getElem (show 2 < xs.length by omega)] at f2
  rw [cellsAt2] at f2
  obtain ⟨n2, e2, _, _⟩ := DataW.trod_int Tryd.underlying2 f2
  have q2 : c2 = .int .i64 n2 := by simpa using e2
  have f3 : DataW.trod enc Tryd.prog W base sp held n 2 (([c0, c1, c2, c3, c4, c5, c6, c7, c8, c9, c10, c11, c12, c13, c14, c15].drop 3).take (Tryd.prog.cellsOf 2)) = xs[3]? := hf 3 _ rfl
  rw [List.getElem?_eq_getElem (show 3 < xs.length by omega)] at f3
  rw [cellsAt2] at f3
  obtain ⟨n3, e3, _, _⟩ := DataW.trod_int Tryd.underlying2 f3
  have q3 : c3 = .int .i64 n3 := by simpa using e3
  have f4 : DataW.trod enc Tryd.prog W base sp held n 4 (([c0, c1, c2, c3, c4, c5, c6, c7, c8, c9, c10, c11, c12, c13, c14, c15].drop 4).take (Tryd.prog.cellsOf 4)) = xs[4]? := hf 4 _ rfl
  rw [List.getElem?_eq_getElem (show 4 < xs.length by omega)] at f4
  rw [cellsAt4] at f4
  obtain ⟨n4, e4, _⟩ := DataW.trod_bool Tryd.underlying4 f4
  have q4 : c4 = .bool n4 := by simpa using e4
  have f5 : DataW.trod enc Tryd.prog W base sp held n 2 (([c0, c1, c2, c3, c4, c5, c6, c7, c8, c9, c10, c11, c12, c13, c14, c15].drop 5).take (Tryd.prog.cellsOf 2)) = xs[5]? := hf 5 _ rfl
  rw [List.getElem?_eq_getElem (show 5 < xs.length by omega)] at f5
  rw [cellsAt2] at f5
  obtain ⟨n5, e5, _, _⟩ := DataW.trod_int Tryd.underlying2 f5
  have q5 : c5 = .int .i64 n5 := by simpa using e5
  have f6 : DataW.trod enc Tryd.prog W base sp held n 3 (([c0, c1, c2, c3, c4, c5, c6, c7, c8, c9, c10, c11, c12, c13, c14, c15].drop 6).take (Tryd.prog.cellsOf 3)) = xs[6]? := hf 6 _ rfl
  rw [List.getElem?_eq_getElem (show 6 < xs.length by omega)] at f6
  rw [cellsAt3] at f6
  obtain ⟨n6, e6, _, _⟩ := DataW.trod_int Tryd.underlying3 f6
  have q6 : c6 = .int .i64 n6 := by simpa using e6
  have f7 : DataW.trod enc Tryd.prog W base sp held n 3 (([c0, c1, c2, c3, c4, c5, c6, c7, c8, c9, c10, c11, c12, c13, c14, c15].drop 7).take (Tryd.prog.cellsOf 3)) = xs[7]? := hf 7 _ rfl
  rw [List.getElem?_eq_getElem (show 7 < xs.length by omega)] at f7
  rw [cellsAt3] at f7
  obtain ⟨n7, e7, _, _⟩ := DataW.trod_int Tryd.underlying3 f7
  have q7 : c7 = .int .i64 n7 := by simpa using e7
  have f8 : DataW.trod enc Tryd.prog W base sp held n 4 (([c0, c1, c2, c3, c4, c5, c6, c7, c8, c9, c10, c11, c12, c13, c14, c15].drop 8).take (Tryd.prog.cellsOf 4)) = xs[8]? := hf 8 _ rfl
  rw [List.getElem?_eq_getElem (show 8 < xs.length by omega)] at f8
  rw [cellsAt4] at f8
  obtain ⟨n8, e8, _⟩ := DataW.trod_bool Tryd.underlying4 f8
  have q8 : c8 = .bool n8 := by simpa using e8
  have f9 : DataW.trod enc Tryd.prog W base sp held n 3 (([c0, c1, c2, c3, c4, c5, c6, c7, c8, c9, c10, c11, c12, c13, c14, c15].drop 9).take (Tryd.prog.cellsOf 3)) = xs[9]? := hf 9 _ rfl
  rw [List.getElem?_eq_getElem (show 9 < xs.length by omega)] at f9
  rw [cellsAt3] at f9
  obtain ⟨n9, e9, _, _⟩ := DataW.trod_int Tryd.underlying3 f9
  have q9 : c9 = .int .i64 n9 := by simpa using e9
  have f10 : DataW.trod enc Tryd.prog W base sp held n 3 (([c0, c1, c2, c3, c4, c5, c6, c7, c8, c9, c10, c11, c12, c13, c14, c15].drop 10).take (Tryd.prog.cellsOf 3)) = xs[10]? := hf 10 _ rfl
  rw [List.getElem?_eq_getElem (show 10 < xs.length by omega)] at f10
  rw [cellsAt3] at f10
  obtain ⟨n10, e10, _, _⟩ := DataW.trod_int Tryd.underlying3 f10
  have q10 : c10 = .int .i64 n10 := by simpa using e10
  have f11 : DataW.trod enc Tryd.prog W base sp held n 4 (([c0, c1, c2, c3, c4, c5, c6, c7, c8, c9, c10, c11, c12, c13, c14, c15].drop 11).take (Tryd.prog.cellsOf 4)) = xs[11]? := hf 11 _ rfl
  rw [List.getElem?_eq_getElem (show 11 < xs.length by omega)] at f11
  rw [cellsAt4] at f11
  obtain ⟨n11, e11, _⟩ := DataW.trod_bool Tryd.underlying4 f11
  have q11 : c11 = .bool n11 := by simpa using e11
  have f12 : DataW.trod enc Tryd.prog W base sp held n 3 (([c0, c1, c2, c3, c4, c5, c6, c7, c8, c9, c10, c11, c12, c13, c14, c15].drop 12).take (Tryd.prog.cellsOf 3)) = xs[12]? := hf 12 _ rfl
  rw [List.getElem?_eq_getElem (show 12 < xs.length by omega)] at f12
  rw [cellsAt3] at f12
  obtain ⟨n12, e12, _, _⟩ := DataW.trod_int Tryd.underlying3 f12
  have q12 : c12 = .int .i64 n12 := by simpa using e12
  have f13 : DataW.trod enc Tryd.prog W base sp held n 4 (([c0, c1, c2, c3, c4, c5, c6, c7, c8, c9, c10, c11, c12, c13, c14, c15].drop 13).take (Tryd.prog.cellsOf 4)) = xs[13]? := hf 13 _ rfl
  rw [List.getElem?_eq_getElem (show 13 < xs.length by omega)] at f13
  rw [cellsAt4] at f13
  obtain ⟨n13, e13, _⟩ := DataW.trod_bool Tryd.underlying4 f13
  have q13 : c13 = .bool n13 := by simpa using e13
  have f14 : DataW.trod enc Tryd.prog W base sp held n 2 (([c0, c1, c2, c3, c4, c5, c6, c7, c8, c9, c10, c11, c12, c13, c14, c15].drop 14).take (Tryd.prog.cellsOf 2)) = xs[14]? := hf 14 _ rfl
  rw [List.getElem?_eq_getElem (show 14 < xs.length by omega)] at f14
  rw [cellsAt2] at f14
  obtain ⟨n14, e14, _, _⟩ := DataW.trod_int Tryd.underlying2 f14
  have q14 : c14 = .int .i64 n14 := by simpa using e14
  have f15 : DataW.trod enc Tryd.prog W base sp held n 2 (([c0, c1, c2, c3, c4, c5, c6, c7, c8, c9, c10, c11, c12, c13, c14, c15].drop 15).take (Tryd.prog.cellsOf 2)) = xs[15]? := hf 15 _ rfl
  rw [List.getElem?_eq_getElem (show 15 < xs.length by omega)] at f15
  rw [cellsAt2] at f15
  obtain ⟨n15, e15, _, _⟩ := DataW.trod_int Tryd.underlying2 f15
  have q15 : c15 = .int .i64 n15 := by simpa using e15
  subst q0 q1 q2 q3 q4 q5 q6 q7 q8 q9 q10 q11 q12 q13 q14 q15
  exact ⟨n0, n1, n2, n3, n4, n5, n6, n7, n8, n9, n10, n11, n12, n13, n14, n15, rfl⟩
end Go.Proofs.YtjaoaakljcnmeaaDoor.G
