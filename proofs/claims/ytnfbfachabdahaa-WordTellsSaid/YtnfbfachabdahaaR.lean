/- Words that come in: what a row's reading of them gives a walk. -/
import Derived.Test.YtnfbfachabdahaaG0
import Derived.Deep.Strs
import Derived.ChangeSlices
import Derived.ProofKit
namespace Go.Proofs.Ytnfbfachabdahaa.G
open Go.RowKit Go.ChangeShapes Go.WideShapes Go.Deep Go.Proofs.YtnfbfachabdahaaW.PrintWords Go.Proofs.YtnfbfachabdahaaW.PrintLast Go.Proofs.YtnfbfachabdahaaW.PrintMore

theorem cells34 : Try.prog.cellsOf 34 = 4 := by kernel_rfl
theorem cells2 : Try.prog.cellsOf 2 = 1 := by kernel_rfl
theorem cells3 : Try.prog.cellsOf 3 = 1 := by kernel_rfl
theorem cells9 : Try.prog.cellsOf 9 = 1 := by kernel_rfl
set_option maxRecDepth 100000 in
theorem open_word {H : Type} {enc : TypeId × Value → H} {W : World} {base : Nat} {sp : Nat → Bool} {held : Bool} {n : Nat} {cs : List Value} {x : DataW H × List MemPlace} (h : DataW.trod enc Try.prog W base sp held n 34 cs = some x) :
    ∃ z : S34, cs = [.string z.f0, .int .i64 z.f1, .int .i64 z.f2, .int .i64 z.f3] := by
  obtain ⟨xs, m, _, _, hl, hx, hf⟩ := DataW.trod_struct Try.underlying34 h
  rw [cells34] at hl
  have hx' : xs.length = 4 := hx
  obtain ⟨c0, c1, c2, c3, rfl⟩ : ∃ c0 c1 c2 c3 : Value, cs = [c0, c1, c2, c3] := by
    match cs, hl with
    | [c0, c1, c2, c3], _ => exact ⟨c0, c1, c2, c3, rfl⟩
  clear h hx
  have f0 : DataW.trod enc Try.prog W base sp held m 9 (([c0, c1, c2, c3].drop 0).take (Try.prog.cellsOf 9)) = xs[0]? := hf 0 _ rfl
  have f1 : DataW.trod enc Try.prog W base sp held m 2 (([c0, c1, c2, c3].drop 1).take (Try.prog.cellsOf 2)) = xs[1]? := hf 1 _ rfl
  have f2 : DataW.trod enc Try.prog W base sp held m 2 (([c0, c1, c2, c3].drop 2).take (Try.prog.cellsOf 2)) = xs[2]? := hf 2 _ rfl
  have f3 : DataW.trod enc Try.prog W base sp held m 3 (([c0, c1, c2, c3].drop 3).take (Try.prog.cellsOf 3)) = xs[3]? := hf 3 _ rfl
  rw [List.getElem?_eq_getElem (show 0 < xs.length by omega), cells9] at f0
  rw [List.getElem?_eq_getElem (show 1 < xs.length by omega), cells2] at f1
  rw [List.getElem?_eq_getElem (show 2 < xs.length by omega), cells2] at f2
  rw [List.getElem?_eq_getElem (show 3 < xs.length by omega), cells3] at f3
  obtain ⟨n0, e0, _⟩ := DataW.trod_string Try.underlying9 f0
  obtain ⟨n1, e1, _⟩ := DataW.trod_int Try.underlying2 f1
  obtain ⟨n2, e2, _⟩ := DataW.trod_int Try.underlying2 f2
  obtain ⟨n3, e3, _⟩ := DataW.trod_int Try.underlying3 f3
  simp at e0 e1 e2 e3
  subst e0 e1 e2 e3
  exact ⟨⟨n0, n1, n2, n3⟩, rfl⟩
set_option maxRecDepth 100000 in
theorem open_sl23 {H : Type} {enc : TypeId × Value → H} {W : World} {base : Nat} {sp : Nat → Bool} {held : Bool} {n : Nat} {a : Option Addr} {len cap : Nat} {x : DataW H × List MemPlace} (h : DataW.trod enc Try.prog W base sp held n 23 [.slice a len cap] = some x) :
    ∃ zs : List S34, zs.length = len ∧ len ≤ cap ∧ Kd.C k34 W a len zs := by
  rcases DataW.trod_slice Try.underlying23 h with ⟨hc, _⟩ | ⟨ad, len', cap', elems, rest, m, _, hcs, _, _, hl, hm, hlen, hel, _⟩
  · simp only [List.cons.injEq, Value.slice.injEq, and_true] at hc
    obtain ⟨rfl, rfl, rfl⟩ := hc
    exact ⟨[], rfl, Nat.le_refl _, rfl, by omega, fun h => by omega⟩
  · simp only [List.cons.injEq, Value.slice.injEq, and_true] at hcs
    obtain ⟨rfl, rfl, rfl⟩ := hcs
    have each : ∀ i, i < len → ∃ z : S34, ∀ j u, ([.string z.f0, .int .i64 z.f1, .int .i64 z.f2, .int .i64 z.f3] : List Value)[j]? = some u → W.cell? (ad.add (i * 4 + j)) = some u := by
      intro i hi
      have he := hel i hi
      rw [cells34] at he
      have hi' : i < elems.length := by omega
      rw [List.getElem?_eq_getElem hi', Option.bind_eq_some_iff] at he
      obtain ⟨cs, hcs, hy⟩ := he
      obtain ⟨z, rfl⟩ := open_word hy
      obtain ⟨_, _, hcell⟩ := World.cells?_some hcs
      refine ⟨z, fun j u hj => ?_⟩
      have hj4 : j < 4 := by
        have := (List.getElem?_eq_some_iff.1 hj).1
        simpa using this
      have := hcell j hj4
      rw [hj] at this
      rw [← this]
      rw [Go.Addr.add_add]
    refine ⟨(List.range len).attach.map fun i => Classical.choose (each i.1 (List.mem_range.1 i.2)), by simp, hl, by simp, by unfold maxLen at hm; omega, fun _ => ⟨ad, rfl, fun j p hj => ?_⟩⟩
    have hjl : j < len := by
      have := (List.getElem?_eq_some_iff.1 hj).1
      simpa using this
    have hp : p = Classical.choose (each j hjl) := by
      rw [List.getElem?_map, Option.map_eq_some_iff] at hj
      obtain ⟨⟨i, hi⟩, h1, h2⟩ := hj
      have h3 := List.getElem?_eq_some_iff.1 h1
      obtain ⟨h4, h5⟩ := h3
      simp at h5
      subst h5
      exact h2.symm
    subst hp
    exact ⟨_, rfl, k34_mk _ _, Classical.choose_spec (each j hjl)⟩
end Go.Proofs.Ytnfbfachabdahaa.G
