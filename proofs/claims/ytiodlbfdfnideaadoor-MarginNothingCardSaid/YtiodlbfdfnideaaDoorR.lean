/- Items that come in: what a row's reading of them gives a walk. -/
import Derived.Test.YtiodlbfdfnideaaDoorF1
import Derived.Deep.Strs
import Derived.ChangeSlices
import Derived.ProofKit
namespace Go.Proofs.YtiodlbfdfnideaaDoor.G
open Go.RowKit Go.ChangeShapes Go.WideShapes Go.Deep Go.Proofs.YtiodlbfdfnideaaDoorW.PrintWords Go.Proofs.YtiodlbfdfnideaaDoorW.PrintLast Go.Proofs.YtiodlbfdfnideaaDoorW.PrintMore

theorem cells42 : Tryd.prog.cellsOf 42 = 3 := by kernel_rfl
theorem cells2 : Tryd.prog.cellsOf 2 = 1 := by kernel_rfl
set_option maxRecDepth 100000 in
theorem open_item {H : Type} {enc : TypeId × Value → H} {W : World} {base : Nat} {sp : Nat → Bool} {held : Bool} {n : Nat} {cs : List Value} {x : DataW H × List MemPlace} (h : DataW.trod enc Tryd.prog W base sp held n 42 cs = some x) :
    ∃ z : S42, cs = [.int .i64 z.f0, .int .i64 z.f1, .int .i64 z.f2] := by
  obtain ⟨y0, y1, y2, m, _, hl, h0, h1, h2⟩ := trod_struct3 Tryd.underlying42 h
  rw [cells42] at hl
  obtain ⟨c0, c1, c2, rfl⟩ : ∃ c0 c1 c2, cs = [c0, c1, c2] := by
    match cs, hl with
    | [c0, c1, c2], _ => exact ⟨c0, c1, c2, rfl⟩
  · rw [cells2] at h0 h1 h2
    obtain ⟨n0, e0, _, _⟩ := DataW.trod_int Tryd.underlying2 h0
    obtain ⟨n1, e1, _, _⟩ := DataW.trod_int Tryd.underlying2 h1
    obtain ⟨n2, e2, _, _⟩ := DataW.trod_int Tryd.underlying2 h2
    simp at e0 e1 e2
    subst e0 e1 e2
    exact ⟨⟨n0, n1, n2⟩, rfl⟩

theorem open_sl30 {H : Type} {enc : TypeId × Value → H} {W : World} {base : Nat} {sp : Nat → Bool} {held : Bool} {n : Nat} {a : Option Addr} {len cap : Nat} {x : DataW H × List MemPlace} (h : DataW.trod enc Tryd.prog W base sp held n 30 [.slice a len cap] = some x) :
    ∃ zs : List S42, zs.length = len ∧ len ≤ cap ∧ Kd.C k42 W a len zs := by
  rcases DataW.trod_slice Tryd.underlying30 h with ⟨hc, _⟩ | ⟨ad, len', cap', elems, rest, m, _, hcs, _, _, hl, hm, hlen, hel, _⟩
  · simp only [List.cons.injEq, Value.slice.injEq, and_true] at hc
    obtain ⟨rfl, rfl, rfl⟩ := hc
    exact ⟨[], rfl, Nat.le_refl _, rfl, by omega, fun h => by omega⟩
  · simp only [List.cons.injEq, Value.slice.injEq, and_true] at hcs
    obtain ⟨rfl, rfl, rfl⟩ := hcs
    have each : ∀ i, i < len → ∃ z : S42, ∀ j u, ([.int .i64 z.f0, .int .i64 z.f1, .int .i64 z.f2] : List Value)[j]? = some u → W.cell? (ad.add (i * 3 + j)) = some u := by
      intro i hi
      have he := hel i hi
      rw [cells42] at he
      have hi' : i < elems.length := by omega
      rw [List.getElem?_eq_getElem hi', Option.bind_eq_some_iff] at he
      obtain ⟨cs, hcs, hy⟩ := he
      obtain ⟨z, rfl⟩ := open_item hy
      obtain ⟨_, _, hcell⟩ := World.cells?_some hcs
      refine ⟨z, fun j u hj => ?_⟩
      have hj3 : j < 3 := by
        have := (List.getElem?_eq_some_iff.1 hj).1
        simpa using this
      have := hcell j hj3
      rw [hj] at this
      rw [← this]
      rw [Go.Addr.add_add]
    refine ⟨(List.range len).attach.map fun i => Classical.choose (each i.1 (List.mem_range.1 i.2)), by simp, hl, by simp, by unfold maxLen at hm; omega, fun _ => ⟨ad, rfl, fun j p hj => ?_⟩⟩
    have hjl : j < len := by
      have := (List.getElem?_eq_some_iff.1 hj).1
      simpa using this
    have hp : p = Classical.choose (each j hjl) := by
      rw [List.getElem?_map, Option.map_eq_some_iff] at hj
      obtain ⟨⟨i, hi⟩, h1, h2⟩ := hj
      have h3 := List.getElem?_eq_some_iff.1 h1
      obtain ⟨h4, h5⟩ := h3
      simp at h5
      subst h5
      exact h2.symm
    subst hp
    exact ⟨_, rfl, k42_mk _ _, Classical.choose_spec (each j hjl)⟩
end Go.Proofs.YtiodlbfdfnideaaDoor.G
