/- What comes in: what a row's reading of it gives a walk. Written by mkR.py. -/
import Derived.Test.YtkmddhljfjjglaaDoorF17
import Derived.Deep.Strs
import Derived.ChangeSlices
import Derived.ProofKit
namespace Go.Proofs.YtkmddhljfjjglaaDoor.G
open Go.RowKit Go.ChangeShapes Go.WideShapes Go.Deep Go.Proofs.YtkmddhljfjjglaaDoorW.PrintWords Go.Proofs.YtkmddhljfjjglaaDoorW.PrintLast Go.Proofs.YtkmddhljfjjglaaDoorW.PrintMore

theorem cellsN2 : Tryd.prog.cellsOf 2 = 1 := by kernel_rfl
theorem cellsN3 : Tryd.prog.cellsOf 3 = 1 := by kernel_rfl
theorem cellsN4 : Tryd.prog.cellsOf 4 = 1 := by kernel_rfl
theorem cellsN30 : Tryd.prog.cellsOf 30 = 4 := by kernel_rfl
theorem cellsN39 : Tryd.prog.cellsOf 39 = 6 := by kernel_rfl
theorem cellsN41 : Tryd.prog.cellsOf 41 = 7 := by kernel_rfl
def l41 (x : S41) : List Value := [.int .i64 x.f0, .int .i64 x.f1, .int .i64 x.f2, .int .i64 x.f3.f0, .int .i64 x.f3.f1, .int .i64 x.f3.f2, .int .i64 x.f3.f3]
def wfF (x : S41) : Bool := r64B x.f0 && (r64B x.f1 && (r64B x.f2 && wfR x.f3))
theorem r64_of_wf {n : Int} (h : (Lit.int .i64 n).wf = true) : r64B n = true := by
  have h1 : -9223372036854775808 ≤ n ∧ n ≤ 9223372036854775807 := by
    simp [Lit.wf, IntKind.min, IntKind.max, IntKind.signed, IntKind.bits] at h
    omega
  simp only [r64B, Bool.and_eq_true, decide_eq_true_eq]
  exact h1
set_option maxRecDepth 100000 in
theorem open_r30 {H : Type} {enc : TypeId × Value → H} {W : World} {base : Nat} {sp : Nat → Bool} {held : Bool} {n : Nat} {cs : List Value} {x : DataW H × List MemPlace} (h : DataW.trod enc Tryd.prog W base sp held n 30 cs = some x) : ∃ z : S30, cs = l30 z ∧ wfR z = true := by
  obtain ⟨xs, m, _, _, hl, hx, hf⟩ := DataW.trod_struct Tryd.underlying30 h
  rw [cellsN30] at hl
  have hx' : xs.length = 4 := hx
  obtain ⟨c0, c1, c2, c3, rfl⟩ : ∃ c0 c1 c2 c3 : Value, cs = [c0, c1, c2, c3] := by
    match cs, hl with
    | [c0, c1, c2, c3], _ => exact ⟨c0, c1, c2, c3, rfl⟩
  clear h hx
  have f0 : DataW.trod enc Tryd.prog W base sp held m 2 (([c0, c1, c2, c3].drop 0).take (Tryd.prog.cellsOf 2)) = xs[0]? := hf 0 _ rfl
  rw [List.getElem?_eq_getElem (show 0 < xs.length by omega), cellsN2] at f0
  obtain ⟨n0, e0, _, w0⟩ := DataW.trod_int Tryd.underlying2 f0
  have q0 : c0 = .int .i64 n0 := by simpa using e0
  have f1 : DataW.trod enc Tryd.prog W base sp held m 2 (([c0, c1, c2, c3].drop 1).take (Tryd.prog.cellsOf 2)) = xs[1]? := hf 1 _ rfl
  rw [List.getElem?_eq_getElem (show 1 < xs.length by omega), cellsN2] at f1
  obtain ⟨n1, e1, _, w1⟩ := DataW.trod_int Tryd.underlying2 f1
  have q1 : c1 = .int .i64 n1 := by simpa using e1
  have f2 : DataW.trod enc Tryd.prog W base sp held m 2 (([c0, c1, c2, c3].drop 2).take (Tryd.prog.cellsOf 2)) = xs[2]? := hf 2 _ rfl
  rw [List.getElem?_eq_getElem (show 2 < xs.length by omega), cellsN2] at f2
  obtain ⟨n2, e2, _, w2⟩ := DataW.trod_int Tryd.underlying2 f2
  have q2 : c2 = .int .i64 n2 := by simpa using e2
  have f3 : DataW.trod enc Tryd.prog W base sp held m 2 (([c0, c1, c2, c3].drop 3).take (Tryd.prog.cellsOf 2)) = xs[3]? := hf 3 _ rfl
  rw [List.getElem?_eq_getElem (show 3 < xs.length by omega), cellsN2] at f3
  obtain ⟨n3, e3, _, w3⟩ := DataW.trod_int Tryd.underlying2 f3
  have q3 : c3 = .int .i64 n3 := by simpa using e3
  subst q0
  subst q1
  subst q2
  subst q3
  refine ⟨⟨n0, n1, n2, n3⟩, rfl, ?_⟩
  simp only [wfR, Bool.and_eq_true]
  exact ⟨r64_of_wf w0, r64_of_wf w1, r64_of_wf w2, r64_of_wf w3⟩
set_option maxRecDepth 100000 in
theorem open_r39 {H : Type} {enc : TypeId × Value → H} {W : World} {base : Nat} {sp : Nat → Bool} {held : Bool} {n : Nat} {cs : List Value} {x : DataW H × List MemPlace} (h : DataW.trod enc Tryd.prog W base sp held n 39 cs = some x) : ∃ z : S39, cs = cs39 z ∧ wfX z = true := by
  obtain ⟨xs, m, _, _, hl, hx, hf⟩ := DataW.trod_struct Tryd.underlying39 h
  rw [cellsN39] at hl
  have hx' : xs.length = 3 := hx
  obtain ⟨c0, c1, c2, c3, c4, c5, rfl⟩ : ∃ c0 c1 c2 c3 c4 c5 : Value, cs = [c0, c1, c2, c3, c4, c5] := by
    match cs, hl with
    | [c0, c1, c2, c3, c4, c5], _ => exact ⟨c0, c1, c2, c3, c4, c5, rfl⟩
  clear h hx
  have f0 : DataW.trod enc Tryd.prog W base sp held m 4 (([c0, c1, c2, c3, c4, c5].drop 0).take (Tryd.prog.cellsOf 4)) = xs[0]? := hf 0 _ rfl
  rw [List.getElem?_eq_getElem (show 0 < xs.length by omega), cellsN4] at f0
  obtain ⟨n0, e0, _⟩ := DataW.trod_bool Tryd.underlying4 f0
  have q0 : c0 = .bool n0 := by simpa using e0
  have f1 : DataW.trod enc Tryd.prog W base sp held m 3 (([c0, c1, c2, c3, c4, c5].drop 1).take (Tryd.prog.cellsOf 3)) = xs[1]? := hf 1 _ rfl
  rw [List.getElem?_eq_getElem (show 1 < xs.length by omega), cellsN3] at f1
  obtain ⟨n1, e1, _, w1⟩ := DataW.trod_int Tryd.underlying3 f1
  have q1 : c1 = .int .i64 n1 := by simpa using e1
  have f2 : DataW.trod enc Tryd.prog W base sp held m 30 (([c0, c1, c2, c3, c4, c5].drop 2).take (Tryd.prog.cellsOf 30)) = xs[2]? := hf 2 _ rfl
  rw [List.getElem?_eq_getElem (show 2 < xs.length by omega), cellsN30] at f2
  obtain ⟨n2, e2, w2⟩ := open_r30 f2
  have q2 : [c2, c3, c4, c5] = l30 n2 := by simpa using e2
  simp only [l30, List.cons.injEq, and_true] at q2
  subst q0
  subst q1
  obtain ⟨rfl, rfl, rfl, rfl⟩ := q2
  refine ⟨⟨n0, n1, n2⟩, rfl, ?_⟩
  simp only [wfX, Bool.and_eq_true]
  exact ⟨r64_of_wf w1, w2⟩
set_option maxRecDepth 100000 in
theorem open_r41 {H : Type} {enc : TypeId × Value → H} {W : World} {base : Nat} {sp : Nat → Bool} {held : Bool} {n : Nat} {cs : List Value} {x : DataW H × List MemPlace} (h : DataW.trod enc Tryd.prog W base sp held n 41 cs = some x) : ∃ z : S41, cs = l41 z ∧ wfF z = true := by
  obtain ⟨xs, m, _, _, hl, hx, hf⟩ := DataW.trod_struct Tryd.underlying41 h
  rw [cellsN41] at hl
  have hx' : xs.length = 4 := hx
  obtain ⟨c0, c1, c2, c3, c4, c5, c6, rfl⟩ : ∃ c0 c1 c2 c3 c4 c5 c6 : Value, cs = [c0, c1, c2, c3, c4, c5, c6] := by
    match cs, hl with
    | [c0, c1, c2, c3, c4, c5, c6], _ => exact ⟨c0, c1, c2, c3, c4, c5, c6, rfl⟩
  clear h hx
  have f0 : DataW.trod enc Tryd.prog W base sp held m 3 (([c0, c1, c2, c3, c4, c5, c6].drop 0).take (Tryd.prog.cellsOf 3)) = xs[0]? := hf 0 _ rfl
  rw [List.getElem?_eq_getElem (show 0 < xs.length by omega), cellsN3] at f0
  obtain ⟨n0, e0, _, w0⟩ := DataW.trod_int Tryd.underlying3 f0
  have q0 : c0 = .int .i64 n0 := by simpa using e0
  have f1 : DataW.trod enc Tryd.prog W base sp held m 3 (([c0, c1, c2, c3, c4, c5, c6].drop 1).take (Tryd.prog.cellsOf 3)) = xs[1]? := hf 1 _ rfl
  rw [List.getElem?_eq_getElem (show 1 < xs.length by omega), cellsN3] at f1
  obtain ⟨n1, e1, _, w1⟩ := DataW.trod_int Tryd.underlying3 f1
  have q1 : c1 = .int .i64 n1 := by simpa using e1
  have f2 : DataW.trod enc Tryd.prog W base sp held m 3 (([c0, c1, c2, c3, c4, c5, c6].drop 2).take (Tryd.prog.cellsOf 3)) = xs[2]? := hf 2 _ rfl
  rw [List.getElem?_eq_getElem (show 2 < xs.length by omega), cellsN3] at f2
  obtain ⟨n2, e2, _, w2⟩ := DataW.trod_int Tryd.underlying3 f2
  have q2 : c2 = .int .i64 n2 := by simpa using e2
  have f3 : DataW.trod enc Tryd.prog W base sp held m 30 (([c0, c1, c2, c3, c4, c5, c6].drop 3).take (Tryd.prog.cellsOf 30)) = xs[3]? := hf 3 _ rfl
  rw [List.getElem?_eq_getElem (show 3 < xs.length by omega), cellsN30] at f3
  obtain ⟨n3, e3, w3⟩ := open_r30 f3
  have q3 : [c3, c4, c5, c6] = l30 n3 := by simpa using e3
  simp only [l30, List.cons.injEq, and_true] at q3
  subst q0
  subst q1
  subst q2
  obtain ⟨rfl, rfl, rfl, rfl⟩ := q3
  refine ⟨⟨n0, n1, n2, n3⟩, rfl, ?_⟩
  simp only [wfF, Bool.and_eq_true]
  exact ⟨r64_of_wf w0, r64_of_wf w1, r64_of_wf w2, w3⟩
set_option maxRecDepth 100000 in
theorem open_sl23 {H : Type} {enc : TypeId × Value → H} {W : World} {base : Nat} {sp : Nat → Bool} {held : Bool} {n : Nat} {a : Option Addr} {len cap : Nat} {x : DataW H × List MemPlace} (h : DataW.trod enc Tryd.prog W base sp held n 23 [.slice a len cap] = some x) :
    ∃ zs : List S30, zs.length = len ∧ len ≤ cap ∧ Kd.C k30 W a len zs ∧ zs.all wfR = true := by
  rcases DataW.trod_slice Tryd.underlying23 h with ⟨hc, _⟩ | ⟨ad, len', cap', elems, rest, m, _, hcs, _, _, hl, hm, hlen, hel, _⟩
  · simp only [List.cons.injEq, Value.slice.injEq, and_true] at hc
    obtain ⟨rfl, rfl, rfl⟩ := hc
    exact ⟨[], rfl, Nat.le_refl _, ⟨rfl, by omega, fun h => by omega⟩, rfl⟩
  · simp only [List.cons.injEq, Value.slice.injEq, and_true] at hcs
    obtain ⟨rfl, rfl, rfl⟩ := hcs
    have each : ∀ i, i < len → ∃ z : S30, (∀ j u, (l30 z)[j]? = some u → W.cell? (ad.add (i * 4 + j)) = some u) ∧ wfR z = true := by
      intro i hi
      have he := hel i hi
      rw [cellsN30] at he
      have hi' : i < elems.length := by omega
      rw [List.getElem?_eq_getElem hi', Option.bind_eq_some_iff] at he
      obtain ⟨cs, hcs, hy⟩ := he
      obtain ⟨z, rfl, hw⟩ := open_r30 hy
      obtain ⟨_, _, hcell⟩ := World.cells?_some hcs
      refine ⟨z, fun j u hj => ?_, hw⟩
      have hj3 : j < 4 := by
        have := (List.getElem?_eq_some_iff.1 hj).1
        simpa [l30] using this
      have := hcell j hj3
      rw [hj] at this
      rw [← this]
      rw [Go.Addr.add_add]
    refine ⟨(List.range len).attach.map fun i => Classical.choose (each i.1 (List.mem_range.1 i.2)), by simp, hl, ⟨by simp, by unfold maxLen at hm; omega, fun _ => ⟨ad, rfl, fun j p hj => ?_⟩⟩, ?_⟩
    · have hjl : j < len := by
        have := (List.getElem?_eq_some_iff.1 hj).1
        simpa using this
      have hp : p = Classical.choose (each j hjl) := by
        rw [List.getElem?_map, Option.map_eq_some_iff] at hj
        obtain ⟨⟨i, hi⟩, h1, h2⟩ := hj
        have h3 := List.getElem?_eq_some_iff.1 h1
        obtain ⟨h4, h5⟩ := h3
        simp at h5
        subst h5
        exact h2.symm
      subst hp
      exact ⟨_, rfl, k30_mk _ _, (Classical.choose_spec (each j hjl)).1⟩
    · rw [List.all_eq_true]
      intro z hz
      rw [List.mem_map] at hz
      obtain ⟨⟨i, hi⟩, _, rfl⟩ := hz
      exact (Classical.choose_spec (each i (List.mem_range.1 hi))).2
set_option maxRecDepth 100000 in
theorem open_sl35 {H : Type} {enc : TypeId × Value → H} {W : World} {base : Nat} {sp : Nat → Bool} {held : Bool} {n : Nat} {a : Option Addr} {len cap : Nat} {x : DataW H × List MemPlace} (h : DataW.trod enc Tryd.prog W base sp held n 35 [.slice a len cap] = some x) :
    ∃ zs : List S39, zs.length = len ∧ len ≤ cap ∧ Kd.C k39 W a len zs ∧ zs.all wfX = true := by
  rcases DataW.trod_slice Tryd.underlying35 h with ⟨hc, _⟩ | ⟨ad, len', cap', elems, rest, m, _, hcs, _, _, hl, hm, hlen, hel, _⟩
  · simp only [List.cons.injEq, Value.slice.injEq, and_true] at hc
    obtain ⟨rfl, rfl, rfl⟩ := hc
    exact ⟨[], rfl, Nat.le_refl _, ⟨rfl, by omega, fun h => by omega⟩, rfl⟩
  · simp only [List.cons.injEq, Value.slice.injEq, and_true] at hcs
    obtain ⟨rfl, rfl, rfl⟩ := hcs
    have each : ∀ i, i < len → ∃ z : S39, (∀ j u, (cs39 z)[j]? = some u → W.cell? (ad.add (i * 6 + j)) = some u) ∧ wfX z = true := by
      intro i hi
      have he := hel i hi
      rw [cellsN39] at he
      have hi' : i < elems.length := by omega
      rw [List.getElem?_eq_getElem hi', Option.bind_eq_some_iff] at he
      obtain ⟨cs, hcs, hy⟩ := he
      obtain ⟨z, rfl, hw⟩ := open_r39 hy
      obtain ⟨_, _, hcell⟩ := World.cells?_some hcs
      refine ⟨z, fun j u hj => ?_, hw⟩
      have hj3 : j < 6 := by
        have := (List.getElem?_eq_some_iff.1 hj).1
        simpa [cs39] using this
      have := hcell j hj3
      rw [hj] at this
      rw [← this]
      rw [Go.Addr.add_add]
    refine ⟨(List.range len).attach.map fun i => Classical.choose (each i.1 (List.mem_range.1 i.2)), by simp, hl, ⟨by simp, by unfold maxLen at hm; omega, fun _ => ⟨ad, rfl, fun j p hj => ?_⟩⟩, ?_⟩
    · have hjl : j < len := by
        have := (List.getElem?_eq_some_iff.1 hj).1
        simpa using this
      have hp : p = Classical.choose (each j hjl) := by
        rw [List.getElem?_map, Option.map_eq_some_iff] at hj
        obtain ⟨⟨i, hi⟩, h1, h2⟩ := hj
        have h3 := List.getElem?_eq_some_iff.1 h1
        obtain ⟨h4, h5⟩ := h3
        simp at h5
        subst h5
        exact h2.symm
      subst hp
      exact ⟨_, rfl, k39_mk _ _, (Classical.choose_spec (each j hjl)).1⟩
    · rw [List.all_eq_true]
      intro z hz
      rw [List.mem_map] at hz
      obtain ⟨⟨i, hi⟩, _, rfl⟩ := hz
      exact (Classical.choose_spec (each i (List.mem_range.1 hi))).2
set_option maxRecDepth 100000 in
theorem open_sl32 {H : Type} {enc : TypeId × Value → H} {W : World} {base : Nat} {sp : Nat → Bool} {held : Bool} {n : Nat} {a : Option Addr} {len cap : Nat} {x : DataW H × List MemPlace} (h : DataW.trod enc Tryd.prog W base sp held n 32 [.slice a len cap] = some x) :
    ∃ zs : List S41, zs.length = len ∧ len ≤ cap ∧ Kd.C k41 W a len zs ∧ zs.all wfF = true := by
  rcases DataW.trod_slice Tryd.underlying32 h with ⟨hc, _⟩ | ⟨ad, len', cap', elems, rest, m, _, hcs, _, _, hl, hm, hlen, hel, _⟩
  · simp only [List.cons.injEq, Value.slice.injEq, and_true] at hc
    obtain ⟨rfl, rfl, rfl⟩ := hc
    exact ⟨[], rfl, Nat.le_refl _, ⟨rfl, by omega, fun h => by omega⟩, rfl⟩
  · simp only [List.cons.injEq, Value.slice.injEq, and_true] at hcs
    obtain ⟨rfl, rfl, rfl⟩ := hcs
    have each : ∀ i, i < len → ∃ z : S41, (∀ j u, (l41 z)[j]? = some u → W.cell? (ad.add (i * 7 + j)) = some u) ∧ wfF z = true := by
      intro i hi
      have he := hel i hi
      rw [cellsN41] at he
      have hi' : i < elems.length := by omega
      rw [List.getElem?_eq_getElem hi', Option.bind_eq_some_iff] at he
      obtain ⟨cs, hcs, hy⟩ := he
      obtain ⟨z, rfl, hw⟩ := open_r41 hy
      obtain ⟨_, _, hcell⟩ := World.cells?_some hcs
      refine ⟨z, fun j u hj => ?_, hw⟩
      have hj3 : j < 7 := by
        have := (List.getElem?_eq_some_iff.1 hj).1
        simpa [l41] using this
      have := hcell j hj3
      rw [hj] at this
      rw [← this]
      rw [Go.Addr.add_add]
    refine ⟨(List.range len).attach.map fun i => Classical.choose (each i.1 (List.mem_range.1 i.2)), by simp, hl, ⟨by simp, by unfold maxLen at hm; omega, fun _ => ⟨ad, rfl, fun j p hj => ?_⟩⟩, ?_⟩
    · have hjl : j < len := by
        have := (List.getElem?_eq_some_iff.1 hj).1
        simpa using this
      have hp : p = Classical.choose (each j hjl) := by
        rw [List.getElem?_map, Option.map_eq_some_iff] at hj
        obtain ⟨⟨i, hi⟩, h1, h2⟩ := hj
        have h3 := List.getElem?_eq_some_iff.1 h1
        obtain ⟨h4, h5⟩ := h3
        simp at h5
        subst h5
        exact h2.symm
      subst hp
      exact ⟨_, rfl, k41_mk _ _, (Classical.choose_spec (each j hjl)).1⟩
    · rw [List.all_eq_true]
      intro z hz
      rw [List.mem_map] at hz
      obtain ⟨⟨i, hi⟩, _, rfl⟩ := hz
      exact (Classical.choose_spec (each i (List.mem_range.1 hi))).2
set_option maxRecDepth 100000 in
theorem open_st30 {H : Type} {enc : TypeId × Value → H} {W : World} {r : Reach} {b base : Nat} {sp : Nat → Bool} {held : Bool} {v : Value} {x : DataW H × List MemPlace} (hk : Value.okWide Tryd.prog W r b 30 v) (h : ∃ fuel, DataW.trod enc Tryd.prog W base sp held fuel 30 v.cells.toList = some x) :
    ∃ (s0 : Int) (s1 : Int) (s2 : Int) (s3 : Int), v = .agg #[.int .i64 s0, .int .i64 s1, .int .i64 s2, .int .i64 s3] ∧ wfR ⟨s0, s1, s2, s3⟩ = true := by
  obtain ⟨cs, rfl, hs⟩ := okWide_struct Tryd.underlying30 hk
  obtain ⟨fuel, h⟩ := h
  obtain ⟨l⟩ := cs
  obtain ⟨z, e, hw⟩ := open_r30 (show DataW.trod enc Tryd.prog W base sp held fuel 30 l = some x from h)
  exact ⟨z.f0, z.f1, z.f2, z.f3, by rw [e]; rfl, hw⟩
end Go.Proofs.YtkmddhljfjjglaaDoor.G
