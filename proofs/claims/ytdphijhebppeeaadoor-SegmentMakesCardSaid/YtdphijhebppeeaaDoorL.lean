/- What the listed variables give a walk, and a world that meets them. Written by mkL.py, tmpl.py. -/
import Derived.Test.YtdphijhebppeeaaDoorRows
import Derived.Test.YtdphijhebppeeaaDoorF2
import Derived.ChangeSame
import Derived.ChangeVars
import Derived.JoinedOf
import Derived.RowKit
import Derived.RowKitTokens
import Derived.LaidLaws
import Derived.LaidHandle
import Derived.Stop.Joined
import Derived.ProofKit
import Derived.Stop.ErrReads
import Derived.Stop.LaidErr
namespace Go.Proofs.YtdphijhebppeeaaDoor.L
open Go.ChangeShapes Go.WideShapes Go.RowKit

theorem own : ownKnob Tryd.prog.godebug = none := by kernel_rfl
theorem laidOut : laidOutB Tryd.prog = true := by kernel_rfl
theorem et : Tryd.prog.globalNamed "errors.errorType" = some 1 := by kernel_rfl
theorem rt : (Tryd.prog.cutTypes.find? (·.1 == "internal/reflectlite.rtype")).map (·.2) = some 114 := by kernel_rfl
theorem oneRow : ((List.range 176).filter fun t => Tryd.prog.rowNamed t [101, 114, 114, 111, 114]) = [51] := by kernel_rfl
theorem size : Tryd.prog.types.size = 176 := by kernel_rfl
theorem star : "*" ++ "errors.errorString" = "*errors.errorString" := by decide
theorem rowE (u : TypeId) (h : Tryd.prog.typeName? 3 u = some "*errors.errorString") : u = 142 :=
  typeName_ptr_named (nm := "errors.errorString") (by rw [star]; kernel_rfl) (by kernel_rfl) (by decide) u (by rw [star]; exact h)
theorem g0 : Tryd.prog.globalNamed "gutter/tree.errTree" = some 3 := by kernel_rfl
theorem g1 : Tryd.prog.globalNamed "gutter/tree.errDeep" = some 4 := by kernel_rfl
theorem g2 : Tryd.prog.globalNamed "gutter/tree.errMany" = some 2 := by kernel_rfl
theorem g3 : Tryd.prog.globalNamed "gutter/tree.errNode" = some 0 := by kernel_rfl
def laidX (w : World) : Prop := laidMetH Tryd.prog [("errors.errorType", Rows.laid_errors_errorType), ("gutter/tree.errTree", Rows.laid_gutter_tree_errTree), ("gutter/tree.errDeep", Rows.laid_gutter_tree_errDeep), ("gutter/tree.errMany", Rows.laid_gutter_tree_errMany), ("gutter/tree.errNode", Rows.laid_gutter_tree_errNode)] w
theorem hX {w w' : World} (hh : w.heap = w'.heap) (h : laidX w) : laidX w' := laidMetH.of_heap hh h
theorem sentinels4 {P : Program} {n0 n1 n2 n3 nm : String} {x0 x1 x2 x3 : List UInt8} {W : World} {g0 g1 g2 g3 : Nat} {ti tp te ts : TypeId} {ms : Array (String × TypeId)} {f : Field}
    (h : laidMet P [(n0, .iface nm (.ptr (.agg [.lit (.string x0)]))), (n1, .iface nm (.ptr (.agg [.lit (.string x1)]))), (n2, .iface nm (.ptr (.agg [.lit (.string x2)]))), (n3, .iface nm (.ptr (.agg [.lit (.string x3)])))] W)
    (hg0 : P.globalNamed n0 = some g0) (ht0 : (P.globals[g0]?).map (·.type) = some ti) (hg1 : P.globalNamed n1 = some g1) (ht1 : (P.globals[g1]?).map (·.type) = some ti) (hg2 : P.globalNamed n2 = some g2) (ht2 : (P.globals[g2]?).map (·.type) = some ti) (hg3 : P.globalNamed n3 = some g3) (ht3 : (P.globals[g3]?).map (·.type) = some ti)
    (hi : P.underlying ti = some (.interface ms)) (hrow : ∀ u, P.typeName? 3 u = some nm → u = tp)
    (hp : P.underlying tp = some (.pointer te)) (he : P.underlying te = some (.struct #[f])) (hft : f.type = ts) (hfo : f.offset = 0) (hs : P.underlying ts = some .string) (hc : P.cellsOf te = 1) (hcs : P.cellsOf ts = 1) :
    ∃ A : Nat → Addr, W.cell? ⟨g0, 0, none⟩ = some (.iface tp (.pointer (some (A 0)))) ∧ W.cell? ⟨g1, 0, none⟩ = some (.iface tp (.pointer (some (A 1)))) ∧ W.cell? ⟨g2, 0, none⟩ = some (.iface tp (.pointer (some (A 2)))) ∧ W.cell? ⟨g3, 0, none⟩ = some (.iface tp (.pointer (some (A 3)))) ∧ (∀ i j, i < 4 → j < 4 → A i = A j → i = j) ∧ ∀ i, i < 4 → ∃ c t, W.heap[(A i).block]? = some (.cells c t (0, 0)) := by
  obtain ⟨ps, ⟨b0, t0, cs0, f0, p0, q0, hb0, hu0, hv0, hd0, ⟨b1, t1, cs1, f1, p1, q1, hb1, hu1, hv1, hd1, ⟨b2, t2, cs2, f2, p2, q2, hb2, hu2, hv2, hd2, ⟨b3, t3, cs3, f3, p3, q3, hb3, hu3, hv3, hd3, _, e3⟩, e2⟩, e1⟩, e0⟩, hnd, hrows⟩ := h
  obtain rfl := Option.some.inj (hg0.symm.trans hb0)
  obtain rfl := Option.some.inj (ht0.symm.trans hu0)
  obtain rfl := Option.some.inj (hg1.symm.trans hb1)
  obtain rfl := Option.some.inj (ht1.symm.trans hu1)
  obtain rfl := Option.some.inj (hg2.symm.trans hb2)
  obtain rfl := Option.some.inj (ht2.symm.trans hu2)
  obtain rfl := Option.some.inj (hg3.symm.trans hb3)
  obtain rfl := Option.some.inj (ht3.symm.trans hu3)
  subst e3 e2 e1 e0
  obtain ⟨l0⟩ := cs0
  obtain ⟨l1⟩ := cs1
  obtain ⟨l2⟩ := cs2
  obtain ⟨l3⟩ := cs3
  have o0 : ∀ u v, l0 = [.iface u v] → Value.okWide P W .any 0 u v := fun u v e => by
    subst e
    exact (hrows g0 0 (by simp [MemPlace.row])).2 u v (by simpa using World.var?_cell hg0 hv0 0)
  have o1 : ∀ u v, l1 = [.iface u v] → Value.okWide P W .any 0 u v := fun u v e => by
    subst e
    exact (hrows g1 0 (by simp [MemPlace.row])).2 u v (by simpa using World.var?_cell hg1 hv1 0)
  have o2 : ∀ u v, l2 = [.iface u v] → Value.okWide P W .any 0 u v := fun u v e => by
    subst e
    exact (hrows g2 0 (by simp [MemPlace.row])).2 u v (by simpa using World.var?_cell hg2 hv2 0)
  have o3 : ∀ u v, l3 = [.iface u v] → Value.okWide P W .any 0 u v := fun u v e => by
    subst e
    exact (hrows g3 0 (by simp [MemPlace.row])).2 u v (by simpa using World.var?_cell hg3 hv3 0)
  obtain ⟨a0, s0, rfl, _, _, _, rfl⟩ := errorString_of_trod hi hrow hp he hft hfo hs hc hcs hd0 o0
  obtain ⟨a1, s1, rfl, _, _, _, rfl⟩ := errorString_of_trod hi hrow hp he hft hfo hs hc hcs hd1 o1
  obtain ⟨a2, s2, rfl, _, _, _, rfl⟩ := errorString_of_trod hi hrow hp he hft hfo hs hc hcs hd2 o2
  obtain ⟨a3, s3, rfl, _, _, _, rfl⟩ := errorString_of_trod hi hrow hp he hft hfo hs hc hcs hd3 o3
  obtain ⟨r0, y0, k0⟩ := (hrows a0.block a0.off (by simp [MemPlace.row])).1
  obtain ⟨r1, y1, k1⟩ := (hrows a1.block a1.off (by simp [MemPlace.row])).1
  obtain ⟨r2, y2, k2⟩ := (hrows a2.block a2.off (by simp [MemPlace.row])).1
  obtain ⟨r3, y3, k3⟩ := (hrows a3.block a3.off (by simp [MemPlace.row])).1
  have c0 := World.var?_cell hg0 hv0 0
  have c1 := World.var?_cell hg1 hv1 0
  have c2 := World.var?_cell hg2 hv2 0
  have c3 := World.var?_cell hg3 hv3 0
  have m01 : a0 ≠ a1 := by rintro rfl; simp [MemPlace.row] at hnd
  have m02 : a0 ≠ a2 := by rintro rfl; simp [MemPlace.row] at hnd
  have m03 : a0 ≠ a3 := by rintro rfl; simp [MemPlace.row] at hnd
  have m12 : a1 ≠ a2 := by rintro rfl; simp [MemPlace.row] at hnd
  have m13 : a1 ≠ a3 := by rintro rfl; simp [MemPlace.row] at hnd
  have m23 : a2 ≠ a3 := by rintro rfl; simp [MemPlace.row] at hnd
  refine ⟨fun i => if i = 0 then a0 else if i = 1 then a1 else if i = 2 then a2 else a3, by simpa using c0, by simpa using c1, by simpa using c2, by simpa using c3, ?_, ?_⟩
  · intro i j hi hj h
    have hi4 : i = 0 ∨ i = 1 ∨ i = 2 ∨ i = 3 := by omega
    have hj4 : j = 0 ∨ j = 1 ∨ j = 2 ∨ j = 3 := by omega
    rcases hi4 with rfl | rfl | rfl | rfl <;> rcases hj4 with rfl | rfl | rfl | rfl <;> first | rfl | (exfalso; simp at h; first | exact m01 h | exact m02 h | exact m03 h | exact m12 h | exact m13 h | exact m23 h | exact m01 h.symm | exact m02 h.symm | exact m03 h.symm | exact m12 h.symm | exact m13 h.symm | exact m23 h.symm)
  · intro i hi
    have hi4 : i = 0 ∨ i = 1 ∨ i = 2 ∨ i = 3 := by omega
    rcases hi4 with rfl | rfl | rfl | rfl
    · exact ⟨_, _, k0⟩
    · exact ⟨_, _, k1⟩
    · exact ⟨_, _, k2⟩
    · exact ⟨_, _, k3⟩
theorem gok_of_laid {W : World} (h : laidX W) : G.GOK W := by
  have h' : laidMet Tryd.prog [("gutter/tree.errTree", Rows.laid_gutter_tree_errTree), ("gutter/tree.errDeep", Rows.laid_gutter_tree_errDeep), ("gutter/tree.errMany", Rows.laid_gutter_tree_errMany), ("gutter/tree.errNode", Rows.laid_gutter_tree_errNode)] W ∧ handlesMet Tryd.prog [("errors.errorType", Rows.laid_errors_errorType)] W := h
  obtain ⟨name, u, ty, e1, e2, e3, e4, e5⟩ := h'.2 _ (List.mem_singleton.2 rfl)
  have en : name = [101, 114, 114, 111, 114] := (Option.some.inj e1).symm
  subst en
  obtain rfl := Option.some.inj (rt.symm.trans e2)
  have hm : ty ∈ (List.range 176).filter fun t => Tryd.prog.rowNamed t [101, 114, 114, 111, 114] := List.mem_filter.2 ⟨List.mem_range.2 (by rw [← size]; exact e3), e4⟩
  rw [oneRow] at hm
  obtain rfl := List.mem_singleton.1 hm
  have hh : typeHandle Tryd.prog 51 = .pointer (some ⟨5, 51, none⟩) := by kernel_rfl
  rw [hh] at e5
  obtain ⟨A, c0, c1, c2, c3, hinj, hblk⟩ := sentinels4 h'.1 g0 (by kernel_rfl) g1 (by kernel_rfl) g2 (by kernel_rfl) g3 (by kernel_rfl) Tryd.underlying51 rowE Tryd.underlying142 Tryd.underlying164 rfl rfl Tryd.underlying9 (by kernel_rfl) (by kernel_rfl)
  refine ⟨?_, A, c0, c1, c2, c3, hinj, hblk⟩
  simpa using World.var?_cell et e5 0
abbrev text0 : ByteArray := { data := #[110, 111, 32, 110, 111, 100, 101] }
abbrev text1 : ByteArray := { data := #[116, 111, 111, 32, 100, 101, 101, 112] }
abbrev text2 : ByteArray := { data := #[116, 111, 111, 32, 109, 97, 110, 121] }
abbrev text3 : ByteArray := { data := #[110, 111, 32, 115, 117, 99, 104, 32, 110, 111, 100, 101] }
noncomputable def low : Nat := (World.holding Tryd.prog default ⟨#[], #[], []⟩).heap.size
noncomputable def laidWorld (os : Os) : World :=
  let w0 := World.holding Tryd.prog os ⟨#[.cells #[.string text0] 164, .cells #[.string text1] 164, .cells #[.string text2] 164, .cells #[.string text3] 164], #[], []⟩
  { w0 with heap := (((((w0.heap.modify 3 fun
      | .cells _ t frozen => .cells #[.iface 142 (.pointer (some ⟨low, 0, none⟩))] t frozen
      | o => o).modify 4 fun
      | .cells _ t frozen => .cells #[.iface 142 (.pointer (some ⟨low + 1, 0, none⟩))] t frozen
      | o => o).modify 2 fun
      | .cells _ t frozen => .cells #[.iface 142 (.pointer (some ⟨low + 2, 0, none⟩))] t frozen
      | o => o).modify 0 fun
      | .cells _ t frozen => .cells #[.iface 142 (.pointer (some ⟨low + 3, 0, none⟩))] t frozen
      | o => o).modify 1 fun
      | .cells _ t frozen => .cells #[.iface 114 (.agg #[.pointer (some ⟨5, 51, none⟩)])] t frozen
      | o => o) }
theorem laidWorld_met (os : Os) (args : Array Value) : laidX ((laidWorld os).forCall (fun _ _ => 0) ⟨#[], args, []⟩).memory :=
  laidMetH_of_parts (laidMet_of_run' 8 (by kernel_rfl) (by kernel_rfl)) (by kernel_rfl)
end Go.Proofs.YtdphijhebppeeaaDoor.L
