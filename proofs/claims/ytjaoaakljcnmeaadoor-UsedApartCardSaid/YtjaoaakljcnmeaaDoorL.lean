/- What the three listed variables give a walk, and a world that meets them. -/
import Derived.Test.YtjaoaakljcnmeaaDoorRows
import Derived.Test.YtjaoaakljcnmeaaDoorF2
import Derived.LaidHandle
import Derived.Stop.Joined
import Derived.RowKitTokens
import Derived.ChangeSame
import Derived.ChangeVars
import Derived.JoinedOf
import Derived.RowKit
import Derived.LaidLaws
import Derived.ProofKit
import Derived.Stop.ErrReads
import Derived.Stop.LaidErr
namespace Go.Proofs.YtjaoaakljcnmeaaDoor.L
open Go.ChangeShapes Go.WideShapes Go.RowKit

theorem own : ownKnob Tryd.prog.godebug = none := by kernel_rfl
theorem laidOut : laidOutB Tryd.prog = true := by kernel_rfl
theorem star : "*" ++ "errors.errorString" = "*errors.errorString" := by decide
theorem rowE (u : TypeId) (h : Tryd.prog.typeName? 3 u = some "*errors.errorString") : u = 99 :=
  typeName_ptr_named (nm := "errors.errorString") (by rw [star]; kernel_rfl) (by kernel_rfl) (by decide) u (by rw [star]; exact h)
theorem et : Tryd.prog.globalNamed "errors.errorType" = some 0 := by kernel_rfl
theorem rt : (Tryd.prog.cutTypes.find? (·.1 == "internal/reflectlite.rtype")).map (·.2) = some 82 := by kernel_rfl
theorem oneRow : ((List.range 132).filter fun t => Tryd.prog.rowNamed t [101, 114, 114, 111, 114]) = [43] := by kernel_rfl
theorem size : Tryd.prog.types.size = 132 := by kernel_rfl
theorem g1 : Tryd.prog.globalNamed "gutter/unit.errOver" = some 1 := by kernel_rfl
theorem g2 : Tryd.prog.globalNamed "gutter/unit.errZero" = some 2 := by kernel_rfl
theorem g3 : Tryd.prog.globalNamed "gutter/unit.errText" = some 3 := by kernel_rfl
def laidX (w : World) : Prop := laidMetH Tryd.prog [("errors.errorType", Rows.laid_errors_errorType), ("gutter/unit.errOver", Rows.laid_gutter_unit_errOver), ("gutter/unit.errZero", Rows.laid_gutter_unit_errZero), ("gutter/unit.errText", Rows.laid_gutter_unit_errText)] w
theorem hX {w w' : World} (hh : w.heap = w'.heap) (h : laidX w) : laidX w' := laidMetH.of_heap hh h
theorem sentinels3 {P : Program} {n0 n1 n2 nm : String} {x0 x1 x2 : List UInt8} {W : World} {g0 g1 g2 : Nat} {ti tp te ts : TypeId} {ms : Array (String × TypeId)} {f : Field}
    (h : laidMet P [(n0, .iface nm (.ptr (.agg [.lit (.string x0)]))), (n1, .iface nm (.ptr (.agg [.lit (.string x1)]))), (n2, .iface nm (.ptr (.agg [.lit (.string x2)])))] W)
    (hg0 : P.globalNamed n0 = some g0) (ht0 : (P.globals[g0]?).map (·.type) = some ti) (hg1 : P.globalNamed n1 = some g1) (ht1 : (P.globals[g1]?).map (·.type) = some ti) (hg2 : P.globalNamed n2 = some g2) (ht2 : (P.globals[g2]?).map (·.type) = some ti)
    (hi : P.underlying ti = some (.interface ms)) (hrow : ∀ u, P.typeName? 3 u = some nm → u = tp)
    (hp : P.underlying tp = some (.pointer te)) (he : P.underlying te = some (.struct #[f])) (hft : f.type = ts) (hfo : f.offset = 0) (hs : P.underlying ts = some .string) (hc : P.cellsOf te = 1) (hcs : P.cellsOf ts = 1) :
    ∃ a0 a1 a2 : Addr, W.cell? ⟨g0, 0, none⟩ = some (.iface tp (.pointer (some a0))) ∧ W.cell? ⟨g1, 0, none⟩ = some (.iface tp (.pointer (some a1))) ∧ W.cell? ⟨g2, 0, none⟩ = some (.iface tp (.pointer (some a2))) ∧ a0 ≠ a1 ∧ a0 ≠ a2 ∧ a1 ≠ a2 ∧
      (∃ cs t, W.heap[a0.block]? = some (.cells cs t (0, 0))) ∧ (∃ cs t, W.heap[a1.block]? = some (.cells cs t (0, 0))) ∧ (∃ cs t, W.heap[a2.block]? = some (.cells cs t (0, 0))) := by
  obtain ⟨ps, ⟨b0, t0, cs0, f0, p0, q0, hb0, hu0, hv0, hd0, ⟨b1, t1, cs1, f1, p1, q1, hb1, hu1, hv1, hd1, ⟨b2, t2, cs2, f2, p2, q2, hb2, hu2, hv2, hd2, _, e2⟩, e1⟩, e0⟩, hnd, hrows⟩ := h
  obtain rfl := Option.some.inj (hg0.symm.trans hb0)
  obtain rfl := Option.some.inj (hg1.symm.trans hb1)
  obtain rfl := Option.some.inj (hg2.symm.trans hb2)
  obtain rfl := Option.some.inj (ht0.symm.trans hu0)
  obtain rfl := Option.some.inj (ht1.symm.trans hu1)
  obtain rfl := Option.some.inj (ht2.symm.trans hu2)
  subst e2 e1 e0
  obtain ⟨l0⟩ := cs0
  obtain ⟨l1⟩ := cs1
  obtain ⟨l2⟩ := cs2
  have o0 : ∀ u v, l0 = [.iface u v] → Value.okWide P W .any 0 u v := fun u v e => by
    subst e
    exact (hrows g0 0 (by simp [MemPlace.row])).2 u v (by simpa using World.var?_cell hg0 hv0 0)
  have o1 : ∀ u v, l1 = [.iface u v] → Value.okWide P W .any 0 u v := fun u v e => by
    subst e
    exact (hrows g1 0 (by simp [MemPlace.row])).2 u v (by simpa using World.var?_cell hg1 hv1 0)
  have o2 : ∀ u v, l2 = [.iface u v] → Value.okWide P W .any 0 u v := fun u v e => by
    subst e
    exact (hrows g2 0 (by simp [MemPlace.row])).2 u v (by simpa using World.var?_cell hg2 hv2 0)
  obtain ⟨a0, s0, rfl, _, _, _, rfl⟩ := errorString_of_trod hi hrow hp he hft hfo hs hc hcs hd0 o0
  obtain ⟨a1, s1, rfl, _, _, _, rfl⟩ := errorString_of_trod hi hrow hp he hft hfo hs hc hcs hd1 o1
  obtain ⟨a2, s2, rfl, _, _, _, rfl⟩ := errorString_of_trod hi hrow hp he hft hfo hs hc hcs hd2 o2
  obtain ⟨r0, y0, k0⟩ := (hrows a0.block a0.off (by simp [MemPlace.row])).1
  obtain ⟨r1, y1, k1⟩ := (hrows a1.block a1.off (by simp [MemPlace.row])).1
  obtain ⟨r2, y2, k2⟩ := (hrows a2.block a2.off (by simp [MemPlace.row])).1
  have c0 := World.var?_cell hg0 hv0 0
  have c1 := World.var?_cell hg1 hv1 0
  have c2 := World.var?_cell hg2 hv2 0
  refine ⟨a0, a1, a2, by simpa using c0, by simpa using c1, by simpa using c2, ?_, ?_, ?_, ⟨_, _, k0⟩, ⟨_, _, k1⟩, ⟨_, _, k2⟩⟩
  · rintro rfl; simp [MemPlace.row] at hnd
  · rintro rfl; simp [MemPlace.row] at hnd
  · rintro rfl; simp [MemPlace.row] at hnd
theorem gok_of_laid {W : World} (h : laidX W) : G.GOK W := by
  have h' : laidMet Tryd.prog [("gutter/unit.errOver", Rows.laid_gutter_unit_errOver), ("gutter/unit.errZero", Rows.laid_gutter_unit_errZero), ("gutter/unit.errText", Rows.laid_gutter_unit_errText)] W ∧ handlesMet Tryd.prog [("errors.errorType", Rows.laid_errors_errorType)] W := h
  obtain ⟨name, u, ty, e1, e2, e3, e4, e5⟩ := h'.2 _ (List.mem_singleton.2 rfl)
  have en : name = [101, 114, 114, 111, 114] := (Option.some.inj e1).symm
  subst en
  obtain rfl := Option.some.inj (rt.symm.trans e2)
  have hm : ty ∈ (List.range 132).filter fun t => Tryd.prog.rowNamed t [101, 114, 114, 111, 114] := List.mem_filter.2 ⟨List.mem_range.2 (by rw [← size]; exact e3), e4⟩
  rw [oneRow] at hm
  obtain rfl := List.mem_singleton.1 hm
  have hh : typeHandle Tryd.prog 43 = .pointer (some ⟨4, 43, none⟩) := by kernel_rfl
  rw [hh] at e5
  obtain ⟨a0, a1, a2, c0, c1, c2, -⟩ := sentinels3 h'.1 g1 (by kernel_rfl) g2 (by kernel_rfl) g3 (by kernel_rfl) Tryd.underlying43 rowE Tryd.underlying99 Tryd.underlying120 rfl rfl Tryd.underlying9 (by kernel_rfl) (by kernel_rfl)
  exact ⟨by simpa using World.var?_cell et e5 0, _, _, _, c0, c1, c2⟩

abbrev text0 : ByteArray := { data := #[116, 111, 111, 32, 103, 114, 101, 97, 116] }
abbrev text1 : ByteArray := { data := #[98, 121, 32, 110, 111, 116, 104, 105, 110, 103] }
abbrev text2 : ByteArray := { data := #[110, 111, 32, 108, 101, 110, 103, 116, 104] }
noncomputable def low : Nat := (World.holding Tryd.prog default ⟨#[], #[], []⟩).heap.size
noncomputable def laidWorld (os : Os) : World :=
  let w0 := World.holding Tryd.prog os ⟨#[.cells #[.string text0] 120, .cells #[.string text1] 120, .cells #[.string text2] 120], #[], []⟩
  { w0 with heap := (((w0.heap.modify 0 fun
      | .cells _ t frozen => .cells #[.iface 82 (.agg #[.pointer (some ⟨4, 43, none⟩)])] t frozen
      | o => o).modify 1 fun
      | .cells _ t frozen => .cells #[.iface 99 (.pointer (some ⟨low, 0, none⟩))] t frozen
      | o => o).modify 2 fun
      | .cells _ t frozen => .cells #[.iface 99 (.pointer (some ⟨low + 1, 0, none⟩))] t frozen
      | o => o).modify 3 fun
      | .cells _ t frozen => .cells #[.iface 99 (.pointer (some ⟨low + 2, 0, none⟩))] t frozen
      | o => o }
theorem laidWorld_met (os : Os) (args : Array Value) : laidX ((laidWorld os).forCall (fun _ _ => 0) ⟨#[], args, []⟩).memory :=
  laidMetH_of_parts (laidMet_of_run (ps := [.cell 1 0, .cell low 0, .cell 2 0, .cell (low + 1) 0, .cell 3 0, .cell (low + 2) 0]) 8 (by kernel_rfl) (by kernel_rfl) (by kernel_rfl)) (by kernel_rfl)
end Go.Proofs.YtjaoaakljcnmeaaDoor.L
