/- Chapter 5: a node's cells, opaque: its loads, stores; who may have kids. Written by tmpl.py out of F4.tl. -/
import Derived.Test.YtdphijhebppeeaaDoorF3
import Derived.Deep.MidRow
import Derived.Laws.Tables
import Derived.Deep.WholeRow
namespace Go.Proofs.YtdphijhebppeeaaDoor.G
open Go.RowKit Go.Maps Go.Proofs.YtdphijhebppeeaaDoorW.PrintWords Go.Proofs.YtdphijhebppeeaaDoorW.PrintLast Go.Proofs.YtdphijhebppeeaaDoorW.PrintMore

abbrev Node := S31
abbrev kN : Kd Node := k31
/-- M is node x's cells. -/
structure NodeC (x : Node) (M : Array Value) : Prop where
  eq : M = #[.int .i64 x.f0, .int .i64 x.f1, .string x.f2, .int .i64 x.f3, .int .i64 x.f4, .int .i64 x.f5.f0, .int .i64 x.f5.f1, .int .i64 x.f5.f2, .int .i64 x.f5.f3, .bool x.f5.f4, .int .i64 x.f5.f5, .int .i64 x.f5.f6, .int .i64 x.f5.f7, .bool x.f5.f8, .int .i64 x.f5.f9, .int .i64 x.f5.f10, .bool x.f5.f11, .int .i64 x.f5.f12, .bool x.f5.f13, .int .i64 x.f5.f14, .int .i64 x.f5.f15]
def cN (x : Node) : Array Value := #[.int .i64 x.f0, .int .i64 x.f1, .string x.f2, .int .i64 x.f3, .int .i64 x.f4, .int .i64 x.f5.f0, .int .i64 x.f5.f1, .int .i64 x.f5.f2, .int .i64 x.f5.f3, .bool x.f5.f4, .int .i64 x.f5.f5, .int .i64 x.f5.f6, .int .i64 x.f5.f7, .bool x.f5.f8, .int .i64 x.f5.f9, .int .i64 x.f5.f10, .bool x.f5.f11, .int .i64 x.f5.f12, .bool x.f5.f13, .int .i64 x.f5.f14, .int .i64 x.f5.f15]
theorem cN_is (x : Node) : NodeC x (cN x) := ⟨rfl⟩
/-- S is node x's style's cells. -/
structure StyleC (x : Node) (S : Array Value) : Prop where
  eq : S = #[.int .i64 x.f5.f0, .int .i64 x.f5.f1, .int .i64 x.f5.f2, .int .i64 x.f5.f3, .bool x.f5.f4, .int .i64 x.f5.f5, .int .i64 x.f5.f6, .int .i64 x.f5.f7, .bool x.f5.f8, .int .i64 x.f5.f9, .int .i64 x.f5.f10, .bool x.f5.f11, .int .i64 x.f5.f12, .bool x.f5.f13, .int .i64 x.f5.f14, .int .i64 x.f5.f15]
theorem NodeC.size {x : Node} {M : Array Value} (h : NodeC x M) : M.size = 21 := by rw [h.eq]; rfl
theorem NodeC.c0 {x : Node} {M : Array Value} (h : NodeC x M) : M[0]? = some (.int .i64 x.f0) := by rw [h.eq]; rfl
theorem NodeC.c1 {x : Node} {M : Array Value} (h : NodeC x M) : M[1]? = some (.int .i64 x.f1) := by rw [h.eq]; rfl
theorem NodeC.c2 {x : Node} {M : Array Value} (h : NodeC x M) : M[2]? = some (.string x.f2) := by rw [h.eq]; rfl
theorem NodeC.c3 {x : Node} {M : Array Value} (h : NodeC x M) : M[3]? = some (.int .i64 x.f3) := by rw [h.eq]; rfl
theorem NodeC.c4 {x : Node} {M : Array Value} (h : NodeC x M) : M[4]? = some (.int .i64 x.f4) := by rw [h.eq]; rfl
theorem NodeC.c16 {x : Node} {M : Array Value} (h : NodeC x M) : M[16]? = some (.bool x.f5.f11) := by rw [h.eq]; rfl
theorem NodeC.c17 {x : Node} {M : Array Value} (h : NodeC x M) : M[17]? = some (.int .i64 x.f5.f12) := by rw [h.eq]; rfl
theorem NodeC.one {x : Node} {M : Array Value} (h : NodeC x M) : M.all (·.oneCell') = true := by rw [h.eq]; simp [Value.oneCell']
theorem NodeC.K {x : Node} {M : Array Value} (h : NodeC x M) (w : World) : kN.K w x M.toList := by rw [h.eq]; exact k31_mk w x
theorem NodeC.of {x : Node} {w : World} {cs : List Value} (h : kN.K w x cs) : NodeC x cs.toArray := ⟨by rw [k31_open h]⟩
theorem NodeC.style {x : Node} {M : Array Value} (h : NodeC x M) : StyleC x (M.extract 5 21) := ⟨by rw [h.eq]; rfl⟩
theorem StyleC.size {x : Node} {S : Array Value} (h : StyleC x S) : S.size = 16 := by rw [h.eq]; rfl

/-- The cells cs lie from the address p on. -/
def ranges (w : World) (p : Addr) (cs : List Value) : Prop := ∀ j v, cs[j]? = some v → w.cell? (p.add j) = some v
section
variable {P : Program}
theorem run_loadVar_p (w : World) (p : Addr) (ty : TypeId) (cs : List Value) (d : TypeDesc) (hc : ranges w p cs) (hu : P.underlying ty = some d) (hd : d.isRow = true) (hi : (P.info? ty).map (·.size) = some cs.length) :
    (loadVar ty p).run P w = .ok (.agg cs.toArray) w := by
  have hl : (loadCells p cs.length).run P w = .ok cs.toArray w := run_loadCells_list (P := P) w p cs hc
  cases hq : P.info? ty with
  | none => simp [hq] at hi
  | some i =>
    have hs : i.size = cs.length := by simpa [hq] using hi
    have hagg : (isAgg ty).run P w = .ok true w := by
      unfold isAgg
      rw [Sem.run_bind, run_underlying hu w]
      cases d <;> simp_all
    simp [loadVar, Sem.run_bind, hagg, sizeOf, typeInfo, hq, hs, hl]
theorem wpList_load_p {ops : Array Oper} {rest : List Oper} {op : Oper} {a : Act} {w : World} {Q : Exit → Act → World → Prop} (hgd : op.guard = none) (ty : TypeId) (x : Operand) (ho : op.op = .load ty x)
    (p : Addr) (hx : a.eval x = .pointer (some p)) (cs : List Value) (d : TypeDesc) (hc : ranges w p cs) (hu : P.underlying ty = some d) (hd : d.isRow = true) (hi : (P.info? ty).map (·.size) = some cs.length)
    (h : wpList P ops Q rest (a.put op.dst (.agg cs.toArray)) w) : wpList P ops Q (op :: rest) a w :=
  wpList_plain hgd fun _ hK => by
    unfold Oper.wp execOp
    simp only [ho, hx, Instr.loadAt, Instr.sureAddr, Sem.run_bind, Sem.run_pure, Result.andThen_ok, run_loadVar_p w p ty cs d hc hu hd hi]
    exact hK _ _ h
end
theorem infoN : (Tryd.prog.info? 31).map (·.size) = some 21 := by kernel_rfl
theorem infoS : (Tryd.prog.info? 29).map (·.size) = some 16 := by kernel_rfl
/-- A node's load, whole. -/
theorem loadN_at {ops : Array Oper} {rest : List Oper} {o : Oper} {a : Act} {W : World} {Q : Exit → Act → World → Prop} (hgd : o.guard = none) (x : Operand) (ho : o.op = .load 31 x) (p : Addr) (hx : a.eval x = .pointer (some p)) (M : Array Value) (hM : M.size = 21)
    (hc : ranges W p M.toList) (h : wpList Tryd.prog ops Q rest (a.put o.dst (.agg M)) W) : wpList Tryd.prog ops Q (o :: rest) a W :=
  wpList_load_p hgd 31 x ho p hx M.toList _ hc Tryd.underlying31 rfl (by rw [infoN]; simp [hM]) (by simpa using h)
/-- A style's. -/
theorem loadS_at {ops : Array Oper} {rest : List Oper} {o : Oper} {a : Act} {W : World} {Q : Exit → Act → World → Prop} (hgd : o.guard = none) (x : Operand) (ho : o.op = .load 29 x) (p : Addr) (hx : a.eval x = .pointer (some p)) (S : Array Value) (hS : S.size = 16)
    (hc : ranges W p S.toList) (h : wpList Tryd.prog ops Q rest (a.put o.dst (.agg S)) W) : wpList Tryd.prog ops Q (o :: rest) a W :=
  wpList_load_p hgd 29 x ho p hx S.toList _ hc Tryd.underlying29 rfl (by rw [infoS]; simp [hS]) (by simpa using h)
/-- A node's store into a fresh variable. -/
theorem storeN_at {ops : Array Oper} {rest : List Oper} {o : Oper} {a : Act} {W : World} {Q : Exit → Act → World → Prop} (hgd : o.guard = none) (x y : Operand) (ho : o.op = .store 31 x y) (M old : Array Value) (hx : a.eval x = .pointer (some ⟨W.heap.size, 0, none⟩)) (hy : a.eval y = .agg M)
    (hM : M.size = 21) (h1 : M.all (·.oneCell') = true) (hold : old.size = 21) (h : wpList Tryd.prog ops Q rest (a.put o.dst undef) (W.alloc (.cells M 31))) : wpList Tryd.prog ops Q (o :: rest) a (W.alloc (.cells old 31)) :=
  wpList_store_row hgd 31 x y ho W.heap.size M hx hy 31 old (heap_alloc_new W _) (by rw [infoN, hM]) (by rw [hold, hM]) h1 (by rw [World.setRow_alloc_new]; exact h)
theorem cell_at {W : World} {b : Nat} {M : Array Value} {t : TypeId} (h : W.heap[b]? = some (.cells M t (0, 0))) (j : Nat) {v : Value} (hv : M[j]? = some v) : W.cell? ⟨b, j, none⟩ = some v := (blk_cell h j).trans hv
theorem ranges_blk {W : World} {b : Nat} {M : Array Value} {t : TypeId} (h : W.heap[b]? = some (.cells M t (0, 0))) : ranges W ⟨b, 0, none⟩ M.toList := by
  intro j v hv
  rw [Addr.add_mid, Nat.zero_add]
  exact cell_at h j (by simpa using hv)
theorem ranges_style {W : World} {b : Nat} {M : Array Value} {t : TypeId} (h : W.heap[b]? = some (.cells M t (0, 0))) : ranges W ⟨b, 5, none⟩ (M.extract 5 21).toList := by
  intro j v hv
  rw [Addr.add_mid]
  refine cell_at h (5 + j) ?_
  have : (M.extract 5 21)[j]? = some v := by rw [← Array.getElem?_toList]; exact hv
  rw [Array.getElem?_extract] at this
  split at this
  · exact this
  · cases this

/-- May a node have kids? -/
def holdB (x : Node) : Bool := decide (x.f1 = 1) || decide (x.f1 = 4)
theorem holder_any (x : Node) (M : Array Value) (hM : NodeC x M) (w : World) : Calls Tryd.prog 78 #[.agg M] w fun e w' => e = .returned (.bool (holdB x)) ∧ Below w.heap.size w w' := by
  have HB := Aside0.mk (below_alloc (Below.refl w.heap.size w) (.cells M 31))
  have hb := blk_new w (.cells M 31)
  have h1 := cell_at hb 1 hM.c1
  unfold holdB
  generalize x.f1 = k at *
  clear hb hM
  by_cases hk : k = 1
  · have hk' : (k == 1) = true := by simp [hk]
    go_enter Tryd.func78, Tryd.ntmps78
    go_wp2
    go_ret
    exact ⟨by simp [hk], HB.out⟩
  · have hk' : (k == 1) = false := by simp [hk]
    go_enter Tryd.func78, Tryd.ntmps78
    go_wp2
    go_ret
    exact ⟨by simp [hk]; rfl, HB.out⟩
end Go.Proofs.YtdphijhebppeeaaDoor.G
