/- Chapter 5: errors.As, errors.Is at the package's sentinels. Written by tmpl.py out of F1.tl. -/
import Derived.Test.YtdphijhebppeeaaDoorG0
import Derived.Test.YtdphijhebppeeaaDoorChecked
import Derived.LaidEql
import Derived.Stop.Asserts
import Derived.RowKitTokens
import Derived.WalkSpells
import Derived.Lib.Hide
namespace Go.Proofs.YtdphijhebppeeaaDoor.G
open Go.RowKit Go.Proofs.YtdphijhebppeeaaDoorW.PrintWords Go.Proofs.YtdphijhebppeeaaDoorW.PrintLast Go.Proofs.YtdphijhebppeeaaDoorW.PrintMore
open Go.Extern.Stop Go.Stop Go.Extern

theorem as_nil (t : Value) (w : World) :
    Calls Tryd.prog 47 #[.nilIface, t] w fun e w' => e = .returned (.bool false) ∧ w' = w := by
  go_enter Tryd.func47, Tryd.ntmps47
  go_wp2
  go_ret
  exact ⟨rfl, rfl⟩


theorem As.valueOf27 (t : Addr) (w : World) : (ReflectliteValue.unpack (.iface 108 (.pointer (some t)))).run Tryd.prog w
    = .ok (.agg #[.pointer (some ⟨5, 108, none⟩), .pointer (some ⟨w.heap.size, 0, none⟩), .int .u64 150]) (w.alloc (.cells #[.pointer (some t)] 108)) := by kernel_rfl
theorem As.type27 (a : Addr) (w : World) : (ReflectliteValue.methodAny (ReflectliteValue.valueError "reflectlite.Value.Type" 0) (fun t _ _ _ => ReflectliteType.toType t) #[.agg #[.pointer (some ⟨5, 108, none⟩), .pointer (some a), .int .u64 150]]).run Tryd.prog w
    = .ok (.iface 114 (.agg #[.pointer (some ⟨5, 108, none⟩)])) w := by kernel_rfl
theorem As.methodKind (h : Value) (w : World) : (Go.method 276 114 (.agg #[h]) "Kind").run Tryd.prog w = .ok (104, h) w := by kernel_rfl
theorem As.kind27 (w : World) : ((ReflectliteType.abiMethod fun t => (fun a : Nat => Value.int IntKind.u8 (a : Int)) <$> Rtype.kind t) #[.pointer (some ⟨5, 108, none⟩)]).run Tryd.prog w = .ok (.int .u8 22) w := by kernel_rfl
theorem As.kind25 (w : World) : ((ReflectliteType.abiMethod fun t => (fun a : Nat => Value.int IntKind.u8 (a : Int)) <$> Rtype.kind t) #[.pointer (some ⟨5, 90, none⟩)]).run Tryd.prog w = .ok (.int .u8 25) w := by kernel_rfl

theorem rlm (z : Sem Value) (f : TypeId → Addr → Nat → Nat → Sem Value) (v : Value) :
    ReflectliteValue.method z f #[v] = (do match ← ReflectliteValue.parts v with | none => z | some (t, a, fl) => f t a fl (fl % 32)) := rfl
theorem As.parts27 (a : Addr) (w : World) : (ReflectliteValue.parts (.agg #[.pointer (some ⟨5, 108, none⟩), .pointer (some a), .int .u64 150])).run Tryd.prog w = .ok (some (108, a, 150)) w := by kernel_rfl

theorem As.isNil27 (a p : Addr) (W : World) (ha : W.cell? a = some (.pointer (some p))) :
    (ReflectliteValue.method (ReflectliteValue.valueError "reflectlite.Value.IsNil" 0) ReflectliteValue.isNil #[.agg #[.pointer (some ⟨5, 108, none⟩), .pointer (some a), .int .u64 150]]).run Tryd.prog W = .ok (.bool false) W := by
  rw [rlm]
  simp only [Sem.run_bind, As.parts27, Result.andThen]
  simp [ReflectliteValue.isNil, loadVar, isAgg, underlying, Tryd.underlying108, ha, Result.andThen]

theorem As.methodElem (h : Value) (w : World) : (Go.method 276 114 (.agg #[h]) "Elem").run Tryd.prog w = .ok (116, .agg #[h]) w := by kernel_rfl
theorem As.methodImplements (h : Value) (w : World) : (Go.method 276 114 (.agg #[h]) "Implements").run Tryd.prog w = .ok (117, .agg #[h]) w := by kernel_rfl
theorem As.methodAssignableTo (h : Value) (w : World) : (Go.method 276 114 (.agg #[h]) "AssignableTo").run Tryd.prog w = .ok (114, .agg #[h]) w := by kernel_rfl
theorem As.elem27 (w : World) : (ReflectliteType.method ReflectliteType.elem #[.agg #[.pointer (some ⟨5, 108, none⟩)]]).run Tryd.prog w = .ok (.iface 114 (.agg #[.pointer (some ⟨5, 90, none⟩)])) w := by kernel_rfl
theorem As.implements25 (w : World) : (ReflectliteType.relation "Implements" ReflectliteType.implements_ #[.agg #[.pointer (some ⟨5, 90, none⟩)], .iface 114 (.agg #[.pointer (some ⟨5, 51, none⟩)])]).run Tryd.prog w = .ok (.bool true) w := by kernel_rfl
theorem As.typeOf25 (v : Value) (w : World) : (ReflectliteType.typeOf #[.iface 90 v]).run Tryd.prog w = .ok (.iface 114 (.agg #[.pointer (some ⟨5, 90, none⟩)])) w := by kernel_rfl
theorem As.assignable25 (w : World) : (ReflectliteType.relation "AssignableTo" ReflectliteType.assignableTo #[.agg #[.pointer (some ⟨5, 90, none⟩)], .iface 114 (.agg #[.pointer (some ⟨5, 90, none⟩)])]).run Tryd.prog w = .ok (.bool true) w := by kernel_rfl
theorem As.valueOf25 (n : Int) (s : Addr) (w : World) : (ReflectliteValue.unpack (.iface 90 (.agg #[.int .i64 n, .iface 142 (.pointer (some s))]))).run Tryd.prog w
    = .ok (.agg #[.pointer (some ⟨5, 90, none⟩), .pointer (some ⟨w.heap.size, 0, none⟩), .int .u64 153]) (w.alloc (.cells #[.int .i64 n, .iface 142 (.pointer (some s))] 90)) := by kernel_rfl
theorem As.elemOf27 (w : World) : (Rtype.elem? 108).run Tryd.prog w = .ok (some 90) w := by kernel_rfl
theorem As.mk25 (p : Addr) (w : World) : (ReflectliteValue.mk 90 p ReflectliteValue.flagAddr).run Tryd.prog w = .ok (.agg #[.pointer (some ⟨5, 90, none⟩), .pointer (some p), .int .u64 409]) w := by kernel_rfl
theorem As.elemV27 (a p : Addr) (W : World) (ha : W.cell? a = some (.pointer (some p))) :
    (ReflectliteValue.method (ReflectliteValue.valueError "reflectlite.Value.Elem" 0) ReflectliteValue.elem #[.agg #[.pointer (some ⟨5, 108, none⟩), .pointer (some a), .int .u64 150]]).run Tryd.prog W
      = .ok (.agg #[.pointer (some ⟨5, 90, none⟩), .pointer (some p), .int .u64 409]) W := by
  rw [rlm]
  simp only [Sem.run_bind, As.parts27, Result.andThen]
  simp [ReflectliteValue.elem, loadVar, isAgg, underlying, Tryd.underlying108, ha, Result.andThen, As.elemOf27, As.mk25]
theorem rls (v x : Value) : ReflectliteValue.set #[v, x] = (do
    let (some (dst, a, fl), some (src, b, _)) := (← ReflectliteValue.parts v, ← ReflectliteValue.parts x)
      | unsupported (.noEntry "extern/(internal/reflectlite.Value).Set.zeroValue")
    if fl / ReflectliteValue.flagAddr % 2 == 0 then unsupported (.noEntry "extern/(internal/reflectlite.Value).Set.unaddressable")
    let val ← loadVar src b
    if ← Rtype.directlyAssignable dst src then storeVar dst a val
    else if ← Rtype.implements dst src then
      if (← Rtype.kind src) == 20 then
        match val with
        | .nilIface => unsupported (.noEntry "extern/reflectlite: a nil value of one interface type handed on as a value of another")
        | _ => storeVar dst a val
      else storeVar dst a (.iface src val)
    else panicString ("reflectlite.Set: value of type " ++ (← Rtype.spelt src) ++ " is not assignable to type " ++ (← Rtype.spelt dst))
    pure (.tuple #[])) := rfl
theorem As.parts25a (a : Addr) (w : World) : (ReflectliteValue.parts (.agg #[.pointer (some ⟨5, 90, none⟩), .pointer (some a), .int .u64 409])).run Tryd.prog w = .ok (some (90, a, 409)) w := by kernel_rfl
theorem As.parts25 (a : Addr) (w : World) : (ReflectliteValue.parts (.agg #[.pointer (some ⟨5, 90, none⟩), .pointer (some a), .int .u64 153])).run Tryd.prog w = .ok (some (90, a, 153)) w := by kernel_rfl
theorem As.direct25 (w : World) : (Rtype.directlyAssignable 90 90).run Tryd.prog w = .ok true w := by kernel_rfl

theorem As.load67 (b : Addr) (n : Int) (s : Addr) (W : World) (hb0 : W.cell? (b.add 0) = some (.int .i64 n)) (hb1 : W.cell? (b.add 1) = some (.iface 142 (.pointer (some s)))) : (loadVar 90 b).run Tryd.prog W = .ok (.agg #[.int .i64 n, .iface 142 (.pointer (some s))]) W := by
  simp [loadVar, isAgg, underlying, Tryd.underlying90, loadCells, loadCellsFrom, Result.andThen, hb0, hb1]
theorem As.size67 : (Tryd.prog.info? 90).map (·.size) = some 2 := by kernel_rfl
theorem As.store67 (g : Nat) (n : Int) (s : Addr) (o0 o1 : Value) (W : World) (hr : W.heap[g]? = some (.cells #[o0, o1] 90 (0, 0))) :
    (storeVar 90 ⟨g, 0, none⟩ (.agg #[.int .i64 n, .iface 142 (.pointer (some s))])).run Tryd.prog W = .ok () (W.setRow g #[.int .i64 n, .iface 142 (.pointer (some s))]) := by
  have h := run_storeCells_at (P := Tryd.prog) g 0 90 [.int .i64 n, .iface 142 (.pointer (some s))] 0 #[o0, o1] W hr (by simp) (by simp [Value.oneCell'])
  obtain ⟨i, hi, his⟩ := Option.map_eq_some_iff.1 As.size67
  simp [storeVar, Value.cells, sizeOf, typeInfo, hi, his, Result.andThen]
  simpa using h
theorem As.set25 (g : Nat) (b : Addr) (n : Int) (s : Addr) (o0 o1 : Value) (W : World) (hb0 : W.cell? (b.add 0) = some (.int .i64 n)) (hb1 : W.cell? (b.add 1) = some (.iface 142 (.pointer (some s)))) (hr : W.heap[g]? = some (.cells #[o0, o1] 90 (0, 0))) :
    (ReflectliteValue.set #[.agg #[.pointer (some ⟨5, 90, none⟩), .pointer (some ⟨g, 0, none⟩), .int .u64 409], .agg #[.pointer (some ⟨5, 90, none⟩), .pointer (some b), .int .u64 153]]).run Tryd.prog W
      = .ok (.tuple #[]) (W.setRow g #[.int .i64 n, .iface 142 (.pointer (some s))]) := by
  rw [rls]
  simp only [Sem.run_bind, As.parts25a, As.parts25, Result.andThen]
  simp [ReflectliteValue.flagAddr, As.load67 b n s W hb0 hb1, Result.andThen, As.direct25, As.store67 g n s o0 o1 W hr]

set_option maxHeartbeats 4000000 in
theorem as_hit (n : Int) (s : Addr) (g : Nat) (o0 o1 : Value) (w : World) (hg : w.cell? ⟨1, 0, none⟩ = some (.iface 114 (.agg #[.pointer (some ⟨5, 51, none⟩)]))) (hr : w.heap[g]? = some (.cells #[o0, o1] 90 (0, 0))) :
    Calls Tryd.prog 47 #[.iface 90 (.agg #[.int .i64 n, .iface 142 (.pointer (some s))]), .iface 108 (.pointer (some ⟨g, 0, none⟩))] w fun ev w' => ev = .returned (.bool true) ∧ w' = ((((w.alloc (.cells #[.pointer (some ⟨g, 0, none⟩)] 108)).alloc (.cells #[.pointer (some ⟨5, 108, none⟩), .pointer (some ⟨w.heap.size, 0, none⟩), .int .u64 150] 97)).alloc (.cells #[.pointer (some ⟨5, 108, none⟩), .pointer (some ⟨w.heap.size, 0, none⟩), .int .u64 150] 97)).alloc (.cells #[.int .i64 n, .iface 142 (.pointer (some s))] 90)).setRow g #[.int .i64 n, .iface 142 (.pointer (some s))] := by
  have h6 := @run_callFunc_extern Tryd.prog 57 _ (fun args => ReflectliteValue.unpack (args.getD 0 (.tuple #[]))) Tryd.func57 (by kernel_rfl) (by kernel_rfl) (by kernel_rfl) (by kernel_rfl)
  have h7 := @run_callFunc_extern Tryd.prog 58 _ (ReflectliteValue.methodAny (ReflectliteValue.valueError "reflectlite.Value.Type" 0) (fun t _ _ _ => ReflectliteType.toType t)) Tryd.func58 (by kernel_rfl) (by kernel_rfl) (by kernel_rfl) (by kernel_rfl)
  have h8 := @run_callFunc_extern Tryd.prog 59 _ (ReflectliteValue.method (ReflectliteValue.valueError "reflectlite.Value.IsNil" 0) ReflectliteValue.isNil) Tryd.func59 (by kernel_rfl) (by kernel_rfl) (by kernel_rfl) (by kernel_rfl)
  have h27 := @run_callFunc_extern Tryd.prog 104 _ (ReflectliteType.abiMethod fun t => do pure (.int .u8 (← Rtype.kind t))) Tryd.func104 (by kernel_rfl) (by kernel_rfl) (by kernel_rfl) (by kernel_rfl)
  have h37 := @run_callFunc_extern Tryd.prog 116 _ (ReflectliteType.method ReflectliteType.elem) Tryd.func116 (by kernel_rfl) (by kernel_rfl) (by kernel_rfl) (by kernel_rfl)
  have h38 := @run_callFunc_extern Tryd.prog 117 _ (ReflectliteType.relation "Implements" ReflectliteType.implements_) Tryd.func117 (by kernel_rfl) (by kernel_rfl) (by kernel_rfl) (by kernel_rfl)
  have h10 := @run_callFunc_extern Tryd.prog 74 _ ReflectliteType.typeOf Tryd.func74 (by kernel_rfl) (by kernel_rfl) (by kernel_rfl) (by kernel_rfl)
  have h35 := @run_callFunc_extern Tryd.prog 114 _ (ReflectliteType.relation "AssignableTo" ReflectliteType.assignableTo) Tryd.func114 (by kernel_rfl) (by kernel_rfl) (by kernel_rfl) (by kernel_rfl)
  have h11 := @run_callFunc_extern Tryd.prog 75 _ (ReflectliteValue.method (ReflectliteValue.valueError "reflectlite.Value.Elem" 0) ReflectliteValue.elem) Tryd.func75 (by kernel_rfl) (by kernel_rfl) (by kernel_rfl) (by kernel_rfl)
  have h12 := @run_callFunc_extern Tryd.prog 76 _ ReflectliteValue.set Tryd.func76 (by kernel_rfl) (by kernel_rfl) (by kernel_rfl) (by kernel_rfl)
  have tO := As.typeOf25
  have mA := As.methodAssignableTo
  have a25 := As.assignable25
  have v25 := As.valueOf25
  have f6 := As.valueOf27
  have f7 := As.type27
  have mK := As.methodKind
  have mE := As.methodElem
  have mI := As.methodImplements
  have k27 := As.kind27
  have k25 := As.kind25
  have e27 := As.elem27
  have i25 := As.implements25
  have n8 := As.isNil27 ⟨w.heap.size, 0, none⟩ ⟨g, 0, none⟩ ((w.alloc (.cells #[.pointer (some ⟨g, 0, none⟩)] 108)).alloc (.cells #[.pointer (some ⟨5, 108, none⟩), .pointer (some ⟨w.heap.size, 0, none⟩), .int .u64 150] 97)) (by simp)
  have hlt : 1 < w.heap.size := by
    rcases Nat.lt_or_ge 1 w.heap.size with h | h
    · exact h
    · simp [World.cell?, Array.getElem?_eq_none h] at hg
  have hg2 : ((w.alloc (.cells #[.pointer (some ⟨g, 0, none⟩)] 108)).alloc (.cells #[.pointer (some ⟨5, 108, none⟩), .pointer (some ⟨w.heap.size, 0, none⟩), .int .u64 150] 97)).cell? ⟨1, 0, none⟩ = some (.iface 114 (.agg #[.pointer (some ⟨5, 51, none⟩)])) := by
    rw [World.cell?_alloc_lt _ _ ⟨1, 0, none⟩ (by simp; omega), World.cell?_alloc_lt _ _ ⟨1, 0, none⟩ hlt]; exact hg
  have htl : g < w.heap.size := by
    rcases Nat.lt_or_ge g w.heap.size with h | h
    · exact h
    · simp [Array.getElem?_eq_none h] at hr
  have el := As.elemV27 ⟨w.heap.size, 0, none⟩ ⟨g, 0, none⟩ (((w.alloc (.cells #[.pointer (some ⟨g, 0, none⟩)] 108)).alloc (.cells #[.pointer (some ⟨5, 108, none⟩), .pointer (some ⟨w.heap.size, 0, none⟩), .int .u64 150] 97)).alloc (.cells #[.pointer (some ⟨5, 108, none⟩), .pointer (some ⟨w.heap.size, 0, none⟩), .int .u64 150] 97)) (by rw [World.cell?_alloc_lt _ _ ⟨w.heap.size, 0, none⟩ (by simp; omega)]; simp)
  have st := As.set25 g ⟨w.heap.size + 1 + 1 + 1, 0, none⟩ n s o0 o1 ((((w.alloc (.cells #[.pointer (some ⟨g, 0, none⟩)] 108)).alloc (.cells #[.pointer (some ⟨5, 108, none⟩), .pointer (some ⟨w.heap.size, 0, none⟩), .int .u64 150] 97)).alloc (.cells #[.pointer (some ⟨5, 108, none⟩), .pointer (some ⟨w.heap.size, 0, none⟩), .int .u64 150] 97)).alloc (.cells #[.int .i64 n, .iface 142 (.pointer (some s))] 90))
    (by show World.cell? _ ⟨_, 0 + 0, none⟩ = _; rw [World.cell?_alloc_at _ _ _ _ (by simp)]; rfl)
    (by show World.cell? _ ⟨_, 0 + 1, none⟩ = _; rw [World.cell?_alloc_at _ _ _ _ (by simp)]; rfl)
    (by rw [Below.heap_alloc _ _ _ (by simp; omega), Below.heap_alloc _ _ _ (by simp; omega), Below.heap_alloc _ _ _ (by simp; omega), Below.heap_alloc _ _ _ htl]; exact hr)
  go_enter Tryd.func47, Tryd.ntmps47
  go_wp2
  refine wp_loop_rounds 1 ?_
  rw [rounds_succ]
  go_wp2
  go_ret
  exact ⟨rfl, rfl⟩

theorem isTypeOf (v : Value) (w : World) : (callFunc 74 #[.iface 142 v]).run Tryd.prog w = .ok (.value (.iface 114 (.agg #[.pointer (some ⟨5, 142, none⟩)]))) w := by kernel_rfl
theorem isComparable (w : World) : (callFunc 115 #[.agg #[.pointer (some ⟨5, 142, none⟩)]]).run Tryd.prog w = .ok (.value (.bool true)) w := by kernel_rfl
theorem isMethodComparable (v : Value) (w : World) : (Go.method 276 114 v "Comparable").run Tryd.prog w = .ok (115, v) w := by kernel_rfl
theorem isComp : (Tryd.prog.info? 142).map (·.comparable) = some true := by kernel_rfl
theorem isSize : (Tryd.prog.info? 164).map (·.size) = some 1 := by kernel_rfl
theorem noIs (v : Value) (xT : TypeId) (w : World) : (Instr.typeAssert (.iface 142 v) xT 137 true).run Tryd.prog w = .ok (.tuple #[.nilIface, .bool false]) w := run_typeAssert_lacksB Tryd.underlying137 (by kernel_rfl) (by kernel_rfl) v xT w
theorem noUnwrap (v : Value) (xT : TypeId) (w : World) : (Instr.typeAssert (.iface 142 v) xT 122 true).run Tryd.prog w = .ok (.tuple #[.nilIface, .bool false]) w := run_typeAssert_lacksB Tryd.underlying122 (by kernel_rfl) (by kernel_rfl) v xT w
theorem noUnwraps (v : Value) (xT : TypeId) (w : World) : (Instr.typeAssert (.iface 142 v) xT 124 true).run Tryd.prog w = .ok (.tuple #[.nilIface, .bool false]) w := run_typeAssert_lacksB Tryd.underlying124 (by kernel_rfl) (by kernel_rfl) v xT w
theorem noIsW (v : Value) (xT : TypeId) (w : World) : (Instr.typeAssert (.iface 90 v) xT 137 true).run Tryd.prog w = .ok (.tuple #[.nilIface, .bool false]) w := run_typeAssert_lacksB Tryd.underlying137 (by kernel_rfl) (by kernel_rfl) v xT w
theorem hasUnwrap (v : Value) (xT : TypeId) (w : World) : (Instr.typeAssert (.iface 90 v) xT 122 true).run Tryd.prog w = .ok (.tuple #[.iface 90 v, .bool true]) w := run_typeAssert_hasB Tryd.underlying122 (by kernel_rfl) v xT w
theorem methodUnwrap (v : Value) (w : World) : (Go.method 276 90 v "Unwrap").run Tryd.prog w = .ok (109, v) w := by kernel_rfl
theorem unwrap_any (n : Int) (s : Addr) (w : World) : Calls Tryd.prog 109 #[.agg #[.int .i64 n, .iface 142 (.pointer (some s))]] w fun e w' => e = .returned (.iface 142 (.pointer (some s))) ∧ w' = w.alloc (.cells #[.int .i64 n, .iface 142 (.pointer (some s))] 90) := by
  go_enter Tryd.func109, Tryd.ntmps109
  go_wp2
  go_ret
  exact ⟨rfl, rfl⟩

set_option maxHeartbeats 1000000 in
set_option maxRecDepth 100000 in
theorem isW_same (n : Int) (a : Addr) (w : World) :
    Calls Tryd.prog 82 #[.iface 90 (.agg #[.int .i64 n, .iface 142 (.pointer (some a))]), .iface 142 (.pointer (some a)), .bool true] w fun e w' => e = .returned (.bool true) ∧ Below w.heap.size w w' := by
  obtain ⟨i, hi, hcmp⟩ := Option.map_eq_some_iff.1 isComp
  obtain ⟨j, hj, hjs⟩ := Option.map_eq_some_iff.1 isSize
  have heq0 := fun w => run_eql_iface_types (P := Tryd.prog) 90 142 (.agg #[.int .i64 n, .iface 142 (.pointer (some a))]) (.pointer (some a)) Tryd.underlying51 (by decide) w
  have heq := fun w => run_eql_iface_ptr_same (P := Tryd.prog) w a Tryd.underlying51 Tryd.underlying142 hi hcmp hj
  have n1 := noIsW
  have n2 := hasUnwrap
  have mU := methodUnwrap
  go_enter Tryd.func82, Tryd.ntmps82
  go_wp2
  refine wp_loop_rounds 2 ?_
  rw [rounds_succ]
  go_wp2_with (go_at_call 109; refine (unwrap_any _ _ _).mono ?_; rintro e w' ⟨rfl, rfl⟩)
  rw [rounds_succ]
  go_wp2
  go_ret
  exact ⟨rfl, below_alloc (Below.refl _ _) _⟩
end Go.Proofs.YtdphijhebppeeaaDoor.G
