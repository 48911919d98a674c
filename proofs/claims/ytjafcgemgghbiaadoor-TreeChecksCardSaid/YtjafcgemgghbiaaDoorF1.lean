/- Chapter 5: errors.As, errors.Is at the package's sentinels. Written by tmpl.py out of F1.tl. -/
import Derived.Test.YtjafcgemgghbiaaDoorG0
import Derived.Test.YtjafcgemgghbiaaDoorChecked
import Derived.LaidEql
import Derived.Stop.Asserts
import Derived.RowKitTokens
import Derived.WalkSpells
import Derived.Lib.Hide
namespace Go.Proofs.YtjafcgemgghbiaaDoor.G
open Go.RowKit Go.Proofs.YtjafcgemgghbiaaDoorW.PrintWords Go.Proofs.YtjafcgemgghbiaaDoorW.PrintLast Go.Proofs.YtjafcgemgghbiaaDoorW.PrintMore
open Go.Extern.Stop Go.Stop Go.Extern

theorem as_nil (t : Value) (w : World) :
    Calls Tryd.prog 48 #[.nilIface, t] w fun e w' => e = .returned (.bool false) ∧ w' = w := by
  go_enter Tryd.func48, Tryd.ntmps48
  go_wp2
  go_ret
  exact ⟨rfl, rfl⟩


theorem As.valueOf27 (t : Addr) (w : World) : (ReflectliteValue.unpack (.iface 76 (.pointer (some t)))).run Tryd.prog w
    = .ok (.agg #[.pointer (some ⟨5, 76, none⟩), .pointer (some ⟨w.heap.size, 0, none⟩), .int .u64 150]) (w.alloc (.cells #[.pointer (some t)] 76)) := by kernel_rfl
theorem As.type27 (a : Addr) (w : World) : (ReflectliteValue.methodAny (ReflectliteValue.valueError "reflectlite.Value.Type" 0) (fun t _ _ _ => ReflectliteType.toType t) #[.agg #[.pointer (some ⟨5, 76, none⟩), .pointer (some a), .int .u64 150]]).run Tryd.prog w
    = .ok (.iface 99 (.agg #[.pointer (some ⟨5, 76, none⟩)])) w := by kernel_rfl
theorem As.methodKind (h : Value) (w : World) : (Go.method 248 99 (.agg #[h]) "Kind").run Tryd.prog w = .ok (83, h) w := by kernel_rfl
theorem As.kind27 (w : World) : ((ReflectliteType.abiMethod fun t => (fun a : Nat => Value.int IntKind.u8 (a : Int)) <$> Rtype.kind t) #[.pointer (some ⟨5, 76, none⟩)]).run Tryd.prog w = .ok (.int .u8 22) w := by kernel_rfl
theorem As.kind25 (w : World) : ((ReflectliteType.abiMethod fun t => (fun a : Nat => Value.int IntKind.u8 (a : Int)) <$> Rtype.kind t) #[.pointer (some ⟨5, 68, none⟩)]).run Tryd.prog w = .ok (.int .u8 25) w := by kernel_rfl

theorem rlm (z : Sem Value) (f : TypeId → Addr → Nat → Nat → Sem Value) (v : Value) :
    ReflectliteValue.method z f #[v] = (do match ← ReflectliteValue.parts v with | none => z | some (t, a, fl) => f t a fl (fl % 32)) := rfl
theorem As.parts27 (a : Addr) (w : World) : (ReflectliteValue.parts (.agg #[.pointer (some ⟨5, 76, none⟩), .pointer (some a), .int .u64 150])).run Tryd.prog w = .ok (some (76, a, 150)) w := by kernel_rfl

theorem As.isNil27 (a p : Addr) (W : World) (ha : W.cell? a = some (.pointer (some p))) :
    (ReflectliteValue.method (ReflectliteValue.valueError "reflectlite.Value.IsNil" 0) ReflectliteValue.isNil #[.agg #[.pointer (some ⟨5, 76, none⟩), .pointer (some a), .int .u64 150]]).run Tryd.prog W = .ok (.bool false) W := by
  rw [rlm]
  simp only [Sem.run_bind, As.parts27, Result.andThen]
  simp [ReflectliteValue.isNil, loadVar, isAgg, underlying, Tryd.underlying76, ha, Result.andThen]

theorem As.methodElem (h : Value) (w : World) : (Go.method 248 99 (.agg #[h]) "Elem").run Tryd.prog w = .ok (94, .agg #[h]) w := by kernel_rfl
theorem As.methodImplements (h : Value) (w : World) : (Go.method 248 99 (.agg #[h]) "Implements").run Tryd.prog w = .ok (95, .agg #[h]) w := by kernel_rfl
theorem As.methodAssignableTo (h : Value) (w : World) : (Go.method 248 99 (.agg #[h]) "AssignableTo").run Tryd.prog w = .ok (92, .agg #[h]) w := by kernel_rfl
theorem As.elem27 (w : World) : (ReflectliteType.method ReflectliteType.elem #[.agg #[.pointer (some ⟨5, 76, none⟩)]]).run Tryd.prog w = .ok (.iface 99 (.agg #[.pointer (some ⟨5, 68, none⟩)])) w := by kernel_rfl
theorem As.implements25 (w : World) : (ReflectliteType.relation "Implements" ReflectliteType.implements_ #[.agg #[.pointer (some ⟨5, 68, none⟩)], .iface 99 (.agg #[.pointer (some ⟨5, 48, none⟩)])]).run Tryd.prog w = .ok (.bool true) w := by kernel_rfl
theorem As.typeOf25 (v : Value) (w : World) : (ReflectliteType.typeOf #[.iface 68 v]).run Tryd.prog w = .ok (.iface 99 (.agg #[.pointer (some ⟨5, 68, none⟩)])) w := by kernel_rfl
theorem As.assignable25 (w : World) : (ReflectliteType.relation "AssignableTo" ReflectliteType.assignableTo #[.agg #[.pointer (some ⟨5, 68, none⟩)], .iface 99 (.agg #[.pointer (some ⟨5, 68, none⟩)])]).run Tryd.prog w = .ok (.bool true) w := by kernel_rfl
theorem As.valueOf25 (n : Int) (s : Addr) (w : World) : (ReflectliteValue.unpack (.iface 68 (.agg #[.int .i64 n, .iface 114 (.pointer (some s))]))).run Tryd.prog w
    = .ok (.agg #[.pointer (some ⟨5, 68, none⟩), .pointer (some ⟨w.heap.size, 0, none⟩), .int .u64 153]) (w.alloc (.cells #[.int .i64 n, .iface 114 (.pointer (some s))] 68)) := by kernel_rfl
theorem As.elemOf27 (w : World) : (Rtype.elem? 76).run Tryd.prog w = .ok (some 68) w := by kernel_rfl
theorem As.mk25 (p : Addr) (w : World) : (ReflectliteValue.mk 68 p ReflectliteValue.flagAddr).run Tryd.prog w = .ok (.agg #[.pointer (some ⟨5, 68, none⟩), .pointer (some p), .int .u64 409]) w := by kernel_rfl
theorem As.elemV27 (a p : Addr) (W : World) (ha : W.cell? a = some (.pointer (some p))) :
    (ReflectliteValue.method (ReflectliteValue.valueError "reflectlite.Value.Elem" 0) ReflectliteValue.elem #[.agg #[.pointer (some ⟨5, 76, none⟩), .pointer (some a), .int .u64 150]]).run Tryd.prog W
      = .ok (.agg #[.pointer (some ⟨5, 68, none⟩), .pointer (some p), .int .u64 409]) W := by
  rw [rlm]
  simp only [Sem.run_bind, As.parts27, Result.andThen]
  simp [ReflectliteValue.elem, loadVar, isAgg, underlying, Tryd.underlying76, ha, Result.andThen, As.elemOf27, As.mk25]
theorem rls (v x : Value) : ReflectliteValue.set #[v, x] = (do
    let (some (dst, a, fl), some (src, b, _)) := (← ReflectliteValue.parts v, ← ReflectliteValue.parts x)
      | unsupported (.noEntry "extern/(internal/reflectlite.Value).Set.zeroValue")
    if fl / ReflectliteValue.flagAddr % 2 == 0 then unsupported (.noEntry "extern/(internal/reflectlite.Value).Set.unaddressable")
    let val ← loadVar src b
    if ← Rtype.directlyAssignable dst src then storeVar dst a val
    else if ← Rtype.implements dst src then
      if (← Rtype.kind src) == 20 then
        match val with
        | .nilIface => unsupported (.noEntry "extern/reflectlite: a nil value of one interface type handed on as a value of another")
        | _ => storeVar dst a val
      else storeVar dst a (.iface src val)
    else panicString ("reflectlite.Set: value of type " ++ (← Rtype.spelt src) ++ " is not assignable to type " ++ (← Rtype.spelt dst))
    pure (.tuple #[])) := rfl
theorem As.parts25a (a : Addr) (w : World) : (ReflectliteValue.parts (.agg #[.pointer (some ⟨5, 68, none⟩), .pointer (some a), .int .u64 409])).run Tryd.prog w = .ok (some (68, a, 409)) w := by kernel_rfl
theorem As.parts25 (a : Addr) (w : World) : (ReflectliteValue.parts (.agg #[.pointer (some ⟨5, 68, none⟩), .pointer (some a), .int .u64 153])).run Tryd.prog w = .ok (some (68, a, 153)) w := by kernel_rfl
theorem As.direct25 (w : World) : (Rtype.directlyAssignable 68 68).run Tryd.prog w = .ok true w := by kernel_rfl

theorem As.load67 (b : Addr) (n : Int) (s : Addr) (W : World) (hb0 : W.cell? (b.add 0) = some (.int .i64 n)) (hb1 : W.cell? (b.add 1) = some (.iface 114 (.pointer (some s)))) : (loadVar 68 b).run Tryd.prog W = .ok (.agg #[.int .i64 n, .iface 114 (.pointer (some s))]) W := by
  simp [loadVar, isAgg, underlying, Tryd.underlying68, loadCells, loadCellsFrom, Result.andThen, hb0, hb1]
theorem As.size67 : (Tryd.prog.info? 68).map (·.size) = some 2 := by kernel_rfl
theorem As.store67 (g : Nat) (n : Int) (s : Addr) (o0 o1 : Value) (W : World) (hr : W.heap[g]? = some (.cells #[o0, o1] 68 (0, 0))) :
    (storeVar 68 ⟨g, 0, none⟩ (.agg #[.int .i64 n, .iface 114 (.pointer (some s))])).run Tryd.prog W = .ok () (W.setRow g #[.int .i64 n, .iface 114 (.pointer (some s))]) := by
  have h := run_storeCells_at (P := Tryd.prog) g 0 68 [.int .i64 n, .iface 114 (.pointer (some s))] 0 #[o0, o1] W hr (by simp) (by simp [Value.oneCell'])
  obtain ⟨i, hi, his⟩ := Option.map_eq_some_iff.1 As.size67
  simp [storeVar, Value.cells, sizeOf, typeInfo, hi, his, Result.andThen]
  simpa using h
theorem As.set25 (g : Nat) (b : Addr) (n : Int) (s : Addr) (o0 o1 : Value) (W : World) (hb0 : W.cell? (b.add 0) = some (.int .i64 n)) (hb1 : W.cell? (b.add 1) = some (.iface 114 (.pointer (some s)))) (hr : W.heap[g]? = some (.cells #[o0, o1] 68 (0, 0))) :
    (ReflectliteValue.set #[.agg #[.pointer (some ⟨5, 68, none⟩), .pointer (some ⟨g, 0, none⟩), .int .u64 409], .agg #[.pointer (some ⟨5, 68, none⟩), .pointer (some b), .int .u64 153]]).run Tryd.prog W
      = .ok (.tuple #[]) (W.setRow g #[.int .i64 n, .iface 114 (.pointer (some s))]) := by
  rw [rls]
  simp only [Sem.run_bind, As.parts25a, As.parts25, Result.andThen]
  simp [ReflectliteValue.flagAddr, As.load67 b n s W hb0 hb1, Result.andThen, As.direct25, As.store67 g n s o0 o1 W hr]

set_option maxHeartbeats 4000000 in
theorem as_hit (n : Int) (s : Addr) (g : Nat) (o0 o1 : Value) (w : World) (hg : w.cell? ⟨4, 0, none⟩ = some (.iface 99 (.agg #[.pointer (some ⟨5, 48, none⟩)]))) (hr : w.heap[g]? = some (.cells #[o0, o1] 68 (0, 0))) :
    Calls Tryd.prog 48 #[.iface 68 (.agg #[.int .i64 n, .iface 114 (.pointer (some s))]), .iface 76 (.pointer (some ⟨g, 0, none⟩))] w fun ev w' => ev = .returned (.bool true) ∧ w' = ((((w.alloc (.cells #[.pointer (some ⟨g, 0, none⟩)] 76)).alloc (.cells #[.pointer (some ⟨5, 76, none⟩), .pointer (some ⟨w.heap.size, 0, none⟩), .int .u64 150] 87)).alloc (.cells #[.pointer (some ⟨5, 76, none⟩), .pointer (some ⟨w.heap.size, 0, none⟩), .int .u64 150] 87)).alloc (.cells #[.int .i64 n, .iface 114 (.pointer (some s))] 68)).setRow g #[.int .i64 n, .iface 114 (.pointer (some s))] := by
  have h6 := @run_callFunc_extern Tryd.prog 59 _ (fun args => ReflectliteValue.unpack (args.getD 0 (.tuple #[]))) Tryd.func59 (by kernel_rfl) (by kernel_rfl) (by kernel_rfl) (by kernel_rfl)
  have h7 := @run_callFunc_extern Tryd.prog 60 _ (ReflectliteValue.methodAny (ReflectliteValue.valueError "reflectlite.Value.Type" 0) (fun t _ _ _ => ReflectliteType.toType t)) Tryd.func60 (by kernel_rfl) (by kernel_rfl) (by kernel_rfl) (by kernel_rfl)
  have h8 := @run_callFunc_extern Tryd.prog 61 _ (ReflectliteValue.method (ReflectliteValue.valueError "reflectlite.Value.IsNil" 0) ReflectliteValue.isNil) Tryd.func61 (by kernel_rfl) (by kernel_rfl) (by kernel_rfl) (by kernel_rfl)
  have h27 := @run_callFunc_extern Tryd.prog 83 _ (ReflectliteType.abiMethod fun t => do pure (.int .u8 (← Rtype.kind t))) Tryd.func83 (by kernel_rfl) (by kernel_rfl) (by kernel_rfl) (by kernel_rfl)
  have h37 := @run_callFunc_extern Tryd.prog 94 _ (ReflectliteType.method ReflectliteType.elem) Tryd.func94 (by kernel_rfl) (by kernel_rfl) (by kernel_rfl) (by kernel_rfl)
  have h38 := @run_callFunc_extern Tryd.prog 95 _ (ReflectliteType.relation "Implements" ReflectliteType.implements_) Tryd.func95 (by kernel_rfl) (by kernel_rfl) (by kernel_rfl) (by kernel_rfl)
  have h10 := @run_callFunc_extern Tryd.prog 63 _ ReflectliteType.typeOf Tryd.func63 (by kernel_rfl) (by kernel_rfl) (by kernel_rfl) (by kernel_rfl)
  have h35 := @run_callFunc_extern Tryd.prog 92 _ (ReflectliteType.relation "AssignableTo" ReflectliteType.assignableTo) Tryd.func92 (by kernel_rfl) (by kernel_rfl) (by kernel_rfl) (by kernel_rfl)
  have h11 := @run_callFunc_extern Tryd.prog 67 _ (ReflectliteValue.method (ReflectliteValue.valueError "reflectlite.Value.Elem" 0) ReflectliteValue.elem) Tryd.func67 (by kernel_rfl) (by kernel_rfl) (by kernel_rfl) (by kernel_rfl)
  have h12 := @run_callFunc_extern Tryd.prog 68 _ ReflectliteValue.set Tryd.func68 (by kernel_rfl) (by kernel_rfl) (by kernel_rfl) (by kernel_rfl)
  have tO := As.typeOf25
  have mA := As.methodAssignableTo
  have a25 := As.assignable25
  have v25 := As.valueOf25
  have f6 := As.valueOf27
  have f7 := As.type27
  have mK := As.methodKind
  have mE := As.methodElem
  have mI := As.methodImplements
  have k27 := As.kind27
  have k25 := As.kind25
  have e27 := As.elem27
  have i25 := As.implements25
  have n8 := As.isNil27 ⟨w.heap.size, 0, none⟩ ⟨g, 0, none⟩ ((w.alloc (.cells #[.pointer (some ⟨g, 0, none⟩)] 76)).alloc (.cells #[.pointer (some ⟨5, 76, none⟩), .pointer (some ⟨w.heap.size, 0, none⟩), .int .u64 150] 87)) (by simp)
  have hlt : 4 < w.heap.size := by
    rcases Nat.lt_or_ge 4 w.heap.size with h | h
    · exact h
    · simp [World.cell?, Array.getElem?_eq_none h] at hg
  have hg2 : ((w.alloc (.cells #[.pointer (some ⟨g, 0, none⟩)] 76)).alloc (.cells #[.pointer (some ⟨5, 76, none⟩), .pointer (some ⟨w.heap.size, 0, none⟩), .int .u64 150] 87)).cell? ⟨4, 0, none⟩ = some (.iface 99 (.agg #[.pointer (some ⟨5, 48, none⟩)])) := by
    rw [World.cell?_alloc_lt _ _ ⟨4, 0, none⟩ (by simp; omega), World.cell?_alloc_lt _ _ ⟨4, 0, none⟩ hlt]; exact hg
  have htl : g < w.heap.size := by
    rcases Nat.lt_or_ge g w.heap.size with h | h
    · exact h
    · simp [Array.getElem?_eq_none h] at hr
  have el := As.elemV27 ⟨w.heap.size, 0, none⟩ ⟨g, 0, none⟩ (((w.alloc (.cells #[.pointer (some ⟨g, 0, none⟩)] 76)).alloc (.cells #[.pointer (some ⟨5, 76, none⟩), .pointer (some ⟨w.heap.size, 0, none⟩), .int .u64 150] 87)).alloc (.cells #[.pointer (some ⟨5, 76, none⟩), .pointer (some ⟨w.heap.size, 0, none⟩), .int .u64 150] 87)) (by rw [World.cell?_alloc_lt _ _ ⟨w.heap.size, 0, none⟩ (by simp; omega)]; simp)
  have st := As.set25 g ⟨w.heap.size + 1 + 1 + 1, 0, none⟩ n s o0 o1 ((((w.alloc (.cells #[.pointer (some ⟨g, 0, none⟩)] 76)).alloc (.cells #[.pointer (some ⟨5, 76, none⟩), .pointer (some ⟨w.heap.size, 0, none⟩), .int .u64 150] 87)).alloc (.cells #[.pointer (some ⟨5, 76, none⟩), .pointer (some ⟨w.heap.size, 0, none⟩), .int .u64 150] 87)).alloc (.cells #[.int .i64 n, .iface 114 (.pointer (some s))] 68))
    (by show World.cell? _ ⟨_, 0 + 0, none⟩ = _; rw [World.cell?_alloc_at _ _ _ _ (by simp)]; rfl)
    (by show World.cell? _ ⟨_, 0 + 1, none⟩ = _; rw [World.cell?_alloc_at _ _ _ _ (by simp)]; rfl)
    (by rw [Below.heap_alloc _ _ _ (by simp; omega), Below.heap_alloc _ _ _ (by simp; omega), Below.heap_alloc _ _ _ (by simp; omega), Below.heap_alloc _ _ _ htl]; exact hr)
  go_enter Tryd.func48, Tryd.ntmps48
  go_wp2
  refine wp_loop_rounds 1 ?_
  rw [rounds_succ]
  go_wp2
  go_ret
  exact ⟨rfl, rfl⟩

theorem isTypeOf (v : Value) (w : World) : (callFunc 63 #[.iface 114 v]).run Tryd.prog w = .ok (.value (.iface 99 (.agg #[.pointer (some ⟨5, 114, none⟩)]))) w := by kernel_rfl
theorem isComparable (w : World) : (callFunc 93 #[.agg #[.pointer (some ⟨5, 114, none⟩)]]).run Tryd.prog w = .ok (.value (.bool true)) w := by kernel_rfl
theorem isMethodComparable (v : Value) (w : World) : (Go.method 248 99 v "Comparable").run Tryd.prog w = .ok (93, v) w := by kernel_rfl
theorem isComp : (Tryd.prog.info? 114).map (·.comparable) = some true := by kernel_rfl
theorem isSize : (Tryd.prog.info? 136).map (·.size) = some 1 := by kernel_rfl
theorem noIs (v : Value) (xT : TypeId) (w : World) : (Instr.typeAssert (.iface 114 v) xT 111 true).run Tryd.prog w = .ok (.tuple #[.nilIface, .bool false]) w := run_typeAssert_lacksB Tryd.underlying111 (by kernel_rfl) (by kernel_rfl) v xT w
theorem noUnwrap (v : Value) (xT : TypeId) (w : World) : (Instr.typeAssert (.iface 114 v) xT 106 true).run Tryd.prog w = .ok (.tuple #[.nilIface, .bool false]) w := run_typeAssert_lacksB Tryd.underlying106 (by kernel_rfl) (by kernel_rfl) v xT w
theorem noUnwraps (v : Value) (xT : TypeId) (w : World) : (Instr.typeAssert (.iface 114 v) xT 108 true).run Tryd.prog w = .ok (.tuple #[.nilIface, .bool false]) w := run_typeAssert_lacksB Tryd.underlying108 (by kernel_rfl) (by kernel_rfl) v xT w
theorem noIsW (v : Value) (xT : TypeId) (w : World) : (Instr.typeAssert (.iface 68 v) xT 111 true).run Tryd.prog w = .ok (.tuple #[.nilIface, .bool false]) w := run_typeAssert_lacksB Tryd.underlying111 (by kernel_rfl) (by kernel_rfl) v xT w
theorem hasUnwrap (v : Value) (xT : TypeId) (w : World) : (Instr.typeAssert (.iface 68 v) xT 106 true).run Tryd.prog w = .ok (.tuple #[.iface 68 v, .bool true]) w := run_typeAssert_hasB Tryd.underlying106 (by kernel_rfl) v xT w
theorem methodUnwrap (v : Value) (w : World) : (Go.method 248 68 v "Unwrap").run Tryd.prog w = .ok (87, v) w := by kernel_rfl
theorem unwrap_any (n : Int) (s : Addr) (w : World) : Calls Tryd.prog 87 #[.agg #[.int .i64 n, .iface 114 (.pointer (some s))]] w fun e w' => e = .returned (.iface 114 (.pointer (some s))) ∧ w' = w.alloc (.cells #[.int .i64 n, .iface 114 (.pointer (some s))] 68) := by
  go_enter Tryd.func87, Tryd.ntmps87
  go_wp2
  go_ret
  exact ⟨rfl, rfl⟩

set_option maxHeartbeats 1000000 in
set_option maxRecDepth 100000 in
theorem isW_same (n : Int) (a : Addr) (w : World) :
    Calls Tryd.prog 64 #[.iface 68 (.agg #[.int .i64 n, .iface 114 (.pointer (some a))]), .iface 114 (.pointer (some a)), .bool true] w fun e w' => e = .returned (.bool true) ∧ Below w.heap.size w w' := by
  obtain ⟨i, hi, hcmp⟩ := Option.map_eq_some_iff.1 isComp
  obtain ⟨j, hj, hjs⟩ := Option.map_eq_some_iff.1 isSize
  have heq0 := fun w => run_eql_iface_types (P := Tryd.prog) 68 114 (.agg #[.int .i64 n, .iface 114 (.pointer (some a))]) (.pointer (some a)) Tryd.underlying48 (by decide) w
  have heq := fun w => run_eql_iface_ptr_same (P := Tryd.prog) w a Tryd.underlying48 Tryd.underlying114 hi hcmp hj
  have n1 := noIsW
  have n2 := hasUnwrap
  have mU := methodUnwrap
  go_enter Tryd.func64, Tryd.ntmps64
  go_wp2
  refine wp_loop_rounds 2 ?_
  rw [rounds_succ]
  go_wp2_with (go_at_call 87; refine (unwrap_any _ _ _).mono ?_; rintro e w' ⟨rfl, rfl⟩)
  rw [rounds_succ]
  go_wp2
  go_ret
  exact ⟨rfl, below_alloc (Below.refl _ _) _⟩
end Go.Proofs.YtjafcgemgghbiaaDoor.G
