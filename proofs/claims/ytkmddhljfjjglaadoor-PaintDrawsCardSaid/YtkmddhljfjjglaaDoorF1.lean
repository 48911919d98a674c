/- Chapter 18: errors.Is at the package's sentinel; what is told. Written by mkF1.py. -/
import Derived.Test.YtkmddhljfjjglaaDoorG0
import Derived.Test.YtkmddhljfjjglaaDoorChecked
import Derived.LaidEql
import Derived.Stop.Asserts
import Derived.RowKitTokens
import Derived.WalkSpells
import Derived.Lib.Hide
import Derived.Lib.LaidTab
import Derived.Lib.SmallJoins
import Derived.Lib.ItoaMem
namespace Go.Proofs.YtkmddhljfjjglaaDoor.G
open Go.RowKit Go.Proofs.YtkmddhljfjjglaaDoorW.PrintWords Go.Proofs.YtkmddhljfjjglaaDoorW.PrintLast Go.Proofs.YtkmddhljfjjglaaDoorW.PrintMore
open Go.Extern.Stop Go.Stop Go.Extern

theorem isTypeOf (v : Value) (w : World) : (callFunc 65 #[.iface 136 v]).run Tryd.prog w = .ok (.value (.iface 116 (.agg #[.pointer (some ⟨4, 136, none⟩)]))) w := by kernel_rfl
theorem isComparable (w : World) : (callFunc 98 #[.agg #[.pointer (some ⟨4, 136, none⟩)]]).run Tryd.prog w = .ok (.value (.bool true)) w := by kernel_rfl
theorem isMethodComparable (v : Value) (w : World) : (Go.method 270 116 v "Comparable").run Tryd.prog w = .ok (98, v) w := by kernel_rfl
theorem isComp : (Tryd.prog.info? 136).map (·.comparable) = some true := by kernel_rfl
theorem isSize : (Tryd.prog.info? 159).map (·.size) = some 1 := by kernel_rfl

set_option maxHeartbeats 1000000 in
set_option maxRecDepth 100000 in
theorem is_same (a : Addr) (w : World) :
    Calls Tryd.prog 55 #[.iface 136 (.pointer (some a)), .iface 136 (.pointer (some a))] w fun e w' => e = .returned (.bool true) ∧ w = w' := by
  obtain ⟨i, hi, hcmp⟩ := Option.map_eq_some_iff.1 isComp
  obtain ⟨j, hj, hjs⟩ := Option.map_eq_some_iff.1 isSize
  have tT := isTypeOf
  have cT := isComparable
  have mR := isMethodComparable
  have heq := run_eql_iface_ptr_same (P := Tryd.prog) w a Tryd.underlying57 Tryd.underlying136 hi hcmp hj
  go_enter Tryd.func55, Tryd.ntmps55
  go_wp2
  refine wp_loop_rounds 1 ?_
  rw [rounds_succ]
  go_wp2
  go_ret
  exact ⟨rfl, rfl⟩

theorem noIs (v : Value) (xT : TypeId) (w : World) : (Instr.typeAssert (.iface 136 v) xT 118 true).run Tryd.prog w = .ok (.tuple #[.nilIface, .bool false]) w := run_typeAssert_lacksB Tryd.underlying118 (by kernel_rfl) (by kernel_rfl) v xT w
theorem noUnwrap (v : Value) (xT : TypeId) (w : World) : (Instr.typeAssert (.iface 136 v) xT 121 true).run Tryd.prog w = .ok (.tuple #[.nilIface, .bool false]) w := run_typeAssert_lacksB Tryd.underlying121 (by kernel_rfl) (by kernel_rfl) v xT w
theorem noUnwraps (v : Value) (xT : TypeId) (w : World) : (Instr.typeAssert (.iface 136 v) xT 123 true).run Tryd.prog w = .ok (.tuple #[.nilIface, .bool false]) w := run_typeAssert_lacksB Tryd.underlying123 (by kernel_rfl) (by kernel_rfl) v xT w
set_option maxRecDepth 100000 in
theorem is_nil (v : Value) (w : World) : Calls Tryd.prog 55 #[.nilIface, .iface 136 v] w fun e w' => e = .returned (.bool false) ∧ w = w' := by
  have hn := run_eql_iface_nil_left (P := Tryd.prog) (w := w) 136 v Tryd.underlying57
  go_enter Tryd.func55, Tryd.ntmps55
  go_wp2
  go_ret
  exact ⟨rfl, rfl⟩

/-- What the world must bear: the sentinel; the table of powers of ten. -/
def GOK (w : World) : Prop := (∃ a : Addr, w.cell? ⟨0, 0, none⟩ = some (.iface 136 (.pointer (some a)))) ∧ Lib.TabIs Tryd.prog w "internal/strconv.uint64pow10" .u64 Lib.pow10Tab
theorem tabN : Tryd.prog.globalNamed "internal/strconv.uint64pow10" = some 1 := by kernel_rfl
theorem GOK.below {w w1 : World} (h : GOK w) (hb : Below w.heap.size w w1) : GOK w1 := by
  obtain ⟨⟨a, h1⟩, h2⟩ := h
  exact ⟨⟨a, pw_cell_below hb h1⟩, Go.Joins.tab_stays tabN h2 hb (Nat.le_refl _)⟩
theorem told_nil (w : World) (h : GOK w) : Calls Tryd.prog 29 #[.nilIface] w fun e w' => e = .returned (.int .i64 0) ∧ w = w' := by
  obtain ⟨⟨a, h1⟩, _⟩ := h
  go_enter Tryd.func29, Tryd.ntmps29
  go_wp2_with (go_at_call 55; refine (is_nil _ _).mono ?_; rintro e w' ⟨rfl, rfl⟩)
  go_ret
  exact ⟨rfl, rfl⟩
theorem told_paint (a : Addr) (w : World) (h1 : w.cell? ⟨0, 0, none⟩ = some (.iface 136 (.pointer (some a)))) : Calls Tryd.prog 29 #[.iface 136 (.pointer (some a))] w fun e w' => e = .returned (.int .i64 170) ∧ w = w' := by
  go_enter Tryd.func29, Tryd.ntmps29
  go_wp2_with (go_at_call 55; refine (is_same _ _).mono ?_; rintro e w' ⟨rfl, rfl⟩)
  go_ret
  exact ⟨rfl, rfl⟩
end Go.Proofs.YtkmddhljfjjglaaDoor.G
