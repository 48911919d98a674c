/- Chapter 1: the map of the parts. -/
import Derived.Test.YtlpkjjeihbdocaaDoorF14
import Derived.Maps.Own
import Derived.Maps.OwnOps
import Derived.Maps.Views
import Derived.DeepKeys4
namespace Go.Proofs.YtlpkjjeihbdocaaDoor.G
open Go.RowKit Go.Shelf Go.Maps Go.Proofs.YtlpkjjeihbdocaaDoorW.PrintWords Go.Proofs.YtlpkjjeihbdocaaDoorW.PrintLast Go.Proofs.YtlpkjjeihbdocaaDoorW.PrintMore

theorem laidOutP : laidOutB Tryd.prog = true := by kernel_rfl
theorem row53 : (53 : TypeId) < Tryd.prog.types.size := of_decide_eq_true (by kernel_rfl)
theorem cells53 : Tryd.prog.cellsOf 53 = 2 := by kernel_rfl
theorem cells2 : Tryd.prog.cellsOf 2 = 1 := by kernel_rfl
theorem wide53 : (match Tryd.prog.underlying 53 with | some (.array _ _) | some (.struct _) => true | _ => false) = true := by rw [Tryd.underlying53]
theorem deep53 : Tryd.prog.keyTypeAt 2 53 = true := by kernel_rfl
set_option maxRecDepth 1000000 in
theorem pairLaw : Keyed Tryd.prog 53 := Keyed.of_law (deep_law_laid laidOutP (m := 2) (by omega) row53 deep53 wide53)
theorem zero2 (w : World) : (zeroValue 2).run Tryd.prog w = .ok (.int .i64 0) w := by kernel_rfl
theorem keyT : Tryd.prog.keyType 53 = true := by kernel_rfl
theorem types_succ : ∃ n, Tryd.prog.types.size + 1 = n + 2 := ⟨Tryd.prog.types.size - 1, by have h : 53 < Tryd.prog.types.size := row53; generalize Tryd.prog.types.size = m at *; omega⟩
def pairV (x y : Int) : Value := .agg #[.int .i64 x, .int .i64 y]
theorem pairKey (x y : Int) (hx : (Lit.int .i64 x).wf = true) (hy : (Lit.int .i64 y).wf = true) : ∃ l, keyOf Tryd.prog 53 (pairV x y) = some l := by
  unfold keyOf pairV
  rw [Tryd.underlying53]
  have hf : (Value.agg #[.int .i64 x, .int .i64 y]).formed Tryd.prog 53 = true := by simp [Value.formed, Tryd.underlying53, cells53]
  simp only [keyT, hf, Bool.and_self, if_true]
  obtain ⟨n, hn⟩ := types_succ
  rw [hn]
  simp [Program.keyLits, Tryd.underlying53, Tryd.underlying2, cells53, cells2, Value.cells, hx, hy]
theorem or_add (n : Nat) (p : Nat) (hn : n ≤ 10737418249) (hp : p < 64) : bits BinOp.or IntKind.i64 ((n : Int) * 64) p = ((n * 64 + p : Nat) : Int) := by
  show IntKind.i64.wrap ((BitVec.ofInt 64 ((n : Int) * 64) ||| BitVec.ofInt 64 p).toNat : Int) = _
  have e : (n : Int) * 64 = ((n * 64 : Nat) : Int) := by omega
  rw [e, BitVec.toNat_or, BitVec.ofInt_natCast, BitVec.ofInt_natCast, BitVec.toNat_ofNat, BitVec.toNat_ofNat, Nat.mod_eq_of_lt (by omega), Nat.mod_eq_of_lt (by omega)]
  have h := Nat.shiftLeft_add_eq_or_of_lt (b := p) (i := 6) (by omega) n
  rw [Nat.shiftLeft_eq] at h
  rw [show n * 64 = n * 2 ^ 6 from rfl, ← h]
  exact IntWalk.i64_in _ (by omega)
end Go.Proofs.YtlpkjjeihbdocaaDoor.G
