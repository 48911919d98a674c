/- Functions of the law and of what it calls as plain Lean functions, and that the calls come to their answers: written by fprint.py. -/
import Derived.Test.YtdphijhebppeeaaDoorProg
import Derived.Below
import Derived.Deep.Draws
import Derived.Deep.AppendLies
import Derived.Maps.AppendAt
import Derived.OwnWalk
import Derived.Laws.BytesArg
import Derived.Laws.MakeOwn
import Derived.Laws.OwnMore
import Derived.Deep.OwnRows
import Derived.Tactics
import Derived.Lib.ConvBytes
import Derived.Laws.Slices
import Derived.WalkKit
import Derived.KernelRfl
import Derived.RowKit3
import Derived.Deep.LoopGhost
import Derived.Deep.QuietTactic
import Derived.BigQuiet
import Derived.WideLaws
import Derived.Deep.DeepCutAuto
import Derived.Deep.CutBlock
import Derived.Deep.RegionHeld3
import Derived.Laws.Rows
import Derived.Lib.AppendStr
import Derived.ArgAppend
import Derived.Laws.IdiomCopy
import Derived.OrdersHeld
import Derived.Laws.BitsLemmas
import Derived.RowKit
import Derived.Test.YtdphijhebppeeaaDoorWWords
import Derived.Test.YtdphijhebppeeaaDoorWLast
import Derived.Test.YtdphijhebppeeaaDoorWTab
import Derived.Test.YtdphijhebppeeaaDoorWFour
import Derived.Test.YtdphijhebppeeaaDoorWQPut
import Derived.Test.YtdphijhebppeeaaDoorWApart
import Derived.Test.YtdphijhebppeeaaDoorWArr
import Derived.Test.YtdphijhebppeeaaDoorWZeros
import Derived.Test.YtdphijhebppeeaaDoorWFoot
import Derived.Test.YtdphijhebppeeaaDoorWKept
import Derived.Test.YtdphijhebppeeaaDoorWShare
import Derived.Test.YtdphijhebppeeaaDoorWN
import Derived.Test.YtdphijhebppeeaaDoorWFootNe
import Derived.Test.YtdphijhebppeeaaDoorWAt
import Derived.Test.YtdphijhebppeeaaDoorWEqStruct
import Derived.Test.YtdphijhebppeeaaDoorWRepsOne
import Derived.Test.YtdphijhebppeeaaDoorWInv
import Derived.Test.YtdphijhebppeeaaDoorWInvWords
import Derived.Test.YtdphijhebppeeaaDoorWGuard
import Derived.Test.YtdphijhebppeeaaDoorWNEv
import Derived.Test.YtdphijhebppeeaaDoorWMore
namespace Go.Proofs.YtdphijhebppeeaaDoor.G
open Go.RowKit Go.Proofs.YtdphijhebppeeaaDoorW.PrintWords Go.Proofs.YtdphijhebppeeaaDoorW.PrintLast Go.Proofs.YtdphijhebppeeaaDoorW.PrintMore
attribute [local go_sem] max2_int min2_int max_two min_two max_three min_three max_four min_four   -- for this text's walks alone
set_option linter.unusedVariables false
set_option linter.unusedSimpArgs false



def errW : Option Int → Value
  | none => .nilIface
  | some c => .iface 0 (.int .i64 c)
theorem errW_none : errW none = .nilIface := rfl
theorem errW_some (c : Int) : errW (some c) = .iface 0 (.int .i64 c) := rfl

theorem info3 : (Tryd.prog.info? 3).map (fun i => (i.zero, i.size, i.bytes)) = some (some (.int .i64 0), 1, 8) := by kernel_rfl
theorem info31 : (Tryd.prog.info? 31).map (fun i => (i.zero, i.size, i.bytes)) = some (some (.agg #[(.int .i64 0), (.int .i64 0), (.string ⟨#[]⟩), (.int .i64 0), (.int .i64 0), (.int .i64 0), (.int .i64 0), (.int .i64 0), (.int .i64 0), (.bool false), (.int .i64 0), (.int .i64 0), (.int .i64 0), (.bool false), (.int .i64 0), (.int .i64 0), (.bool false), (.int .i64 0), (.bool false), (.int .i64 0), (.int .i64 0)]), 21, 176) := by kernel_rfl
theorem info40 : (Tryd.prog.info? 40).map (fun i => (i.zero, i.size, i.bytes)) = some (some (.agg #[(.bool false), (.slice none 0 0)]), 2, 32) := by kernel_rfl
-- the values' own types
/-! #### struct type 29 -/
structure S29 where
  f0 : Int
  f1 : Int
  f2 : Int
  f3 : Int
  f4 : Bool
  f5 : Int
  f6 : Int
  f7 : Int
  f8 : Bool
  f9 : Int
  f10 : Int
  f11 : Bool
  f12 : Int
  f13 : Bool
  f14 : Int
  f15 : Int
def z29 : S29 := ⟨(0 : Int), (0 : Int), (0 : Int), (0 : Int), false, (0 : Int), (0 : Int), (0 : Int), false, (0 : Int), (0 : Int), false, (0 : Int), false, (0 : Int), (0 : Int)⟩
def k29 : Kd S29 := Kd.iso (Kd.pair (Kd.int .i64) (Kd.pair (Kd.int .i64) (Kd.pair (Kd.int .i64) (Kd.pair (Kd.int .i64) (Kd.pair Kd.bool (Kd.pair (Kd.int .i64) (Kd.pair (Kd.int .i64) (Kd.pair (Kd.int .i64) (Kd.pair Kd.bool (Kd.pair (Kd.int .i64) (Kd.pair (Kd.int .i64) (Kd.pair Kd.bool (Kd.pair (Kd.int .i64) (Kd.pair Kd.bool (Kd.pair (Kd.int .i64) (Kd.int .i64)))))))))))))))) (fun x : S29 => (x.f0, x.f1, x.f2, x.f3, x.f4, x.f5, x.f6, x.f7, x.f8, x.f9, x.f10, x.f11, x.f12, x.f13, x.f14, x.f15))
theorem k29_heap : Kd.Heap k29 := Kd.heap_iso _ (Kd.heap_pair (Kd.heap_int .i64) (Kd.heap_pair (Kd.heap_int .i64) (Kd.heap_pair (Kd.heap_int .i64) (Kd.heap_pair (Kd.heap_int .i64) (Kd.heap_pair Kd.heap_bool (Kd.heap_pair (Kd.heap_int .i64) (Kd.heap_pair (Kd.heap_int .i64) (Kd.heap_pair (Kd.heap_int .i64) (Kd.heap_pair Kd.heap_bool (Kd.heap_pair (Kd.heap_int .i64) (Kd.heap_pair (Kd.heap_int .i64) (Kd.heap_pair Kd.heap_bool (Kd.heap_pair (Kd.heap_int .i64) (Kd.heap_pair Kd.heap_bool (Kd.heap_pair (Kd.heap_int .i64) (Kd.heap_int .i64))))))))))))))))
theorem k29_open {w : World} {x : S29} {cs : List Value} (h : k29.K w x cs) : cs = [.int .i64 x.f0, .int .i64 x.f1, .int .i64 x.f2, .int .i64 x.f3, .bool x.f4, .int .i64 x.f5, .int .i64 x.f6, .int .i64 x.f7, .bool x.f8, .int .i64 x.f9, .int .i64 x.f10, .bool x.f11, .int .i64 x.f12, .bool x.f13, .int .i64 x.f14, .int .i64 x.f15] := by
  obtain ⟨_, _, rfl, rfl, ⟨_, _, rfl, rfl, ⟨_, _, rfl, rfl, ⟨_, _, rfl, rfl, ⟨_, _, rfl, rfl, ⟨_, _, rfl, rfl, ⟨_, _, rfl, rfl, ⟨_, _, rfl, rfl, ⟨_, _, rfl, rfl, ⟨_, _, rfl, rfl, ⟨_, _, rfl, rfl, ⟨_, _, rfl, rfl, ⟨_, _, rfl, rfl, ⟨_, _, rfl, rfl, ⟨_, _, rfl, rfl, rfl⟩⟩⟩⟩⟩⟩⟩⟩⟩⟩⟩⟩⟩⟩⟩ := h
  exact rfl
theorem k29_openM {w : World} {base : Nat} {ok : Nat → Prop} {x : S29} {cs : List Value} (h : k29.M w base ok x cs) : cs = [.int .i64 x.f0, .int .i64 x.f1, .int .i64 x.f2, .int .i64 x.f3, .bool x.f4, .int .i64 x.f5, .int .i64 x.f6, .int .i64 x.f7, .bool x.f8, .int .i64 x.f9, .int .i64 x.f10, .bool x.f11, .int .i64 x.f12, .bool x.f13, .int .i64 x.f14, .int .i64 x.f15] := by
  obtain ⟨_, _, rfl, rfl, ⟨_, _, rfl, rfl, ⟨_, _, rfl, rfl, ⟨_, _, rfl, rfl, ⟨_, _, rfl, rfl, ⟨_, _, rfl, rfl, ⟨_, _, rfl, rfl, ⟨_, _, rfl, rfl, ⟨_, _, rfl, rfl, ⟨_, _, rfl, rfl, ⟨_, _, rfl, rfl, ⟨_, _, rfl, rfl, ⟨_, _, rfl, rfl, ⟨_, _, rfl, rfl, ⟨_, _, rfl, rfl, rfl⟩⟩⟩⟩⟩⟩⟩⟩⟩⟩⟩⟩⟩⟩⟩ := h
  exact rfl
theorem k29_mk (w : World) (x : S29)  : k29.K w x [.int .i64 x.f0, .int .i64 x.f1, .int .i64 x.f2, .int .i64 x.f3, .bool x.f4, .int .i64 x.f5, .int .i64 x.f6, .int .i64 x.f7, .bool x.f8, .int .i64 x.f9, .int .i64 x.f10, .bool x.f11, .int .i64 x.f12, .bool x.f13, .int .i64 x.f14, .int .i64 x.f15] := ⟨[.int .i64 x.f0], [.int .i64 x.f1, .int .i64 x.f2, .int .i64 x.f3, .bool x.f4, .int .i64 x.f5, .int .i64 x.f6, .int .i64 x.f7, .bool x.f8, .int .i64 x.f9, .int .i64 x.f10, .bool x.f11, .int .i64 x.f12, .bool x.f13, .int .i64 x.f14, .int .i64 x.f15], rfl, rfl, ⟨[.int .i64 x.f1], [.int .i64 x.f2, .int .i64 x.f3, .bool x.f4, .int .i64 x.f5, .int .i64 x.f6, .int .i64 x.f7, .bool x.f8, .int .i64 x.f9, .int .i64 x.f10, .bool x.f11, .int .i64 x.f12, .bool x.f13, .int .i64 x.f14, .int .i64 x.f15], rfl, rfl, ⟨[.int .i64 x.f2], [.int .i64 x.f3, .bool x.f4, .int .i64 x.f5, .int .i64 x.f6, .int .i64 x.f7, .bool x.f8, .int .i64 x.f9, .int .i64 x.f10, .bool x.f11, .int .i64 x.f12, .bool x.f13, .int .i64 x.f14, .int .i64 x.f15], rfl, rfl, ⟨[.int .i64 x.f3], [.bool x.f4, .int .i64 x.f5, .int .i64 x.f6, .int .i64 x.f7, .bool x.f8, .int .i64 x.f9, .int .i64 x.f10, .bool x.f11, .int .i64 x.f12, .bool x.f13, .int .i64 x.f14, .int .i64 x.f15], rfl, rfl, ⟨[.bool x.f4], [.int .i64 x.f5, .int .i64 x.f6, .int .i64 x.f7, .bool x.f8, .int .i64 x.f9, .int .i64 x.f10, .bool x.f11, .int .i64 x.f12, .bool x.f13, .int .i64 x.f14, .int .i64 x.f15], rfl, rfl, ⟨[.int .i64 x.f5], [.int .i64 x.f6, .int .i64 x.f7, .bool x.f8, .int .i64 x.f9, .int .i64 x.f10, .bool x.f11, .int .i64 x.f12, .bool x.f13, .int .i64 x.f14, .int .i64 x.f15], rfl, rfl, ⟨[.int .i64 x.f6], [.int .i64 x.f7, .bool x.f8, .int .i64 x.f9, .int .i64 x.f10, .bool x.f11, .int .i64 x.f12, .bool x.f13, .int .i64 x.f14, .int .i64 x.f15], rfl, rfl, ⟨[.int .i64 x.f7], [.bool x.f8, .int .i64 x.f9, .int .i64 x.f10, .bool x.f11, .int .i64 x.f12, .bool x.f13, .int .i64 x.f14, .int .i64 x.f15], rfl, rfl, ⟨[.bool x.f8], [.int .i64 x.f9, .int .i64 x.f10, .bool x.f11, .int .i64 x.f12, .bool x.f13, .int .i64 x.f14, .int .i64 x.f15], rfl, rfl, ⟨[.int .i64 x.f9], [.int .i64 x.f10, .bool x.f11, .int .i64 x.f12, .bool x.f13, .int .i64 x.f14, .int .i64 x.f15], rfl, rfl, ⟨[.int .i64 x.f10], [.bool x.f11, .int .i64 x.f12, .bool x.f13, .int .i64 x.f14, .int .i64 x.f15], rfl, rfl, ⟨[.bool x.f11], [.int .i64 x.f12, .bool x.f13, .int .i64 x.f14, .int .i64 x.f15], rfl, rfl, ⟨[.int .i64 x.f12], [.bool x.f13, .int .i64 x.f14, .int .i64 x.f15], rfl, rfl, ⟨[.bool x.f13], [.int .i64 x.f14, .int .i64 x.f15], rfl, rfl, ⟨[.int .i64 x.f14], [.int .i64 x.f15], rfl, rfl, rfl⟩⟩⟩⟩⟩⟩⟩⟩⟩⟩⟩⟩⟩⟩⟩
theorem k29_mkM (w : World) (base : Nat) (ok : Nat → Prop) (x : S29)  : k29.M w base ok x [.int .i64 x.f0, .int .i64 x.f1, .int .i64 x.f2, .int .i64 x.f3, .bool x.f4, .int .i64 x.f5, .int .i64 x.f6, .int .i64 x.f7, .bool x.f8, .int .i64 x.f9, .int .i64 x.f10, .bool x.f11, .int .i64 x.f12, .bool x.f13, .int .i64 x.f14, .int .i64 x.f15] := ⟨[.int .i64 x.f0], [.int .i64 x.f1, .int .i64 x.f2, .int .i64 x.f3, .bool x.f4, .int .i64 x.f5, .int .i64 x.f6, .int .i64 x.f7, .bool x.f8, .int .i64 x.f9, .int .i64 x.f10, .bool x.f11, .int .i64 x.f12, .bool x.f13, .int .i64 x.f14, .int .i64 x.f15], rfl, rfl, ⟨[.int .i64 x.f1], [.int .i64 x.f2, .int .i64 x.f3, .bool x.f4, .int .i64 x.f5, .int .i64 x.f6, .int .i64 x.f7, .bool x.f8, .int .i64 x.f9, .int .i64 x.f10, .bool x.f11, .int .i64 x.f12, .bool x.f13, .int .i64 x.f14, .int .i64 x.f15], rfl, rfl, ⟨[.int .i64 x.f2], [.int .i64 x.f3, .bool x.f4, .int .i64 x.f5, .int .i64 x.f6, .int .i64 x.f7, .bool x.f8, .int .i64 x.f9, .int .i64 x.f10, .bool x.f11, .int .i64 x.f12, .bool x.f13, .int .i64 x.f14, .int .i64 x.f15], rfl, rfl, ⟨[.int .i64 x.f3], [.bool x.f4, .int .i64 x.f5, .int .i64 x.f6, .int .i64 x.f7, .bool x.f8, .int .i64 x.f9, .int .i64 x.f10, .bool x.f11, .int .i64 x.f12, .bool x.f13, .int .i64 x.f14, .int .i64 x.f15], rfl, rfl, ⟨[.bool x.f4], [.int .i64 x.f5, .int .i64 x.f6, .int .i64 x.f7, .bool x.f8, .int .i64 x.f9, .int .i64 x.f10, .bool x.f11, .int .i64 x.f12, .bool x.f13, .int .i64 x.f14, .int .i64 x.f15], rfl, rfl, ⟨[.int .i64 x.f5], [.int .i64 x.f6, .int .i64 x.f7, .bool x.f8, .int .i64 x.f9, .int .i64 x.f10, .bool x.f11, .int .i64 x.f12, .bool x.f13, .int .i64 x.f14, .int .i64 x.f15], rfl, rfl, ⟨[.int .i64 x.f6], [.int .i64 x.f7, .bool x.f8, .int .i64 x.f9, .int .i64 x.f10, .bool x.f11, .int .i64 x.f12, .bool x.f13, .int .i64 x.f14, .int .i64 x.f15], rfl, rfl, ⟨[.int .i64 x.f7], [.bool x.f8, .int .i64 x.f9, .int .i64 x.f10, .bool x.f11, .int .i64 x.f12, .bool x.f13, .int .i64 x.f14, .int .i64 x.f15], rfl, rfl, ⟨[.bool x.f8], [.int .i64 x.f9, .int .i64 x.f10, .bool x.f11, .int .i64 x.f12, .bool x.f13, .int .i64 x.f14, .int .i64 x.f15], rfl, rfl, ⟨[.int .i64 x.f9], [.int .i64 x.f10, .bool x.f11, .int .i64 x.f12, .bool x.f13, .int .i64 x.f14, .int .i64 x.f15], rfl, rfl, ⟨[.int .i64 x.f10], [.bool x.f11, .int .i64 x.f12, .bool x.f13, .int .i64 x.f14, .int .i64 x.f15], rfl, rfl, ⟨[.bool x.f11], [.int .i64 x.f12, .bool x.f13, .int .i64 x.f14, .int .i64 x.f15], rfl, rfl, ⟨[.int .i64 x.f12], [.bool x.f13, .int .i64 x.f14, .int .i64 x.f15], rfl, rfl, ⟨[.bool x.f13], [.int .i64 x.f14, .int .i64 x.f15], rfl, rfl, ⟨[.int .i64 x.f14], [.int .i64 x.f15], rfl, rfl, rfl⟩⟩⟩⟩⟩⟩⟩⟩⟩⟩⟩⟩⟩⟩⟩
theorem k29_mkF (W : World) (ok : Nat → Prop) (x : S29) : Kd.FK k29 W ok x [.int .i64 x.f0, .int .i64 x.f1, .int .i64 x.f2, .int .i64 x.f3, .bool x.f4, .int .i64 x.f5, .int .i64 x.f6, .int .i64 x.f7, .bool x.f8, .int .i64 x.f9, .int .i64 x.f10, .bool x.f11, .int .i64 x.f12, .bool x.f13, .int .i64 x.f14, .int .i64 x.f15] := fun W2 _ => k29_mk W2 x
def rd_T29 (xs : List S29) (i : Int) : S29 := xs.getD i.toNat z29
theorem at_T29 {w : World} {A : Option Addr} {n : Nat} {xs : List S29} (h : Kd.C k29 w A n xs) (i : Int) (h0 : 0 ≤ i) (h1 : i < n) : ∃ ad , A = some ad ∧ w.cell? (ad.add (i.toNat * 16)) = some (.int .i64 (rd_T29 xs i).f0) ∧ w.cell? ⟨(ad.add (i.toNat * 16)).block, (ad.add (i.toNat * 16)).off + 1, none⟩ = some (.int .i64 (rd_T29 xs i).f1) ∧ w.cell? ⟨(ad.add (i.toNat * 16)).block, (ad.add (i.toNat * 16)).off + 2, none⟩ = some (.int .i64 (rd_T29 xs i).f2) ∧ w.cell? ⟨(ad.add (i.toNat * 16)).block, (ad.add (i.toNat * 16)).off + 3, none⟩ = some (.int .i64 (rd_T29 xs i).f3) ∧ w.cell? ⟨(ad.add (i.toNat * 16)).block, (ad.add (i.toNat * 16)).off + 4, none⟩ = some (.bool (rd_T29 xs i).f4) ∧ w.cell? ⟨(ad.add (i.toNat * 16)).block, (ad.add (i.toNat * 16)).off + 5, none⟩ = some (.int .i64 (rd_T29 xs i).f5) ∧ w.cell? ⟨(ad.add (i.toNat * 16)).block, (ad.add (i.toNat * 16)).off + 6, none⟩ = some (.int .i64 (rd_T29 xs i).f6) ∧ w.cell? ⟨(ad.add (i.toNat * 16)).block, (ad.add (i.toNat * 16)).off + 7, none⟩ = some (.int .i64 (rd_T29 xs i).f7) ∧ w.cell? ⟨(ad.add (i.toNat * 16)).block, (ad.add (i.toNat * 16)).off + 8, none⟩ = some (.bool (rd_T29 xs i).f8) ∧ w.cell? ⟨(ad.add (i.toNat * 16)).block, (ad.add (i.toNat * 16)).off + 9, none⟩ = some (.int .i64 (rd_T29 xs i).f9) ∧ w.cell? ⟨(ad.add (i.toNat * 16)).block, (ad.add (i.toNat * 16)).off + 10, none⟩ = some (.int .i64 (rd_T29 xs i).f10) ∧ w.cell? ⟨(ad.add (i.toNat * 16)).block, (ad.add (i.toNat * 16)).off + 11, none⟩ = some (.bool (rd_T29 xs i).f11) ∧ w.cell? ⟨(ad.add (i.toNat * 16)).block, (ad.add (i.toNat * 16)).off + 12, none⟩ = some (.int .i64 (rd_T29 xs i).f12) ∧ w.cell? ⟨(ad.add (i.toNat * 16)).block, (ad.add (i.toNat * 16)).off + 13, none⟩ = some (.bool (rd_T29 xs i).f13) ∧ w.cell? ⟨(ad.add (i.toNat * 16)).block, (ad.add (i.toNat * 16)).off + 14, none⟩ = some (.int .i64 (rd_T29 xs i).f14) ∧ w.cell? ⟨(ad.add (i.toNat * 16)).block, (ad.add (i.toNat * 16)).off + 15, none⟩ = some (.int .i64 (rd_T29 xs i).f15) := by
  obtain ⟨ad, c, e, _, hK, hc0⟩ := Kd.C_get h z29 i h0 h1
  have hc : ∀ j u, c[j]? = some u → w.cell? (ad.add (i.toNat * 16 + j)) = some u := hc0
  obtain rfl := k29_open hK
  exact ⟨ad, e, hc 0 _ rfl, by rw [← add_field _ _ 1 (by omega)]; exact hc 1 _ rfl, by rw [← add_field _ _ 2 (by omega)]; exact hc 2 _ rfl, by rw [← add_field _ _ 3 (by omega)]; exact hc 3 _ rfl, by rw [← add_field _ _ 4 (by omega)]; exact hc 4 _ rfl, by rw [← add_field _ _ 5 (by omega)]; exact hc 5 _ rfl, by rw [← add_field _ _ 6 (by omega)]; exact hc 6 _ rfl, by rw [← add_field _ _ 7 (by omega)]; exact hc 7 _ rfl, by rw [← add_field _ _ 8 (by omega)]; exact hc 8 _ rfl, by rw [← add_field _ _ 9 (by omega)]; exact hc 9 _ rfl, by rw [← add_field _ _ 10 (by omega)]; exact hc 10 _ rfl, by rw [← add_field _ _ 11 (by omega)]; exact hc 11 _ rfl, by rw [← add_field _ _ 12 (by omega)]; exact hc 12 _ rfl, by rw [← add_field _ _ 13 (by omega)]; exact hc 13 _ rfl, by rw [← add_field _ _ 14 (by omega)]; exact hc 14 _ rfl, by rw [← add_field _ _ 15 (by omega)]; exact hc 15 _ rfl⟩

/-! #### struct type 31 -/
structure S31 where
  f0 : Int
  f1 : Int
  f2 : ByteArray
  f3 : Int
  f4 : Int
  f5 : S29
def z31 : S31 := ⟨(0 : Int), (0 : Int), (⟨#[]⟩ : ByteArray), (0 : Int), (0 : Int), z29⟩
def k31 : Kd S31 := Kd.iso (Kd.pair (Kd.int .i64) (Kd.pair (Kd.int .i64) (Kd.pair Kd.string (Kd.pair (Kd.int .i64) (Kd.pair (Kd.int .i64) k29))))) (fun x : S31 => (x.f0, x.f1, x.f2, x.f3, x.f4, x.f5))
theorem k31_heap : Kd.Heap k31 := Kd.heap_iso _ (Kd.heap_pair (Kd.heap_int .i64) (Kd.heap_pair (Kd.heap_int .i64) (Kd.heap_pair Kd.heap_string (Kd.heap_pair (Kd.heap_int .i64) (Kd.heap_pair (Kd.heap_int .i64) k29_heap)))))
theorem k31_open {w : World} {x : S31} {cs : List Value} (h : k31.K w x cs) : cs = [.int .i64 x.f0, .int .i64 x.f1, .string x.f2, .int .i64 x.f3, .int .i64 x.f4, .int .i64 x.f5.f0, .int .i64 x.f5.f1, .int .i64 x.f5.f2, .int .i64 x.f5.f3, .bool x.f5.f4, .int .i64 x.f5.f5, .int .i64 x.f5.f6, .int .i64 x.f5.f7, .bool x.f5.f8, .int .i64 x.f5.f9, .int .i64 x.f5.f10, .bool x.f5.f11, .int .i64 x.f5.f12, .bool x.f5.f13, .int .i64 x.f5.f14, .int .i64 x.f5.f15] := by
  obtain ⟨_, _, rfl, rfl, ⟨_, _, rfl, rfl, ⟨_, _, rfl, rfl, ⟨_, _, rfl, rfl, ⟨_, _, rfl, rfl, s5⟩⟩⟩⟩⟩ := h
  obtain rfl := k29_open s5
  exact rfl
theorem k31_openM {w : World} {base : Nat} {ok : Nat → Prop} {x : S31} {cs : List Value} (h : k31.M w base ok x cs) : cs = [.int .i64 x.f0, .int .i64 x.f1, .string x.f2, .int .i64 x.f3, .int .i64 x.f4, .int .i64 x.f5.f0, .int .i64 x.f5.f1, .int .i64 x.f5.f2, .int .i64 x.f5.f3, .bool x.f5.f4, .int .i64 x.f5.f5, .int .i64 x.f5.f6, .int .i64 x.f5.f7, .bool x.f5.f8, .int .i64 x.f5.f9, .int .i64 x.f5.f10, .bool x.f5.f11, .int .i64 x.f5.f12, .bool x.f5.f13, .int .i64 x.f5.f14, .int .i64 x.f5.f15] := by
  obtain ⟨_, _, rfl, rfl, ⟨_, _, rfl, rfl, ⟨_, _, rfl, rfl, ⟨_, _, rfl, rfl, ⟨_, _, rfl, rfl, s5⟩⟩⟩⟩⟩ := h
  obtain rfl := k29_openM s5
  exact rfl
theorem k31_mk (w : World) (x : S31)  : k31.K w x [.int .i64 x.f0, .int .i64 x.f1, .string x.f2, .int .i64 x.f3, .int .i64 x.f4, .int .i64 x.f5.f0, .int .i64 x.f5.f1, .int .i64 x.f5.f2, .int .i64 x.f5.f3, .bool x.f5.f4, .int .i64 x.f5.f5, .int .i64 x.f5.f6, .int .i64 x.f5.f7, .bool x.f5.f8, .int .i64 x.f5.f9, .int .i64 x.f5.f10, .bool x.f5.f11, .int .i64 x.f5.f12, .bool x.f5.f13, .int .i64 x.f5.f14, .int .i64 x.f5.f15] := ⟨[.int .i64 x.f0], [.int .i64 x.f1, .string x.f2, .int .i64 x.f3, .int .i64 x.f4, .int .i64 x.f5.f0, .int .i64 x.f5.f1, .int .i64 x.f5.f2, .int .i64 x.f5.f3, .bool x.f5.f4, .int .i64 x.f5.f5, .int .i64 x.f5.f6, .int .i64 x.f5.f7, .bool x.f5.f8, .int .i64 x.f5.f9, .int .i64 x.f5.f10, .bool x.f5.f11, .int .i64 x.f5.f12, .bool x.f5.f13, .int .i64 x.f5.f14, .int .i64 x.f5.f15], rfl, rfl, ⟨[.int .i64 x.f1], [.string x.f2, .int .i64 x.f3, .int .i64 x.f4, .int .i64 x.f5.f0, .int .i64 x.f5.f1, .int .i64 x.f5.f2, .int .i64 x.f5.f3, .bool x.f5.f4, .int .i64 x.f5.f5, .int .i64 x.f5.f6, .int .i64 x.f5.f7, .bool x.f5.f8, .int .i64 x.f5.f9, .int .i64 x.f5.f10, .bool x.f5.f11, .int .i64 x.f5.f12, .bool x.f5.f13, .int .i64 x.f5.f14, .int .i64 x.f5.f15], rfl, rfl, ⟨[.string x.f2], [.int .i64 x.f3, .int .i64 x.f4, .int .i64 x.f5.f0, .int .i64 x.f5.f1, .int .i64 x.f5.f2, .int .i64 x.f5.f3, .bool x.f5.f4, .int .i64 x.f5.f5, .int .i64 x.f5.f6, .int .i64 x.f5.f7, .bool x.f5.f8, .int .i64 x.f5.f9, .int .i64 x.f5.f10, .bool x.f5.f11, .int .i64 x.f5.f12, .bool x.f5.f13, .int .i64 x.f5.f14, .int .i64 x.f5.f15], rfl, rfl, ⟨[.int .i64 x.f3], [.int .i64 x.f4, .int .i64 x.f5.f0, .int .i64 x.f5.f1, .int .i64 x.f5.f2, .int .i64 x.f5.f3, .bool x.f5.f4, .int .i64 x.f5.f5, .int .i64 x.f5.f6, .int .i64 x.f5.f7, .bool x.f5.f8, .int .i64 x.f5.f9, .int .i64 x.f5.f10, .bool x.f5.f11, .int .i64 x.f5.f12, .bool x.f5.f13, .int .i64 x.f5.f14, .int .i64 x.f5.f15], rfl, rfl, ⟨[.int .i64 x.f4], [.int .i64 x.f5.f0, .int .i64 x.f5.f1, .int .i64 x.f5.f2, .int .i64 x.f5.f3, .bool x.f5.f4, .int .i64 x.f5.f5, .int .i64 x.f5.f6, .int .i64 x.f5.f7, .bool x.f5.f8, .int .i64 x.f5.f9, .int .i64 x.f5.f10, .bool x.f5.f11, .int .i64 x.f5.f12, .bool x.f5.f13, .int .i64 x.f5.f14, .int .i64 x.f5.f15], rfl, rfl, (k29_mk w x.f5 )⟩⟩⟩⟩⟩
theorem k31_mkM (w : World) (base : Nat) (ok : Nat → Prop) (x : S31)  : k31.M w base ok x [.int .i64 x.f0, .int .i64 x.f1, .string x.f2, .int .i64 x.f3, .int .i64 x.f4, .int .i64 x.f5.f0, .int .i64 x.f5.f1, .int .i64 x.f5.f2, .int .i64 x.f5.f3, .bool x.f5.f4, .int .i64 x.f5.f5, .int .i64 x.f5.f6, .int .i64 x.f5.f7, .bool x.f5.f8, .int .i64 x.f5.f9, .int .i64 x.f5.f10, .bool x.f5.f11, .int .i64 x.f5.f12, .bool x.f5.f13, .int .i64 x.f5.f14, .int .i64 x.f5.f15] := ⟨[.int .i64 x.f0], [.int .i64 x.f1, .string x.f2, .int .i64 x.f3, .int .i64 x.f4, .int .i64 x.f5.f0, .int .i64 x.f5.f1, .int .i64 x.f5.f2, .int .i64 x.f5.f3, .bool x.f5.f4, .int .i64 x.f5.f5, .int .i64 x.f5.f6, .int .i64 x.f5.f7, .bool x.f5.f8, .int .i64 x.f5.f9, .int .i64 x.f5.f10, .bool x.f5.f11, .int .i64 x.f5.f12, .bool x.f5.f13, .int .i64 x.f5.f14, .int .i64 x.f5.f15], rfl, rfl, ⟨[.int .i64 x.f1], [.string x.f2, .int .i64 x.f3, .int .i64 x.f4, .int .i64 x.f5.f0, .int .i64 x.f5.f1, .int .i64 x.f5.f2, .int .i64 x.f5.f3, .bool x.f5.f4, .int .i64 x.f5.f5, .int .i64 x.f5.f6, .int .i64 x.f5.f7, .bool x.f5.f8, .int .i64 x.f5.f9, .int .i64 x.f5.f10, .bool x.f5.f11, .int .i64 x.f5.f12, .bool x.f5.f13, .int .i64 x.f5.f14, .int .i64 x.f5.f15], rfl, rfl, ⟨[.string x.f2], [.int .i64 x.f3, .int .i64 x.f4, .int .i64 x.f5.f0, .int .i64 x.f5.f1, .int .i64 x.f5.f2, .int .i64 x.f5.f3, .bool x.f5.f4, .int .i64 x.f5.f5, .int .i64 x.f5.f6, .int .i64 x.f5.f7, .bool x.f5.f8, .int .i64 x.f5.f9, .int .i64 x.f5.f10, .bool x.f5.f11, .int .i64 x.f5.f12, .bool x.f5.f13, .int .i64 x.f5.f14, .int .i64 x.f5.f15], rfl, rfl, ⟨[.int .i64 x.f3], [.int .i64 x.f4, .int .i64 x.f5.f0, .int .i64 x.f5.f1, .int .i64 x.f5.f2, .int .i64 x.f5.f3, .bool x.f5.f4, .int .i64 x.f5.f5, .int .i64 x.f5.f6, .int .i64 x.f5.f7, .bool x.f5.f8, .int .i64 x.f5.f9, .int .i64 x.f5.f10, .bool x.f5.f11, .int .i64 x.f5.f12, .bool x.f5.f13, .int .i64 x.f5.f14, .int .i64 x.f5.f15], rfl, rfl, ⟨[.int .i64 x.f4], [.int .i64 x.f5.f0, .int .i64 x.f5.f1, .int .i64 x.f5.f2, .int .i64 x.f5.f3, .bool x.f5.f4, .int .i64 x.f5.f5, .int .i64 x.f5.f6, .int .i64 x.f5.f7, .bool x.f5.f8, .int .i64 x.f5.f9, .int .i64 x.f5.f10, .bool x.f5.f11, .int .i64 x.f5.f12, .bool x.f5.f13, .int .i64 x.f5.f14, .int .i64 x.f5.f15], rfl, rfl, (k29_mkM w base ok x.f5 )⟩⟩⟩⟩⟩
theorem k31_mkF (W : World) (ok : Nat → Prop) (x : S31) : Kd.FK k31 W ok x [.int .i64 x.f0, .int .i64 x.f1, .string x.f2, .int .i64 x.f3, .int .i64 x.f4, .int .i64 x.f5.f0, .int .i64 x.f5.f1, .int .i64 x.f5.f2, .int .i64 x.f5.f3, .bool x.f5.f4, .int .i64 x.f5.f5, .int .i64 x.f5.f6, .int .i64 x.f5.f7, .bool x.f5.f8, .int .i64 x.f5.f9, .int .i64 x.f5.f10, .bool x.f5.f11, .int .i64 x.f5.f12, .bool x.f5.f13, .int .i64 x.f5.f14, .int .i64 x.f5.f15] := fun W2 _ => k31_mk W2 x
def rd_T31 (xs : List S31) (i : Int) : S31 := xs.getD i.toNat z31
theorem at_T31 {w : World} {A : Option Addr} {n : Nat} {xs : List S31} (h : Kd.C k31 w A n xs) (i : Int) (h0 : 0 ≤ i) (h1 : i < n) : ∃ ad , A = some ad ∧ w.cell? (ad.add (i.toNat * 21)) = some (.int .i64 (rd_T31 xs i).f0) ∧ w.cell? ⟨(ad.add (i.toNat * 21)).block, (ad.add (i.toNat * 21)).off + 1, none⟩ = some (.int .i64 (rd_T31 xs i).f1) ∧ w.cell? ⟨(ad.add (i.toNat * 21)).block, (ad.add (i.toNat * 21)).off + 2, none⟩ = some (.string (rd_T31 xs i).f2) ∧ w.cell? ⟨(ad.add (i.toNat * 21)).block, (ad.add (i.toNat * 21)).off + 3, none⟩ = some (.int .i64 (rd_T31 xs i).f3) ∧ w.cell? ⟨(ad.add (i.toNat * 21)).block, (ad.add (i.toNat * 21)).off + 4, none⟩ = some (.int .i64 (rd_T31 xs i).f4) ∧ w.cell? ⟨(ad.add (i.toNat * 21)).block, (ad.add (i.toNat * 21)).off + 5, none⟩ = some (.int .i64 (rd_T31 xs i).f5.f0) ∧ w.cell? ⟨(ad.add (i.toNat * 21)).block, (ad.add (i.toNat * 21)).off + 6, none⟩ = some (.int .i64 (rd_T31 xs i).f5.f1) ∧ w.cell? ⟨(ad.add (i.toNat * 21)).block, (ad.add (i.toNat * 21)).off + 7, none⟩ = some (.int .i64 (rd_T31 xs i).f5.f2) ∧ w.cell? ⟨(ad.add (i.toNat * 21)).block, (ad.add (i.toNat * 21)).off + 8, none⟩ = some (.int .i64 (rd_T31 xs i).f5.f3) ∧ w.cell? ⟨(ad.add (i.toNat * 21)).block, (ad.add (i.toNat * 21)).off + 9, none⟩ = some (.bool (rd_T31 xs i).f5.f4) ∧ w.cell? ⟨(ad.add (i.toNat * 21)).block, (ad.add (i.toNat * 21)).off + 10, none⟩ = some (.int .i64 (rd_T31 xs i).f5.f5) ∧ w.cell? ⟨(ad.add (i.toNat * 21)).block, (ad.add (i.toNat * 21)).off + 11, none⟩ = some (.int .i64 (rd_T31 xs i).f5.f6) ∧ w.cell? ⟨(ad.add (i.toNat * 21)).block, (ad.add (i.toNat * 21)).off + 12, none⟩ = some (.int .i64 (rd_T31 xs i).f5.f7) ∧ w.cell? ⟨(ad.add (i.toNat * 21)).block, (ad.add (i.toNat * 21)).off + 13, none⟩ = some (.bool (rd_T31 xs i).f5.f8) ∧ w.cell? ⟨(ad.add (i.toNat * 21)).block, (ad.add (i.toNat * 21)).off + 14, none⟩ = some (.int .i64 (rd_T31 xs i).f5.f9) ∧ w.cell? ⟨(ad.add (i.toNat * 21)).block, (ad.add (i.toNat * 21)).off + 15, none⟩ = some (.int .i64 (rd_T31 xs i).f5.f10) ∧ w.cell? ⟨(ad.add (i.toNat * 21)).block, (ad.add (i.toNat * 21)).off + 16, none⟩ = some (.bool (rd_T31 xs i).f5.f11) ∧ w.cell? ⟨(ad.add (i.toNat * 21)).block, (ad.add (i.toNat * 21)).off + 17, none⟩ = some (.int .i64 (rd_T31 xs i).f5.f12) ∧ w.cell? ⟨(ad.add (i.toNat * 21)).block, (ad.add (i.toNat * 21)).off + 18, none⟩ = some (.bool (rd_T31 xs i).f5.f13) ∧ w.cell? ⟨(ad.add (i.toNat * 21)).block, (ad.add (i.toNat * 21)).off + 19, none⟩ = some (.int .i64 (rd_T31 xs i).f5.f14) ∧ w.cell? ⟨(ad.add (i.toNat * 21)).block, (ad.add (i.toNat * 21)).off + 20, none⟩ = some (.int .i64 (rd_T31 xs i).f5.f15) := by
  obtain ⟨ad, c, e, _, hK, hc0⟩ := Kd.C_get h z31 i h0 h1
  have hc : ∀ j u, c[j]? = some u → w.cell? (ad.add (i.toNat * 21 + j)) = some u := hc0
  obtain rfl := k31_open hK
  exact ⟨ad, e, hc 0 _ rfl, by rw [← add_field _ _ 1 (by omega)]; exact hc 1 _ rfl, by rw [← add_field _ _ 2 (by omega)]; exact hc 2 _ rfl, by rw [← add_field _ _ 3 (by omega)]; exact hc 3 _ rfl, by rw [← add_field _ _ 4 (by omega)]; exact hc 4 _ rfl, by rw [← add_field _ _ 5 (by omega)]; exact hc 5 _ rfl, by rw [← add_field _ _ 6 (by omega)]; exact hc 6 _ rfl, by rw [← add_field _ _ 7 (by omega)]; exact hc 7 _ rfl, by rw [← add_field _ _ 8 (by omega)]; exact hc 8 _ rfl, by rw [← add_field _ _ 9 (by omega)]; exact hc 9 _ rfl, by rw [← add_field _ _ 10 (by omega)]; exact hc 10 _ rfl, by rw [← add_field _ _ 11 (by omega)]; exact hc 11 _ rfl, by rw [← add_field _ _ 12 (by omega)]; exact hc 12 _ rfl, by rw [← add_field _ _ 13 (by omega)]; exact hc 13 _ rfl, by rw [← add_field _ _ 14 (by omega)]; exact hc 14 _ rfl, by rw [← add_field _ _ 15 (by omega)]; exact hc 15 _ rfl, by rw [← add_field _ _ 16 (by omega)]; exact hc 16 _ rfl, by rw [← add_field _ _ 17 (by omega)]; exact hc 17 _ rfl, by rw [← add_field _ _ 18 (by omega)]; exact hc 18 _ rfl, by rw [← add_field _ _ 19 (by omega)]; exact hc 19 _ rfl, by rw [← add_field _ _ 20 (by omega)]; exact hc 20 _ rfl⟩

def rd_L5 (xs : List (List S31)) (i : Int) : (List S31) := xs.getD i.toNat ([] : List S31)
theorem at_L5 {w : World} {A : Option Addr} {n : Nat} {xs : List (List S31)} (h : Kd.C (Kd.slice 31 k31) w A n xs) (i : Int) (h0 : 0 ≤ i) (h1 : i < n) : ∃ ad A0 c0, A = some ad ∧ w.cell? (ad.add i.toNat) = some (.slice A0 (rd_L5 xs i).length c0) ∧ (rd_L5 xs i).length ≤ c0 ∧ k31.C w A0 (rd_L5 xs i).length (rd_L5 xs i) := by
  obtain ⟨ad, c, e, _, hK, hc0⟩ := Kd.C_get h ([] : List S31) i h0 h1
  have hc : ∀ j u, c[j]? = some u → w.cell? (ad.add (i.toNat * 1 + j)) = some u := hc0
  obtain ⟨A0, c0, rfl, l0, g0⟩ := hK
  exact ⟨ad, A0, c0, e, by have hq := hc 0 _ rfl; rwa [Nat.mul_one, Nat.add_zero] at hq, l0, g0⟩

def rd_L6 (xs : List (List Int)) (i : Int) : (List Int) := xs.getD i.toNat ([] : List Int)
theorem at_L6 {w : World} {A : Option Addr} {n : Nat} {xs : List (List Int)} (h : Kd.C (Kd.slice 3 (Kd.int .i64)) w A n xs) (i : Int) (h0 : 0 ≤ i) (h1 : i < n) : ∃ ad A0 c0, A = some ad ∧ w.cell? (ad.add i.toNat) = some (.slice A0 (rd_L6 xs i).length c0) ∧ (rd_L6 xs i).length ≤ c0 ∧ (Kd.int .i64).C w A0 (rd_L6 xs i).length (rd_L6 xs i) := by
  obtain ⟨ad, c, e, _, hK, hc0⟩ := Kd.C_get h ([] : List Int) i h0 h1
  have hc : ∀ j u, c[j]? = some u → w.cell? (ad.add (i.toNat * 1 + j)) = some u := hc0
  obtain ⟨A0, c0, rfl, l0, g0⟩ := hK
  exact ⟨ad, A0, c0, e, by have hq := hc 0 _ rfl; rwa [Nat.mul_one, Nat.add_zero] at hq, l0, g0⟩

/-! #### struct type 40 -/
structure S40 where
  f0 : Bool
  f1 : (List Int)
def z40 : S40 := ⟨false, ([] : List Int)⟩
def k40 : Kd S40 := Kd.iso (Kd.pair Kd.bool (Kd.slice 3 (Kd.int .i64))) (fun x : S40 => (x.f0, x.f1))
theorem k40_heap : Kd.Heap k40 := Kd.heap_iso _ (Kd.heap_pair Kd.heap_bool (Kd.heap_slice 3 (Kd.heap_int .i64)))
theorem k40_open {w : World} {x : S40} {cs : List Value} (h : k40.K w x cs) : ∃ A1 c1, cs = [.bool x.f0, .slice A1 x.f1.length c1] ∧ x.f1.length ≤ c1 ∧ (Kd.int .i64).C w A1 x.f1.length x.f1 := by
  obtain ⟨_, _, rfl, rfl, ⟨A1, c1, rfl, l1, g1⟩⟩ := h
  exact ⟨A1, c1, rfl, l1, g1⟩
theorem k40_openM {w : World} {base : Nat} {ok : Nat → Prop} {x : S40} {cs : List Value} (h : k40.M w base ok x cs) : ∃ v1, cs = [.bool x.f0, v1] ∧ (Kd.int .i64).R 3 w base ok v1 x.f1 := by
  obtain ⟨_, _, rfl, rfl, ⟨v1, rfl, g1⟩⟩ := h
  exact ⟨v1, rfl, g1⟩
theorem k40_mk (w : World) (x : S40) {A1 : Option Addr} {c1 : Nat} (l1 : x.f1.length ≤ c1) (g1 : (Kd.int .i64).C w A1 x.f1.length x.f1) : k40.K w x [.bool x.f0, .slice A1 x.f1.length c1] := ⟨[.bool x.f0], [.slice A1 x.f1.length c1], rfl, rfl, ⟨A1, c1, rfl, l1, g1⟩⟩
theorem k40_mkM (w : World) (base : Nat) (ok : Nat → Prop) (x : S40) {v1 : Value} (g1 : (Kd.int .i64).R 3 w base ok v1 x.f1) : k40.M w base ok x [.bool x.f0, v1] := ⟨[.bool x.f0], [v1], rfl, rfl, ⟨v1, rfl, g1⟩⟩
theorem k40_openF {W : World} {ok : Nat → Prop} {x : S40} {cs : List Value} (h : Kd.FK k40 W ok x cs) : ∃ A1 c1, cs = [.bool x.f0, .slice A1 x.f1.length c1] ∧ x.f1.length ≤ c1 ∧ Kd.F (Kd.int .i64) W ok A1 x.f1.length x.f1 := by
  obtain ⟨A1, c1, rfl, l1, _⟩ := k40_open (Kd.FK_now h)
  exact ⟨A1, c1, rfl, l1, (fun W' hW => by obtain ⟨A1_, c1_, he, l1_, g1_⟩ := k40_open (h W' hW); injection (Option.some.inj (show some (Value.slice A1 x.f1.length c1) = some (Value.slice A1_ x.f1.length c1_) from congrArg (fun l => l[1]?) he)) with ha_ _ _; rw [ha_]; exact g1_)⟩
theorem k40_mkF (W : World) (ok : Nat → Prop) (x : S40) {A1 : Option Addr} {c1 : Nat} (l1 : x.f1.length ≤ c1) (g1 : Kd.F (Kd.int .i64) W ok A1 x.f1.length x.f1) : Kd.FK k40 W ok x [.bool x.f0, .slice A1 x.f1.length c1] := fun W2 hW => k40_mk W2 x l1 (g1 W2 hW)
def rd_T40 (xs : List S40) (i : Int) : S40 := xs.getD i.toNat z40
theorem at_T40 {w : World} {A : Option Addr} {n : Nat} {xs : List S40} (h : Kd.C k40 w A n xs) (i : Int) (h0 : 0 ≤ i) (h1 : i < n) : ∃ ad A1 c1, A = some ad ∧ w.cell? (ad.add (i.toNat * 2)) = some (.bool (rd_T40 xs i).f0) ∧ w.cell? ⟨(ad.add (i.toNat * 2)).block, (ad.add (i.toNat * 2)).off + 1, none⟩ = some (.slice A1 (rd_T40 xs i).f1.length c1) ∧ (rd_T40 xs i).f1.length ≤ c1 ∧ (Kd.int .i64).C w A1 (rd_T40 xs i).f1.length (rd_T40 xs i).f1 := by
  obtain ⟨ad, c, e, _, hK, hc0⟩ := Kd.C_get h z40 i h0 h1
  have hc : ∀ j u, c[j]? = some u → w.cell? (ad.add (i.toNat * 2 + j)) = some u := hc0
  obtain ⟨A1, c1, rfl, l1, g1⟩ := k40_open hK
  exact ⟨ad, A1, c1, e, hc 0 _ rfl, by rw [← add_field _ _ 1 (by omega)]; exact hc 1 _ rfl, l1, g1⟩

def rd_L8 (xs : List (List S40)) (i : Int) : (List S40) := xs.getD i.toNat ([] : List S40)
theorem at_L8 {w : World} {A : Option Addr} {n : Nat} {xs : List (List S40)} (h : Kd.C (Kd.slice 40 k40) w A n xs) (i : Int) (h0 : 0 ≤ i) (h1 : i < n) : ∃ ad A0 c0, A = some ad ∧ w.cell? (ad.add i.toNat) = some (.slice A0 (rd_L8 xs i).length c0) ∧ (rd_L8 xs i).length ≤ c0 ∧ k40.C w A0 (rd_L8 xs i).length (rd_L8 xs i) := by
  obtain ⟨ad, c, e, _, hK, hc0⟩ := Kd.C_get h ([] : List S40) i h0 h1
  have hc : ∀ j u, c[j]? = some u → w.cell? (ad.add (i.toNat * 1 + j)) = some u := hc0
  obtain ⟨A0, c0, rfl, l0, g0⟩ := hK
  exact ⟨ad, A0, c0, e, by have hq := hc 0 _ rfl; rwa [Nat.mul_one, Nat.add_zero] at hq, l0, g0⟩

end Go.Proofs.YtdphijhebppeeaaDoor.G
