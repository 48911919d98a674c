/- Functions of the law and of what it calls as plain Lean functions, and that the calls come to their answers: written by fprint.py. -/
import Derived.Test.YtjafcgemgghbiaaDoorProg
import Derived.Below
import Derived.Deep.Draws
import Derived.Deep.AppendLies
import Derived.Maps.AppendAt
import Derived.OwnWalk
import Derived.Laws.BytesArg
import Derived.Laws.MakeOwn
import Derived.Laws.OwnMore
import Derived.Deep.OwnRows
import Derived.Tactics
import Derived.Lib.ConvBytes
import Derived.Laws.Slices
import Derived.WalkKit
import Derived.KernelRfl
import Derived.RowKit3
import Derived.Deep.LoopGhost
import Derived.Deep.QuietTactic
import Derived.BigQuiet
import Derived.WideLaws
import Derived.Deep.DeepCutAuto
import Derived.Deep.CutBlock
import Derived.Deep.RegionHeld3
import Derived.Laws.Rows
import Derived.Lib.AppendStr
import Derived.ArgAppend
import Derived.Laws.IdiomCopy
import Derived.OrdersHeld
import Derived.Laws.BitsLemmas
import Derived.RowKit
import Derived.Test.YtjafcgemgghbiaaDoorWWords
import Derived.Test.YtjafcgemgghbiaaDoorWLast
import Derived.Test.YtjafcgemgghbiaaDoorWTab
import Derived.Test.YtjafcgemgghbiaaDoorWFour
import Derived.Test.YtjafcgemgghbiaaDoorWQPut
import Derived.Test.YtjafcgemgghbiaaDoorWApart
import Derived.Test.YtjafcgemgghbiaaDoorWArr
import Derived.Test.YtjafcgemgghbiaaDoorWZeros
import Derived.Test.YtjafcgemgghbiaaDoorWFoot
import Derived.Test.YtjafcgemgghbiaaDoorWKept
import Derived.Test.YtjafcgemgghbiaaDoorWShare
import Derived.Test.YtjafcgemgghbiaaDoorWN
import Derived.Test.YtjafcgemgghbiaaDoorWFootNe
import Derived.Test.YtjafcgemgghbiaaDoorWAt
import Derived.Test.YtjafcgemgghbiaaDoorWEqStruct
import Derived.Test.YtjafcgemgghbiaaDoorWRepsOne
import Derived.Test.YtjafcgemgghbiaaDoorWInv
import Derived.Test.YtjafcgemgghbiaaDoorWInvWords
import Derived.Test.YtjafcgemgghbiaaDoorWGuard
import Derived.Test.YtjafcgemgghbiaaDoorWNEv
import Derived.Test.YtjafcgemgghbiaaDoorWMore
namespace Go.Proofs.YtjafcgemgghbiaaDoor.G
open Go.RowKit Go.Proofs.YtjafcgemgghbiaaDoorW.PrintWords Go.Proofs.YtjafcgemgghbiaaDoorW.PrintLast Go.Proofs.YtjafcgemgghbiaaDoorW.PrintMore
attribute [local go_sem] max2_int min2_int max_two min_two max_three min_three max_four min_four   -- for this text's walks alone
set_option linter.unusedVariables false
set_option linter.unusedSimpArgs false



def errW : Option Int → Value
  | none => .nilIface
  | some c => .iface 0 (.int .i64 c)
theorem errW_none : errW none = .nilIface := rfl
theorem errW_some (c : Int) : errW (some c) = .iface 0 (.int .i64 c) := rfl

theorem info3 : (Tryd.prog.info? 3).map (fun i => (i.zero, i.size, i.bytes)) = some (some (.int .i64 0), 1, 8) := by kernel_rfl
theorem info32 : (Tryd.prog.info? 32).map (fun i => (i.zero, i.size, i.bytes)) = some (some (.agg #[(.int .i64 0), (.int .i64 0), (.string ⟨#[]⟩), (.int .i64 0), (.int .i64 0), (.int .i64 0), (.int .i64 0), (.int .i64 0), (.int .i64 0), (.bool false), (.int .i64 0), (.int .i64 0), (.int .i64 0), (.bool false), (.int .i64 0), (.int .i64 0), (.bool false), (.int .i64 0), (.bool false), (.int .i64 0), (.int .i64 0)]), 21, 176) := by kernel_rfl
-- the values' own types
/-! #### struct type 30 -/
structure S30 where
  f0 : Int
  f1 : Int
  f2 : Int
  f3 : Int
  f4 : Bool
  f5 : Int
  f6 : Int
  f7 : Int
  f8 : Bool
  f9 : Int
  f10 : Int
  f11 : Bool
  f12 : Int
  f13 : Bool
  f14 : Int
  f15 : Int
def z30 : S30 := ⟨(0 : Int), (0 : Int), (0 : Int), (0 : Int), false, (0 : Int), (0 : Int), (0 : Int), false, (0 : Int), (0 : Int), false, (0 : Int), false, (0 : Int), (0 : Int)⟩
def k30 : Kd S30 := Kd.iso (Kd.pair (Kd.int .i64) (Kd.pair (Kd.int .i64) (Kd.pair (Kd.int .i64) (Kd.pair (Kd.int .i64) (Kd.pair Kd.bool (Kd.pair (Kd.int .i64) (Kd.pair (Kd.int .i64) (Kd.pair (Kd.int .i64) (Kd.pair Kd.bool (Kd.pair (Kd.int .i64) (Kd.pair (Kd.int .i64) (Kd.pair Kd.bool (Kd.pair (Kd.int .i64) (Kd.pair Kd.bool (Kd.pair (Kd.int .i64) (Kd.int .i64)))))))))))))))) (fun x : S30 => (x.f0, x.f1, x.f2, x.f3, x.f4, x.f5, x.f6, x.f7, x.f8, x.f9, x.f10, x.f11, x.f12, x.f13, x.f14, x.f15))
theorem k30_open {w : World} {x : S30} {cs : List Value} (h : k30.K w x cs) : cs = [.int .i64 x.f0, .int .i64 x.f1, .int .i64 x.f2, .int .i64 x.f3, .bool x.f4, .int .i64 x.f5, .int .i64 x.f6, .int .i64 x.f7, .bool x.f8, .int .i64 x.f9, .int .i64 x.f10, .bool x.f11, .int .i64 x.f12, .bool x.f13, .int .i64 x.f14, .int .i64 x.f15] := by
  obtain ⟨_, _, rfl, rfl, ⟨_, _, rfl, rfl, ⟨_, _, rfl, rfl, ⟨_, _, rfl, rfl, ⟨_, _, rfl, rfl, ⟨_, _, rfl, rfl, ⟨_, _, rfl, rfl, ⟨_, _, rfl, rfl, ⟨_, _, rfl, rfl, ⟨_, _, rfl, rfl, ⟨_, _, rfl, rfl, ⟨_, _, rfl, rfl, ⟨_, _, rfl, rfl, ⟨_, _, rfl, rfl, ⟨_, _, rfl, rfl, rfl⟩⟩⟩⟩⟩⟩⟩⟩⟩⟩⟩⟩⟩⟩⟩ := h
  exact rfl
theorem k30_openM {w : World} {base : Nat} {ok : Nat → Prop} {x : S30} {cs : List Value} (h : k30.M w base ok x cs) : cs = [.int .i64 x.f0, .int .i64 x.f1, .int .i64 x.f2, .int .i64 x.f3, .bool x.f4, .int .i64 x.f5, .int .i64 x.f6, .int .i64 x.f7, .bool x.f8, .int .i64 x.f9, .int .i64 x.f10, .bool x.f11, .int .i64 x.f12, .bool x.f13, .int .i64 x.f14, .int .i64 x.f15] := by
  obtain ⟨_, _, rfl, rfl, ⟨_, _, rfl, rfl, ⟨_, _, rfl, rfl, ⟨_, _, rfl, rfl, ⟨_, _, rfl, rfl, ⟨_, _, rfl, rfl, ⟨_, _, rfl, rfl, ⟨_, _, rfl, rfl, ⟨_, _, rfl, rfl, ⟨_, _, rfl, rfl, ⟨_, _, rfl, rfl, ⟨_, _, rfl, rfl, ⟨_, _, rfl, rfl, ⟨_, _, rfl, rfl, ⟨_, _, rfl, rfl, rfl⟩⟩⟩⟩⟩⟩⟩⟩⟩⟩⟩⟩⟩⟩⟩ := h
  exact rfl
theorem k30_mk (w : World) (x : S30)  : k30.K w x [.int .i64 x.f0, .int .i64 x.f1, .int .i64 x.f2, .int .i64 x.f3, .bool x.f4, .int .i64 x.f5, .int .i64 x.f6, .int .i64 x.f7, .bool x.f8, .int .i64 x.f9, .int .i64 x.f10, .bool x.f11, .int .i64 x.f12, .bool x.f13, .int .i64 x.f14, .int .i64 x.f15] := ⟨[.int .i64 x.f0], [.int .i64 x.f1, .int .i64 x.f2, .int .i64 x.f3, .bool x.f4, .int .i64 x.f5, .int .i64 x.f6, .int .i64 x.f7, .bool x.f8, .int .i64 x.f9, .int .i64 x.f10, .bool x.f11, .int .i64 x.f12, .bool x.f13, .int .i64 x.f14, .int .i64 x.f15], rfl, rfl, ⟨[.int .i64 x.f1], [.int .i64 x.f2, .int .i64 x.f3, .bool x.f4, .int .i64 x.f5, .int .i64 x.f6, .int .i64 x.f7, .bool x.f8, .int .i64 x.f9, .int .i64 x.f10, .bool x.f11, .int .i64 x.f12, .bool x.f13, .int .i64 x.f14, .int .i64 x.f15], rfl, rfl, ⟨[.int .i64 x.f2], [.int .i64 x.f3, .bool x.f4, .int .i64 x.f5, .int .i64 x.f6, .int .i64 x.f7, .bool x.f8, .int .i64 x.f9, .int .i64 x.f10, .bool x.f11, .int .i64 x.f12, .bool x.f13, .int .i64 x.f14, .int .i64 x.f15], rfl, rfl, ⟨[.int .i64 x.f3], [.bool x.f4, .int .i64 x.f5, .int .i64 x.f6, .int .i64 x.f7, .bool x.f8, .int .i64 x.f9, .int .i64 x.f10, .bool x.f11, .int .i64 x.f12, .bool x.f13, .int .i64 x.f14, .int .i64 x.f15], rfl, rfl, ⟨[.bool x.f4], [.int .i64 x.f5, .int .i64 x.f6, .int .i64 x.f7, .bool x.f8, .int .i64 x.f9, .int .i64 x.f10, .bool x.f11, .int .i64 x.f12, .bool x.f13, .int .i64 x.f14, .int .i64 x.f15], rfl, rfl, ⟨[.int .i64 x.f5], [.int .i64 x.f6, .int .i64 x.f7, .bool x.f8, .int .i64 x.f9, .int .i64 x.f10, .bool x.f11, .int .i64 x.f12, .bool x.f13, .int .i64 x.f14, .int .i64 x.f15], rfl, rfl, ⟨[.int .i64 x.f6], [.int .i64 x.f7, .bool x.f8, .int .i64 x.f9, .int .i64 x.f10, .bool x.f11, .int .i64 x.f12, .bool x.f13, .int .i64 x.f14, .int .i64 x.f15], rfl, rfl, ⟨[.int .i64 x.f7], [.bool x.f8, .int .i64 x.f9, .int .i64 x.f10, .bool x.f11, .int .i64 x.f12, .bool x.f13, .int .i64 x.f14, .int .i64 x.f15], rfl, rfl, ⟨[.bool x.f8], [.int .i64 x.f9, .int .i64 x.f10, .bool x.f11, .int .i64 x.f12, .bool x.f13, .int .i64 x.f14, .int .i64 x.f15], rfl, rfl, ⟨[.int .i64 x.f9], [.int .i64 x.f10, .bool x.f11, .int .i64 x.f12, .bool x.f13, .int .i64 x.f14, .int .i64 x.f15], rfl, rfl, ⟨[.int .i64 x.f10], [.bool x.f11, .int .i64 x.f12, .bool x.f13, .int .i64 x.f14, .int .i64 x.f15], rfl, rfl, ⟨[.bool x.f11], [.int .i64 x.f12, .bool x.f13, .int .i64 x.f14, .int .i64 x.f15], rfl, rfl, ⟨[.int .i64 x.f12], [.bool x.f13, .int .i64 x.f14, .int .i64 x.f15], rfl, rfl, ⟨[.bool x.f13], [.int .i64 x.f14, .int .i64 x.f15], rfl, rfl, ⟨[.int .i64 x.f14], [.int .i64 x.f15], rfl, rfl, rfl⟩⟩⟩⟩⟩⟩⟩⟩⟩⟩⟩⟩⟩⟩⟩
theorem k30_mkM (w : World) (base : Nat) (ok : Nat → Prop) (x : S30)  : k30.M w base ok x [.int .i64 x.f0, .int .i64 x.f1, .int .i64 x.f2, .int .i64 x.f3, .bool x.f4, .int .i64 x.f5, .int .i64 x.f6, .int .i64 x.f7, .bool x.f8, .int .i64 x.f9, .int .i64 x.f10, .bool x.f11, .int .i64 x.f12, .bool x.f13, .int .i64 x.f14, .int .i64 x.f15] := ⟨[.int .i64 x.f0], [.int .i64 x.f1, .int .i64 x.f2, .int .i64 x.f3, .bool x.f4, .int .i64 x.f5, .int .i64 x.f6, .int .i64 x.f7, .bool x.f8, .int .i64 x.f9, .int .i64 x.f10, .bool x.f11, .int .i64 x.f12, .bool x.f13, .int .i64 x.f14, .int .i64 x.f15], rfl, rfl, ⟨[.int .i64 x.f1], [.int .i64 x.f2, .int .i64 x.f3, .bool x.f4, .int .i64 x.f5, .int .i64 x.f6, .int .i64 x.f7, .bool x.f8, .int .i64 x.f9, .int .i64 x.f10, .bool x.f11, .int .i64 x.f12, .bool x.f13, .int .i64 x.f14, .int .i64 x.f15], rfl, rfl, ⟨[.int .i64 x.f2], [.int .i64 x.f3, .bool x.f4, .int .i64 x.f5, .int .i64 x.f6, .int .i64 x.f7, .bool x.f8, .int .i64 x.f9, .int .i64 x.f10, .bool x.f11, .int .i64 x.f12, .bool x.f13, .int .i64 x.f14, .int .i64 x.f15], rfl, rfl, ⟨[.int .i64 x.f3], [.bool x.f4, .int .i64 x.f5, .int .i64 x.f6, .int .i64 x.f7, .bool x.f8, .int .i64 x.f9, .int .i64 x.f10, .bool x.f11, .int .i64 x.f12, .bool x.f13, .int .i64 x.f14, .int .i64 x.f15], rfl, rfl, ⟨[.bool x.f4], [.int .i64 x.f5, .int .i64 x.f6, .int .i64 x.f7, .bool x.f8, .int .i64 x.f9, .int .i64 x.f10, .bool x.f11, .int .i64 x.f12, .bool x.f13, .int .i64 x.f14, .int .i64 x.f15], rfl, rfl, ⟨[.int .i64 x.f5], [.int .i64 x.f6, .int .i64 x.f7, .bool x.f8, .int .i64 x.f9, .int .i64 x.f10, .bool x.f11, .int .i64 x.f12, .bool x.f13, .int .i64 x.f14, .int .i64 x.f15], rfl, rfl, ⟨[.int .i64 x.f6], [.int .i64 x.f7, .bool x.f8, .int .i64 x.f9, .int .i64 x.f10, .bool x.f11, .int .i64 x.f12, .bool x.f13, .int .i64 x.f14, .int .i64 x.f15], rfl, rfl, ⟨[.int .i64 x.f7], [.bool x.f8, .int .i64 x.f9, .int .i64 x.f10, .bool x.f11, .int .i64 x.f12, .bool x.f13, .int .i64 x.f14, .int .i64 x.f15], rfl, rfl, ⟨[.bool x.f8], [.int .i64 x.f9, .int .i64 x.f10, .bool x.f11, .int .i64 x.f12, .bool x.f13, .int .i64 x.f14, .int .i64 x.f15], rfl, rfl, ⟨[.int .i64 x.f9], [.int .i64 x.f10, .bool x.f11, .int .i64 x.f12, .bool x.f13, .int .i64 x.f14, .int .i64 x.f15], rfl, rfl, ⟨[.int .i64 x.f10], [.bool x.f11, .int .i64 x.f12, .bool x.f13, .int .i64 x.f14, .int .i64 x.f15], rfl, rfl, ⟨[.bool x.f11], [.int .i64 x.f12, .bool x.f13, .int .i64 x.f14, .int .i64 x.f15], rfl, rfl, ⟨[.int .i64 x.f12], [.bool x.f13, .int .i64 x.f14, .int .i64 x.f15], rfl, rfl, ⟨[.bool x.f13], [.int .i64 x.f14, .int .i64 x.f15], rfl, rfl, ⟨[.int .i64 x.f14], [.int .i64 x.f15], rfl, rfl, rfl⟩⟩⟩⟩⟩⟩⟩⟩⟩⟩⟩⟩⟩⟩⟩
def rd_T30 (xs : List S30) (i : Int) : S30 := xs.getD i.toNat z30
theorem at_T30 {w : World} {A : Option Addr} {n : Nat} {xs : List S30} (h : Kd.C k30 w A n xs) (i : Int) (h0 : 0 ≤ i) (h1 : i < n) : ∃ ad , A = some ad ∧ w.cell? (ad.add (i.toNat * 16)) = some (.int .i64 (rd_T30 xs i).f0) ∧ w.cell? ⟨(ad.add (i.toNat * 16)).block, (ad.add (i.toNat * 16)).off + 1, none⟩ = some (.int .i64 (rd_T30 xs i).f1) ∧ w.cell? ⟨(ad.add (i.toNat * 16)).block, (ad.add (i.toNat * 16)).off + 2, none⟩ = some (.int .i64 (rd_T30 xs i).f2) ∧ w.cell? ⟨(ad.add (i.toNat * 16)).block, (ad.add (i.toNat * 16)).off + 3, none⟩ = some (.int .i64 (rd_T30 xs i).f3) ∧ w.cell? ⟨(ad.add (i.toNat * 16)).block, (ad.add (i.toNat * 16)).off + 4, none⟩ = some (.bool (rd_T30 xs i).f4) ∧ w.cell? ⟨(ad.add (i.toNat * 16)).block, (ad.add (i.toNat * 16)).off + 5, none⟩ = some (.int .i64 (rd_T30 xs i).f5) ∧ w.cell? ⟨(ad.add (i.toNat * 16)).block, (ad.add (i.toNat * 16)).off + 6, none⟩ = some (.int .i64 (rd_T30 xs i).f6) ∧ w.cell? ⟨(ad.add (i.toNat * 16)).block, (ad.add (i.toNat * 16)).off + 7, none⟩ = some (.int .i64 (rd_T30 xs i).f7) ∧ w.cell? ⟨(ad.add (i.toNat * 16)).block, (ad.add (i.toNat * 16)).off + 8, none⟩ = some (.bool (rd_T30 xs i).f8) ∧ w.cell? ⟨(ad.add (i.toNat * 16)).block, (ad.add (i.toNat * 16)).off + 9, none⟩ = some (.int .i64 (rd_T30 xs i).f9) ∧ w.cell? ⟨(ad.add (i.toNat * 16)).block, (ad.add (i.toNat * 16)).off + 10, none⟩ = some (.int .i64 (rd_T30 xs i).f10) ∧ w.cell? ⟨(ad.add (i.toNat * 16)).block, (ad.add (i.toNat * 16)).off + 11, none⟩ = some (.bool (rd_T30 xs i).f11) ∧ w.cell? ⟨(ad.add (i.toNat * 16)).block, (ad.add (i.toNat * 16)).off + 12, none⟩ = some (.int .i64 (rd_T30 xs i).f12) ∧ w.cell? ⟨(ad.add (i.toNat * 16)).block, (ad.add (i.toNat * 16)).off + 13, none⟩ = some (.bool (rd_T30 xs i).f13) ∧ w.cell? ⟨(ad.add (i.toNat * 16)).block, (ad.add (i.toNat * 16)).off + 14, none⟩ = some (.int .i64 (rd_T30 xs i).f14) ∧ w.cell? ⟨(ad.add (i.toNat * 16)).block, (ad.add (i.toNat * 16)).off + 15, none⟩ = some (.int .i64 (rd_T30 xs i).f15) := by
  obtain ⟨ad, c, e, _, hK, hc0⟩ := Kd.C_get h z30 i h0 h1
  have hc : ∀ j u, c[j]? = some u → w.cell? (ad.add (i.toNat * 16 + j)) = some u := hc0
  obtain rfl := k30_open hK
  exact ⟨ad, e, hc 0 _ rfl, by rw [← add_field _ _ 1 (by omega)]; exact hc 1 _ rfl, by rw [← add_field _ _ 2 (by omega)]; exact hc 2 _ rfl, by rw [← add_field _ _ 3 (by omega)]; exact hc 3 _ rfl, by rw [← add_field _ _ 4 (by omega)]; exact hc 4 _ rfl, by rw [← add_field _ _ 5 (by omega)]; exact hc 5 _ rfl, by rw [← add_field _ _ 6 (by omega)]; exact hc 6 _ rfl, by rw [← add_field _ _ 7 (by omega)]; exact hc 7 _ rfl, by rw [← add_field _ _ 8 (by omega)]; exact hc 8 _ rfl, by rw [← add_field _ _ 9 (by omega)]; exact hc 9 _ rfl, by rw [← add_field _ _ 10 (by omega)]; exact hc 10 _ rfl, by rw [← add_field _ _ 11 (by omega)]; exact hc 11 _ rfl, by rw [← add_field _ _ 12 (by omega)]; exact hc 12 _ rfl, by rw [← add_field _ _ 13 (by omega)]; exact hc 13 _ rfl, by rw [← add_field _ _ 14 (by omega)]; exact hc 14 _ rfl, by rw [← add_field _ _ 15 (by omega)]; exact hc 15 _ rfl⟩

/-! #### struct type 32 -/
structure S32 where
  f0 : Int
  f1 : Int
  f2 : ByteArray
  f3 : Int
  f4 : Int
  f5 : S30
def z32 : S32 := ⟨(0 : Int), (0 : Int), (⟨#[]⟩ : ByteArray), (0 : Int), (0 : Int), z30⟩
def k32 : Kd S32 := Kd.iso (Kd.pair (Kd.int .i64) (Kd.pair (Kd.int .i64) (Kd.pair Kd.string (Kd.pair (Kd.int .i64) (Kd.pair (Kd.int .i64) k30))))) (fun x : S32 => (x.f0, x.f1, x.f2, x.f3, x.f4, x.f5))
theorem k32_open {w : World} {x : S32} {cs : List Value} (h : k32.K w x cs) : cs = [.int .i64 x.f0, .int .i64 x.f1, .string x.f2, .int .i64 x.f3, .int .i64 x.f4, .int .i64 x.f5.f0, .int .i64 x.f5.f1, .int .i64 x.f5.f2, .int .i64 x.f5.f3, .bool x.f5.f4, .int .i64 x.f5.f5, .int .i64 x.f5.f6, .int .i64 x.f5.f7, .bool x.f5.f8, .int .i64 x.f5.f9, .int .i64 x.f5.f10, .bool x.f5.f11, .int .i64 x.f5.f12, .bool x.f5.f13, .int .i64 x.f5.f14, .int .i64 x.f5.f15] := by
  obtain ⟨_, _, rfl, rfl, ⟨_, _, rfl, rfl, ⟨_, _, rfl, rfl, ⟨_, _, rfl, rfl, ⟨_, _, rfl, rfl, s5⟩⟩⟩⟩⟩ := h
  obtain rfl := k30_open s5
  exact rfl
theorem k32_openM {w : World} {base : Nat} {ok : Nat → Prop} {x : S32} {cs : List Value} (h : k32.M w base ok x cs) : cs = [.int .i64 x.f0, .int .i64 x.f1, .string x.f2, .int .i64 x.f3, .int .i64 x.f4, .int .i64 x.f5.f0, .int .i64 x.f5.f1, .int .i64 x.f5.f2, .int .i64 x.f5.f3, .bool x.f5.f4, .int .i64 x.f5.f5, .int .i64 x.f5.f6, .int .i64 x.f5.f7, .bool x.f5.f8, .int .i64 x.f5.f9, .int .i64 x.f5.f10, .bool x.f5.f11, .int .i64 x.f5.f12, .bool x.f5.f13, .int .i64 x.f5.f14, .int .i64 x.f5.f15] := by
  obtain ⟨_, _, rfl, rfl, ⟨_, _, rfl, rfl, ⟨_, _, rfl, rfl, ⟨_, _, rfl, rfl, ⟨_, _, rfl, rfl, s5⟩⟩⟩⟩⟩ := h
  obtain rfl := k30_openM s5
  exact rfl
theorem k32_mk (w : World) (x : S32)  : k32.K w x [.int .i64 x.f0, .int .i64 x.f1, .string x.f2, .int .i64 x.f3, .int .i64 x.f4, .int .i64 x.f5.f0, .int .i64 x.f5.f1, .int .i64 x.f5.f2, .int .i64 x.f5.f3, .bool x.f5.f4, .int .i64 x.f5.f5, .int .i64 x.f5.f6, .int .i64 x.f5.f7, .bool x.f5.f8, .int .i64 x.f5.f9, .int .i64 x.f5.f10, .bool x.f5.f11, .int .i64 x.f5.f12, .bool x.f5.f13, .int .i64 x.f5.f14, .int .i64 x.f5.f15] := ⟨[.int .i64 x.f0], [.int .i64 x.f1, .string x.f2, .int .i64 x.f3, .int .i64 x.f4, .int .i64 x.f5.f0, .int .i64 x.f5.f1, .int .i64 x.f5.f2, .int .i64 x.f5.f3, .bool x.f5.f4, .int .i64 x.f5.f5, .int .i64 x.f5.f6, .int .i64 x.f5.f7, .bool x.f5.f8, .int .i64 x.f5.f9, .int .i64 x.f5.f10, .bool x.f5.f11, .int .i64 x.f5.f12, .bool x.f5.f13, .int .i64 x.f5.f14, .int .i64 x.f5.f15], rfl, rfl, ⟨[.int .i64 x.f1], [.string x.f2, .int .i64 x.f3, .int .i64 x.f4, .int .i64 x.f5.f0, .int .i64 x.f5.f1, .int .i64 x.f5.f2, .int .i64 x.f5.f3, .bool x.f5.f4, .int .i64 x.f5.f5, .int .i64 x.f5.f6, .int .i64 x.f5.f7, .bool x.f5.f8, .int .i64 x.f5.f9, .int .i64 x.f5.f10, .bool x.f5.f11, .int .i64 x.f5.f12, .bool x.f5.f13, .int .i64 x.f5.f14, .int .i64 x.f5.f15], rfl, rfl, ⟨[.string x.f2], [.int .i64 x.f3, .int .i64 x.f4, .int .i64 x.f5.f0, .int .i64 x.f5.f1, .int .i64 x.f5.f2, .int .i64 x.f5.f3, .bool x.f5.f4, .int .i64 x.f5.f5, .int .i64 x.f5.f6, .int .i64 x.f5.f7, .bool x.f5.f8, .int .i64 x.f5.f9, .int .i64 x.f5.f10, .bool x.f5.f11, .int .i64 x.f5.f12, .bool x.f5.f13, .int .i64 x.f5.f14, .int .i64 x.f5.f15], rfl, rfl, ⟨[.int .i64 x.f3], [.int .i64 x.f4, .int .i64 x.f5.f0, .int .i64 x.f5.f1, .int .i64 x.f5.f2, .int .i64 x.f5.f3, .bool x.f5.f4, .int .i64 x.f5.f5, .int .i64 x.f5.f6, .int .i64 x.f5.f7, .bool x.f5.f8, .int .i64 x.f5.f9, .int .i64 x.f5.f10, .bool x.f5.f11, .int .i64 x.f5.f12, .bool x.f5.f13, .int .i64 x.f5.f14, .int .i64 x.f5.f15], rfl, rfl, ⟨[.int .i64 x.f4], [.int .i64 x.f5.f0, .int .i64 x.f5.f1, .int .i64 x.f5.f2, .int .i64 x.f5.f3, .bool x.f5.f4, .int .i64 x.f5.f5, .int .i64 x.f5.f6, .int .i64 x.f5.f7, .bool x.f5.f8, .int .i64 x.f5.f9, .int .i64 x.f5.f10, .bool x.f5.f11, .int .i64 x.f5.f12, .bool x.f5.f13, .int .i64 x.f5.f14, .int .i64 x.f5.f15], rfl, rfl, (k30_mk w x.f5 )⟩⟩⟩⟩⟩
theorem k32_mkM (w : World) (base : Nat) (ok : Nat → Prop) (x : S32)  : k32.M w base ok x [.int .i64 x.f0, .int .i64 x.f1, .string x.f2, .int .i64 x.f3, .int .i64 x.f4, .int .i64 x.f5.f0, .int .i64 x.f5.f1, .int .i64 x.f5.f2, .int .i64 x.f5.f3, .bool x.f5.f4, .int .i64 x.f5.f5, .int .i64 x.f5.f6, .int .i64 x.f5.f7, .bool x.f5.f8, .int .i64 x.f5.f9, .int .i64 x.f5.f10, .bool x.f5.f11, .int .i64 x.f5.f12, .bool x.f5.f13, .int .i64 x.f5.f14, .int .i64 x.f5.f15] := ⟨[.int .i64 x.f0], [.int .i64 x.f1, .string x.f2, .int .i64 x.f3, .int .i64 x.f4, .int .i64 x.f5.f0, .int .i64 x.f5.f1, .int .i64 x.f5.f2, .int .i64 x.f5.f3, .bool x.f5.f4, .int .i64 x.f5.f5, .int .i64 x.f5.f6, .int .i64 x.f5.f7, .bool x.f5.f8, .int .i64 x.f5.f9, .int .i64 x.f5.f10, .bool x.f5.f11, .int .i64 x.f5.f12, .bool x.f5.f13, .int .i64 x.f5.f14, .int .i64 x.f5.f15], rfl, rfl, ⟨[.int .i64 x.f1], [.string x.f2, .int .i64 x.f3, .int .i64 x.f4, .int .i64 x.f5.f0, .int .i64 x.f5.f1, .int .i64 x.f5.f2, .int .i64 x.f5.f3, .bool x.f5.f4, .int .i64 x.f5.f5, .int .i64 x.f5.f6, .int .i64 x.f5.f7, .bool x.f5.f8, .int .i64 x.f5.f9, .int .i64 x.f5.f10, .bool x.f5.f11, .int .i64 x.f5.f12, .bool x.f5.f13, .int .i64 x.f5.f14, .int .i64 x.f5.f15], rfl, rfl, ⟨[.string x.f2], [.int .i64 x.f3, .int .i64 x.f4, .int .i64 x.f5.f0, .int .i64 x.f5.f1, .int .i64 x.f5.f2, .int .i64 x.f5.f3, .bool x.f5.f4, .int .i64 x.f5.f5, .int .i64 x.f5.f6, .int .i64 x.f5.f7, .bool x.f5.f8, .int .i64 x.f5.f9, .int .i64 x.f5.f10, .bool x.f5.f11, .int .i64 x.f5.f12, .bool x.f5.f13, .int .i64 x.f5.f14, .int .i64 x.f5.f15], rfl, rfl, ⟨[.int .i64 x.f3], [.int .i64 x.f4, .int .i64 x.f5.f0, .int .i64 x.f5.f1, .int .i64 x.f5.f2, .int .i64 x.f5.f3, .bool x.f5.f4, .int .i64 x.f5.f5, .int .i64 x.f5.f6, .int .i64 x.f5.f7, .bool x.f5.f8, .int .i64 x.f5.f9, .int .i64 x.f5.f10, .bool x.f5.f11, .int .i64 x.f5.f12, .bool x.f5.f13, .int .i64 x.f5.f14, .int .i64 x.f5.f15], rfl, rfl, ⟨[.int .i64 x.f4], [.int .i64 x.f5.f0, .int .i64 x.f5.f1, .int .i64 x.f5.f2, .int .i64 x.f5.f3, .bool x.f5.f4, .int .i64 x.f5.f5, .int .i64 x.f5.f6, .int .i64 x.f5.f7, .bool x.f5.f8, .int .i64 x.f5.f9, .int .i64 x.f5.f10, .bool x.f5.f11, .int .i64 x.f5.f12, .bool x.f5.f13, .int .i64 x.f5.f14, .int .i64 x.f5.f15], rfl, rfl, (k30_mkM w base ok x.f5 )⟩⟩⟩⟩⟩
def rd_T32 (xs : List S32) (i : Int) : S32 := xs.getD i.toNat z32
theorem at_T32 {w : World} {A : Option Addr} {n : Nat} {xs : List S32} (h : Kd.C k32 w A n xs) (i : Int) (h0 : 0 ≤ i) (h1 : i < n) : ∃ ad , A = some ad ∧ w.cell? (ad.add (i.toNat * 21)) = some (.int .i64 (rd_T32 xs i).f0) ∧ w.cell? ⟨(ad.add (i.toNat * 21)).block, (ad.add (i.toNat * 21)).off + 1, none⟩ = some (.int .i64 (rd_T32 xs i).f1) ∧ w.cell? ⟨(ad.add (i.toNat * 21)).block, (ad.add (i.toNat * 21)).off + 2, none⟩ = some (.string (rd_T32 xs i).f2) ∧ w.cell? ⟨(ad.add (i.toNat * 21)).block, (ad.add (i.toNat * 21)).off + 3, none⟩ = some (.int .i64 (rd_T32 xs i).f3) ∧ w.cell? ⟨(ad.add (i.toNat * 21)).block, (ad.add (i.toNat * 21)).off + 4, none⟩ = some (.int .i64 (rd_T32 xs i).f4) ∧ w.cell? ⟨(ad.add (i.toNat * 21)).block, (ad.add (i.toNat * 21)).off + 5, none⟩ = some (.int .i64 (rd_T32 xs i).f5.f0) ∧ w.cell? ⟨(ad.add (i.toNat * 21)).block, (ad.add (i.toNat * 21)).off + 6, none⟩ = some (.int .i64 (rd_T32 xs i).f5.f1) ∧ w.cell? ⟨(ad.add (i.toNat * 21)).block, (ad.add (i.toNat * 21)).off + 7, none⟩ = some (.int .i64 (rd_T32 xs i).f5.f2) ∧ w.cell? ⟨(ad.add (i.toNat * 21)).block, (ad.add (i.toNat * 21)).off + 8, none⟩ = some (.int .i64 (rd_T32 xs i).f5.f3) ∧ w.cell? ⟨(ad.add (i.toNat * 21)).block, (ad.add (i.toNat * 21)).off + 9, none⟩ = some (.bool (rd_T32 xs i).f5.f4) ∧ w.cell? ⟨(ad.add (i.toNat * 21)).block, (ad.add (i.toNat * 21)).off + 10, none⟩ = some (.int .i64 (rd_T32 xs i).f5.f5) ∧ w.cell? ⟨(ad.add (i.toNat * 21)).block, (ad.add (i.toNat * 21)).off + 11, none⟩ = some (.int .i64 (rd_T32 xs i).f5.f6) ∧ w.cell? ⟨(ad.add (i.toNat * 21)).block, (ad.add (i.toNat * 21)).off + 12, none⟩ = some (.int .i64 (rd_T32 xs i).f5.f7) ∧ w.cell? ⟨(ad.add (i.toNat * 21)).block, (ad.add (i.toNat * 21)).off + 13, none⟩ = some (.bool (rd_T32 xs i).f5.f8) ∧ w.cell? ⟨(ad.add (i.toNat * 21)).block, (ad.add (i.toNat * 21)).off + 14, none⟩ = some (.int .i64 (rd_T32 xs i).f5.f9) ∧ w.cell? ⟨(ad.add (i.toNat * 21)).block, (ad.add (i.toNat * 21)).off + 15, none⟩ = some (.int .i64 (rd_T32 xs i).f5.f10) ∧ w.cell? ⟨(ad.add (i.toNat * 21)).block, (ad.add (i.toNat * 21)).off + 16, none⟩ = some (.bool (rd_T32 xs i).f5.f11) ∧ w.cell? ⟨(ad.add (i.toNat * 21)).block, (ad.add (i.toNat * 21)).off + 17, none⟩ = some (.int .i64 (rd_T32 xs i).f5.f12) ∧ w.cell? ⟨(ad.add (i.toNat * 21)).block, (ad.add (i.toNat * 21)).off + 18, none⟩ = some (.bool (rd_T32 xs i).f5.f13) ∧ w.cell? ⟨(ad.add (i.toNat * 21)).block, (ad.add (i.toNat * 21)).off + 19, none⟩ = some (.int .i64 (rd_T32 xs i).f5.f14) ∧ w.cell? ⟨(ad.add (i.toNat * 21)).block, (ad.add (i.toNat * 21)).off + 20, none⟩ = some (.int .i64 (rd_T32 xs i).f5.f15) := by
  obtain ⟨ad, c, e, _, hK, hc0⟩ := Kd.C_get h z32 i h0 h1
  have hc : ∀ j u, c[j]? = some u → w.cell? (ad.add (i.toNat * 21 + j)) = some u := hc0
  obtain rfl := k32_open hK
  exact ⟨ad, e, hc 0 _ rfl, by rw [← add_field _ _ 1 (by omega)]; exact hc 1 _ rfl, by rw [← add_field _ _ 2 (by omega)]; exact hc 2 _ rfl, by rw [← add_field _ _ 3 (by omega)]; exact hc 3 _ rfl, by rw [← add_field _ _ 4 (by omega)]; exact hc 4 _ rfl, by rw [← add_field _ _ 5 (by omega)]; exact hc 5 _ rfl, by rw [← add_field _ _ 6 (by omega)]; exact hc 6 _ rfl, by rw [← add_field _ _ 7 (by omega)]; exact hc 7 _ rfl, by rw [← add_field _ _ 8 (by omega)]; exact hc 8 _ rfl, by rw [← add_field _ _ 9 (by omega)]; exact hc 9 _ rfl, by rw [← add_field _ _ 10 (by omega)]; exact hc 10 _ rfl, by rw [← add_field _ _ 11 (by omega)]; exact hc 11 _ rfl, by rw [← add_field _ _ 12 (by omega)]; exact hc 12 _ rfl, by rw [← add_field _ _ 13 (by omega)]; exact hc 13 _ rfl, by rw [← add_field _ _ 14 (by omega)]; exact hc 14 _ rfl, by rw [← add_field _ _ 15 (by omega)]; exact hc 15 _ rfl, by rw [← add_field _ _ 16 (by omega)]; exact hc 16 _ rfl, by rw [← add_field _ _ 17 (by omega)]; exact hc 17 _ rfl, by rw [← add_field _ _ 18 (by omega)]; exact hc 18 _ rfl, by rw [← add_field _ _ 19 (by omega)]; exact hc 19 _ rfl, by rw [← add_field _ _ 20 (by omega)]; exact hc 20 _ rfl⟩

def rd_L5 (xs : List (List S32)) (i : Int) : (List S32) := xs.getD i.toNat ([] : List S32)
theorem at_L5 {w : World} {A : Option Addr} {n : Nat} {xs : List (List S32)} (h : Kd.C (Kd.slice 32 k32) w A n xs) (i : Int) (h0 : 0 ≤ i) (h1 : i < n) : ∃ ad A0 c0, A = some ad ∧ w.cell? (ad.add i.toNat) = some (.slice A0 (rd_L5 xs i).length c0) ∧ (rd_L5 xs i).length ≤ c0 ∧ k32.C w A0 (rd_L5 xs i).length (rd_L5 xs i) := by
  obtain ⟨ad, c, e, _, hK, hc0⟩ := Kd.C_get h ([] : List S32) i h0 h1
  have hc : ∀ j u, c[j]? = some u → w.cell? (ad.add (i.toNat * 1 + j)) = some u := hc0
  obtain ⟨A0, c0, rfl, l0, g0⟩ := hK
  exact ⟨ad, A0, c0, e, by have hq := hc 0 _ rfl; rwa [Nat.mul_one, Nat.add_zero] at hq, l0, g0⟩

def rd_L6 (xs : List (List Int)) (i : Int) : (List Int) := xs.getD i.toNat ([] : List Int)
theorem at_L6 {w : World} {A : Option Addr} {n : Nat} {xs : List (List Int)} (h : Kd.C (Kd.slice 3 (Kd.int .i64)) w A n xs) (i : Int) (h0 : 0 ≤ i) (h1 : i < n) : ∃ ad A0 c0, A = some ad ∧ w.cell? (ad.add i.toNat) = some (.slice A0 (rd_L6 xs i).length c0) ∧ (rd_L6 xs i).length ≤ c0 ∧ (Kd.int .i64).C w A0 (rd_L6 xs i).length (rd_L6 xs i) := by
  obtain ⟨ad, c, e, _, hK, hc0⟩ := Kd.C_get h ([] : List Int) i h0 h1
  have hc : ∀ j u, c[j]? = some u → w.cell? (ad.add (i.toNat * 1 + j)) = some u := hc0
  obtain ⟨A0, c0, rfl, l0, g0⟩ := hK
  exact ⟨ad, A0, c0, e, by have hq := hc 0 _ rfl; rwa [Nat.mul_one, Nat.add_zero] at hq, l0, g0⟩

end Go.Proofs.YtjafcgemgghbiaaDoor.G
