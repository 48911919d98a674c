/- Chapter 1: Sum. -/
import Derived.Test.YtlpkjjeihbdocaaDoorF7
namespace Go.Proofs.YtlpkjjeihbdocaaDoor.G
open Go.RowKit Go.Shelf Go.Proofs.YtlpkjjeihbdocaaDoorW.PrintWords Go.Proofs.YtlpkjjeihbdocaaDoorW.PrintLast Go.Proofs.YtlpkjjeihbdocaaDoorW.PrintMore
attribute [local go_sem] Oper.semAt_some

theorem sums_any (v : Value) (hv : ∃ A n c, v = .slice A n c) (w : World) : Calls Tryd.prog 43 #[v] w fun e w' => e = .returned (.func (.func 47) #[] #[.pointer (some ⟨w.heap.size, 0, none⟩)]) ∧ w' = w.alloc (.cells #[v] 33) := by
  obtain ⟨A, n, c, rfl⟩ := hv
  go_enter Tryd.func43, Tryd.ntmps43
  go_wp2
  go_ret
  exact ⟨rfl, rfl⟩
def SumS (l : List Int) (ys : List (Int × Bool)) : Prop := ∃ k, k ≤ l.length ∧ ys = partS l k ∧ (l.take (k - 1)).all lenB = true ∧ (k = l.length ∨ 0 < k ∧ lenB (rd l (k - 1 : Nat)) = false)
def SumP (l : List Int) (pre : List (Int × Bool)) : Prop := ∃ k, k < l.length ∧ pre = partS l (k + 1)
theorem sums_seq (m : Nat) (hm : 3 ≤ m) (Bp : Nat) (A : Option Addr) (c : Nat) (l : List Int) (w0 w : World) (hr : Kd.C (Kd.int .i64) w0 A l.length l) (hl : l.length ≤ 1000) (hB : Below w0.heap.size w0 w) (hp : Boxed w Bp 33 (.slice A l.length c)) :
    SeqStopsK Fence.wide m Tryd.prog 47 #[.pointer (some ⟨Bp, 0, none⟩)] (fun x : Int × Bool => #[.int .i64 x.1, .bool x.2]) (Below w0.heap.size) (SumS l) (SumP l) 1000 w := fun yl J Jx W hW _ _ hY h0 =>
  sums1_in m hm yl Bp A c l w0 hr hl J Jx hY W (hB.trans (hW.mono hB.size)) (blk_below hp hW) h0
end Go.Proofs.YtlpkjjeihbdocaaDoor.G
