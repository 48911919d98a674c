/- Chapter 18: the iterator from the back. Written by mkF12.py. -/
import Derived.Test.YtkmddhljfjjglaaDoorF11
namespace Go.Proofs.YtkmddhljfjjglaaDoor.G
open Go.RowKit Go.Shelf Go.Proofs.YtkmddhljfjjglaaDoorW.PrintWords Go.Proofs.YtkmddhljfjjglaaDoorW.PrintLast Go.Proofs.YtkmddhljfjjglaaDoorW.PrintMore

theorem drop_rev (l : List S39) (j : Nat) (h : j < l.length) : (l.drop j).reverse = (l.drop (j + 1)).reverse ++ [rd_T39 l j] := by
  rw [List.drop_eq_getElem_cons h, List.reverse_cons]
  simp [rd_T39, h]
theorem drop_pre (l : List S39) (j : Nat) : ∃ t, (l.drop j).reverse ++ t = l.reverse := ⟨(l.take j).reverse, by rw [← List.reverse_append, List.take_append_drop]⟩
/-- What the iterator reads. -/
def Bk (w0 : World) (Bs : Nat) (A : Option Addr) (n : Nat) (W : World) : Prop := Below w0.heap.size w0 W ∧ Boxed W Bs 35 (.slice A n n)
set_option maxRecDepth 100000 in
set_option maxHeartbeats 4000000 in
theorem back_in (m : Nat) (hm : 3 ≤ m) (yl Bs : Nat) (A : Option Addr) (l : List S39) (w0 : World) (hr : Kd.C k39 w0 A l.length l) (hl : l.length ≤ 1000) (J Jx : List S39 → World → Prop)
    (hY : ∀ pre x (i : Int) W, J pre W → YieldAt Fence.wide (m - 1) Tryd.prog yl #[.int .i64 i, vS39 x] W fun e W' =>
      (e = .returned (.bool true) ∧ J (pre ++ [x]) W' ∧ (Bk w0 Bs A l.length W → Bk w0 Bs A l.length W')) ∨ (e = .returned (.bool false) ∧ Jx (pre ++ [x]) W'))
    (W : World) (hI : Bk w0 Bs A l.length W) (h0 : J [] W) :
    CallsIn Fence.wide m Tryd.prog 59 #[.func (.yield yl) #[] #[], .pointer (some ⟨Bs, 0, none⟩)] W fun e W' => (∃ v, e = .returned v) ∧
      ((∃ ys, ys = l.reverse ∧ J ys W') ∨ (∃ pre, (∃ t, pre ++ t = l.reverse) ∧ Jx pre W')) := by
  refine callsIn_of_wp Tryd.func59 rfl trivial ?_ rfl
  simp only [Tryd.ntmps59, List.size_toArray, List.length_cons, List.length_nil, Nat.reduceAdd, Nat.reduceSub, Array.replicate_succ, Array.replicate_zero, List.push_toArray, List.append_toArray, List.nil_append, List.cons_append]
  have c1 := hI.2.cell
  have HI := Aside0.mk hI
  have HR := Aside0.mk hr
  clear hI hr
  gi_wp2
  gi_loopw [3] (fun i wr => ((∃ j : Nat, j < l.length ∧ i = .int .i64 j ∧ Aside0 (J ((l.drop (j + 1)).reverse) wr)) ∨ (i = .int .i64 (-1) ∧ Aside0 (J l.reverse wr))) ∧ Aside0 (Bk w0 Bs A l.length wr)) (fun i _ => (intOf i + 1).toNat)
  case atStart =>
    refine ⟨?_, HI⟩
    cases hn : l.length with
    | zero =>
      obtain rfl : l = [] := List.eq_nil_of_length_eq_zero hn
      exact .inr ⟨rfl, ⟨h0⟩⟩
    | succ n =>
      refine .inl ⟨n, by omega, ?_, ⟨by rw [← hn, List.drop_length]; exact h0⟩⟩
      rw [show (((n + 1 : Nat) : Int) - 1) = (n : Int) by omega]
  case round =>
    clear HI h0 c1
    obtain ⟨hj, hIk⟩ := hrel
    rcases hj with ⟨j, hlt, rfl, hJk⟩ | ⟨rfl, hJk⟩
    · obtain ⟨ad, ea, hx0, hx1, hx2, hx3, hx4, hx5⟩ := at_T39 (Kd.C_below HR.out hIk.out.1) (j : Int) (by omega) (by omega)
      cases ea
      simp only [Int.toNat_natCast] at hx0 hx1 hx2 hx3 hx4 hx5
      have c1 := hIk.out.2.cell
      have ht := Aside0.mk (drop_rev l j hlt)
      generalize rd_T39 l j = x at *
      obtain ⟨x0, x1, ⟨r0, r1, r2, r3⟩⟩ := x
      dsimp only at hx0 hx1 hx2 hx3 hx4 hx5
      obtain ⟨fn, tmps, assign, body, hy, hR⟩ := hY _ ⟨x0, x1, ⟨r0, r1, r2, r3⟩⟩ (j : Int) wr hJk.out
      unfold vS39 at hy
      gi_wp2
      refine ⟨fun _ => by omega, hR.mono ?_⟩
      clear hy hR hx0 hx1 hx2 hx3 hx4 hx5 c1
      rintro ev W3 (⟨rfl, hJ3, hk3⟩ | ⟨rfl, hJx3⟩)
      · rw [← ht.out] at hJ3
        have HJ3 := Aside0.mk hJ3
        have HI3 := Aside0.mk (hk3 hIk.out)
        clear hJ3 hk3
        gi_wp2
        go_roundw
        case rel =>
          refine ⟨?_, HI3⟩
          cases j with
          | zero => exact .inr ⟨rfl, HJ3⟩
          | succ n =>
            refine .inl ⟨n, by omega, ?_, HJ3⟩
            rw [show (((n + 1 : Nat) : Int) - 1) = (n : Int) by omega]
        case measure =>
          simp only [intOf]
          omega
      · rw [← ht.out] at hJx3
        gi_wp2
        (try simp only [Exit.inBlock, Exit.then])
        refine bodyPost_ret (results_none rfl _ _ _) rfl ?_
        exact ⟨⟨_, rfl⟩, .inr ⟨_, drop_pre l j, hJx3⟩⟩
    · gi_wp2
      go_end0
      exact ⟨⟨_, rfl⟩, .inl ⟨_, rfl, hJk.out⟩⟩
theorem back_any (A : Option Addr) (n c : Nat) (w : World) : Calls Tryd.prog 40 #[.slice A n c] w fun e w' => e = .returned (.func (.func 59) #[] #[.pointer (some ⟨w.heap.size, 0, none⟩)]) ∧ w' = w.alloc (.cells #[.slice A n c] 35) := by
  go_enter Tryd.func40, Tryd.ntmps40
  go_wp2
  go_ret
  exact ⟨rfl, rfl⟩
end Go.Proofs.YtkmddhljfjjglaaDoor.G
