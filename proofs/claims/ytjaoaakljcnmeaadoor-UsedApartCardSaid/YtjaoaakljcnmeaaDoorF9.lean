/- Chapter 6: the iterator over where columns begin. Written by mkF9.py. -/
import Derived.Test.YtjaoaakljcnmeaaDoorF8
import Derived.RangeFuncNested
import Derived.RangeFuncBound
import Derived.RangeFuncCalls
import Derived.RangeFuncLeaves
import Derived.RangeFuncBox
import Derived.Shelf.Abstract
import Derived.Shelf.RegionOpen
import Derived.OwnWalkIn
import Derived.TacticsInMore
import Derived.LoopNIn
import Derived.LoopIn
namespace Go.Proofs.YtjaoaakljcnmeaaDoor.G
open Go.RowKit Go.Shelf Go.Proofs.YtjaoaakljcnmeaaDoorW.PrintWords Go.Proofs.YtjaoaakljcnmeaaDoorW.PrintLast Go.Proofs.YtjaoaakljcnmeaaDoorW.PrintMore
attribute [local go_sem] Oper.semAt_some

theorem wpIn_scope_wide {n : Nat} {P : Program} {c : Code} {Q : Exit → Act → World → Prop} {a : Act} {w : World} (h : c.wpIn Fence.wide n P (Exit.noGoto Q) a w) : (Code.scope c).wpIn Fence.wide n P Q a w :=
  wpIn_wide.2 (wp_scope_straight (wpIn_wide.1 h))
/-- The first ones: which one, and where it begins. -/
def leftsL (wd gap : Int) : Nat → List (Int × Int)
  | 0 => []
  | k + 1 => leftsL wd gap k ++ [((k : Int), wrap64 ((k : Int) * wrap64 (wd + gap)))]
theorem leftsL_len (wd gap : Int) (k : Nat) : (leftsL wd gap k).length = k := by
  induction k with
  | zero => rfl
  | succ k ih => simp [leftsL, ih]
/-- What a round keeps that goes on: the iterator's own variables. -/
def Kb (Bc Bg : Nat) (A B : World) : Prop := B.heap[Bc]? = A.heap[Bc]? ∧ B.heap[Bg]? = A.heap[Bg]?
theorem Kb.trans {Bc Bg : Nat} {A B C : World} (h : Kb Bc Bg A B) (k : Kb Bc Bg B C) : Kb Bc Bg A C := ⟨k.1.trans h.1, k.2.trans h.2⟩
theorem Kb.put {Bc Bg : Nat} {w : World} (hB : Bc < w.heap.size) (hG : Bg < w.heap.size) (W : World) (l : Nat) (o o' : Obj) (hl : w.heap.size ≤ l) (_ : W.heap[l]? = some o) (_ : o.isCells = false) (_ : o.isWalk = false) : Kb Bc Bg W (W.putObj l o') :=
  ⟨World.putObj_heap_other (by omega), World.putObj_heap_other (by omega)⟩
set_option maxRecDepth 100000 in
set_option maxHeartbeats 2000000 in
theorem lefts1_in (m : Nat) (hm : 3 ≤ m) (yl Bc Bg : Nat) (n : Nat) (wd gap : Int) (hn : n ≤ 50) (J Jx : List (Int × Int) → World → Prop)
    (hY : ∀ pre (x : Int × Int) W, J pre W → pre.length < 50 → YieldAt Fence.wide (m - 1) Tryd.prog yl #[.int .i64 x.1, .int .i64 x.2] W fun e W' =>
      (e = .returned (.bool true) ∧ J (pre ++ [x]) W' ∧ Kb Bc Bg W W') ∨ (e = .returned (.bool false) ∧ Jx (pre ++ [x]) W'))
    (W : World) (hc : W.heap[Bc]? = some (.cells #[.int .i64 n, .int .i64 wd] 41 (0, 0))) (hg : Boxed W Bg 2 (.int .i64 gap)) (h0 : J [] W) :
    CallsIn Fence.wide m Tryd.prog 34 #[.func (.yield yl) #[] #[], .pointer (some ⟨Bc, 0, none⟩), .pointer (some ⟨Bg, 0, none⟩)] W fun e W' => (∃ v, e = .returned v) ∧
      ((∃ ys, ys = leftsL wd gap n ∧ J ys W') ∨ (∃ pre, (∃ k, k < n ∧ pre = leftsL wd gap (k + 1)) ∧ Jx pre W')) := by
  refine callsIn_of_wp Tryd.func34 rfl trivial ?_ rfl
  simp only [Tryd.ntmps34, List.size_toArray, List.length_cons, List.length_nil, Nat.reduceAdd, Nat.reduceSub, Array.replicate_succ, Array.replicate_zero, List.push_toArray, List.append_toArray, List.nil_append, List.cons_append]
  have c0 : W.cell? ⟨Bc, 0, none⟩ = some (.int .i64 n) := (blk_cell hc 0).trans rfl
  have HC := Aside0.mk hc
  have HG := Aside0.mk hg
  clear hc hg
  gi_wp2
  refine wpIn_scope_wide ?_
  gi_wp2
  refine wpIn_label ?_
  gi_wp2
  clear c0
  gi_loopw [4, 7] (fun t i wr => ∃ k : Nat, k ≤ n ∧ i = .int .i64 k ∧ Aside0 (J (leftsL wd gap k) wr) ∧ Aside0 (wr.heap[Bc]? = some (.cells #[.int .i64 n, .int .i64 wd] 41 (0, 0))) ∧ Aside0 (Boxed wr Bg 2 (.int .i64 gap))) (fun _ i _ => n - (intOf i).toNat)
  case atStart => exact ⟨0, Nat.zero_le _, rfl, ⟨h0⟩, HC, HG⟩
  case round =>
    clear HC HG h0
    obtain ⟨k, hk, rfl, hJk, hck, hgk⟩ := hrel
    by_cases hlt : k < n
    · have c1 : wr.cell? ⟨Bc, 1, none⟩ = some (.int .i64 wd) := (blk_cell hck.out 1).trans rfl
      have c2 := hgk.out.cell
      have hpl := leftsL_len wd gap k
      obtain ⟨s, hs⟩ : ∃ s, wrap64 ((k : Int) * wrap64 (wd + gap)) = s := ⟨_, rfl⟩
      have HS := Aside0.mk (show leftsL wd gap (k + 1) = leftsL wd gap k ++ [((k : Int), s)] by rw [leftsL, hs])
      have hY1 := hY (leftsL wd gap k) ((k : Int), s) wr hJk.out (by omega)
      obtain ⟨fn, tmps, assign, body, hy, hR⟩ := hY1
      gi_wp2_with fail
      refine ⟨fun _ => by omega, hR.mono ?_⟩
      clear hy hR hs c1 c2
      rintro ev W3 (⟨rfl, hJ3, hk3⟩ | ⟨rfl, hJx3⟩)
      · have HJ3 := Aside0.mk hJ3
        have HC3 := Aside0.mk (hk3.1.trans hck.out)
        have HG3 := Aside0.mk (show Boxed W3 Bg 2 (.int .i64 gap) from hk3.2.trans hgk.out)
        clear hJ3 hk3
        gi_wp2
        go_roundw
        case rel => exact ⟨k + 1, by omega, by go_num, ⟨by rw [HS.out]; exact HJ3.out⟩, HC3, HG3⟩
        case measure => simp [intOf]; omega
      · gi_wp2
        rw [Exit.noGoto_normal]
        go_end0
        exact ⟨⟨_, rfl⟩, .inr ⟨leftsL wd gap (k + 1), ⟨k, by omega, rfl⟩, by rw [HS.out]; exact hJx3⟩⟩
    · have e : k = n := by omega
      subst e
      gi_wp2
      rw [Exit.noGoto_normal]
      go_end0
      exact ⟨⟨_, rfl⟩, .inl ⟨_, rfl, hJk.out⟩⟩
def LeftP (wd gap : Int) (n : Nat) (pre : List (Int × Int)) : Prop := ∃ k, k < n ∧ pre = leftsL wd gap (k + 1)
theorem lefts_seq (m : Nat) (hm : 3 ≤ m) (Bc Bg n : Nat) (wd gap : Int) (hn : n ≤ 50) (w : World) (hc : w.heap[Bc]? = some (.cells #[.int .i64 n, .int .i64 wd] 41 (0, 0))) (hg : Boxed w Bg 2 (.int .i64 gap)) :
    SeqStopsK Fence.wide m Tryd.prog 34 #[.pointer (some ⟨Bc, 0, none⟩), .pointer (some ⟨Bg, 0, none⟩)] (fun x : Int × Int => #[.int .i64 x.1, .int .i64 x.2]) (Kb Bc Bg) (fun ys => ys = leftsL wd gap n) (LeftP wd gap n) 50 w := fun yl J Jx W hW _ _ hY h0 =>
  lefts1_in m hm yl Bc Bg n wd gap hn J Jx hY W (blk_below hc hW) (blk_below hg hW) h0
theorem lefts_any (n wd gap : Int) (w : World) : Calls Tryd.prog 23 #[.agg #[.int .i64 n, .int .i64 wd], .int .i64 gap] w fun e w' => e = .returned (.func (.func 34) #[] #[.pointer (some ⟨w.heap.size, 0, none⟩), .pointer (some ⟨w.heap.size + 1, 0, none⟩)]) ∧ w' = (w.alloc (.cells #[.int .i64 n, .int .i64 wd] 41)).alloc (.cells #[.int .i64 gap] 2) := by
  go_enter Tryd.func23, Tryd.ntmps23
  go_wp2
  go_ret
  exact ⟨rfl, rfl⟩
end Go.Proofs.YtjaoaakljcnmeaaDoor.G
