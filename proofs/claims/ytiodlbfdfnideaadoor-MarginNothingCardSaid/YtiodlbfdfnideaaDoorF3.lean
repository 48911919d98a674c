/- Chapter 10: a heap takes one margin. Written by mkF3.py. -/
import Derived.Test.YtiodlbfdfnideaaDoorF2
import Derived.BigRegion
namespace Go.Proofs.YtiodlbfdfnideaaDoor.G
open Go.RowKit Go.Proofs.YtiodlbfdfnideaaDoorW.PrintWords Go.Proofs.YtiodlbfdfnideaaDoorW.PrintLast Go.Proofs.YtiodlbfdfnideaaDoorW.PrintMore
attribute [local go_sem] max2_int min2_int max_two min_two

theorem grown_refl (w : World) (row : Option Nat) : w.grownBy w row := ⟨rfl, rfl, rfl, Nat.le_refl _, fun _ _ _ => rfl⟩
theorem grown_trans {a b c : World} {row : Option Nat} (h : a.grownBy b row) (k : b.grownBy c row) : a.grownBy c row :=
  ⟨k.os.trans h.os, k.tape.trans h.tape, k.output.trans h.output, Nat.le_trans h.size k.size, fun i hi hr => (k.block i (Nat.lt_of_lt_of_le hi h.size) hr).trans (h.block i hi hr)⟩
theorem grown_set {w w1 : World} {b : Nat} (h : w.grownBy w1 (some b)) (i : Nat) (v : Value) : w.grownBy (w1.setCell ⟨b, i, none⟩ v) (some b) :=
  grown_trans h ⟨rfl, rfl, rfl, by simp [World.setCell], fun k _ hk => Below.heap_setCell _ _ _ k (fun e => hk (by rw [e]))⟩
theorem grown_drew' {w w1 : World} {row : Option Nat} (h : w.grownBy w1 row) : w.grownBy w1.drew row := ⟨h.os, h.tape, h.output, h.size, h.block⟩

set_option maxRecDepth 100000 in
set_option maxHeartbeats 4000000 in
theorem add_0 (b g : Nat) (u d n x : Int) (w : World) (hb : w.heap[b]? = some (.cells #[.int .i64 u, .int .i64 d, .int .i64 n] 47 (0, 0))) (hx : w.cell? ⟨g, 0, none⟩ = some (.int .i64 x)) :
    Calls Tryd.prog 27 #[.pointer (some ⟨b, 0, none⟩), .slice (some ⟨g, 0, none⟩) 1 1] w fun e w' => e = .returned (.tuple #[]) ∧ w.grownBy w' (some b) ∧ ∃ n' : Int, w'.heap[b]? = some (.cells #[.int .i64 (mx u x), .int .i64 (mn d x), .int .i64 n'] 47 (0, 0)) := by
  have c0 : w.cell? ⟨b, 0, none⟩ = some (.int .i64 u) := (blk_cell hb 0).trans rfl
  have c1 : w.cell? ⟨b, 1, none⟩ = some (.int .i64 d) := (blk_cell hb 1).trans rfl
  have c2 : w.cell? ⟨b, 2, none⟩ = some (.int .i64 n) := (blk_cell hb 2).trans rfl
  have f0 := blk_frozen hb 0
  have f1 := blk_frozen hb 1
  have f2 := blk_frozen hb 2
  have HB := Aside0.mk hb
  clear hb
  unfold mx mn
  go_enter Tryd.func27, Tryd.ntmps27
  go_wp2
  refine wp_loop_rounds 2 ?_
  rw [rounds_succ]
  go_wp2
  go_region
  go_wp2
  all_goals
    rw [rounds_succ]
    go_wp2
    go_end0
    exact ⟨rfl, grown_set (grown_drew' (grown_set (grown_set (grown_refl _ _) 0 _) 1 _)) 2 _, _, blk_put (blk_drew (blk_put (blk_put HB.out 0 _ rfl) 1 _ rfl)) 2 _ rfl⟩

set_option maxRecDepth 100000 in
set_option maxHeartbeats 4000000 in
theorem add_2 (b g : Nat) (sl : Value) (en u d n x : Int) (w : World) (hb : w.heap[b]? = some (.cells #[sl, .int .i64 en, .int .i64 u, .int .i64 d, .int .i64 n] 64 (0, 0))) (hx : w.cell? ⟨g, 0, none⟩ = some (.int .i64 x)) :
    Calls Tryd.prog 27 #[.pointer (some ⟨b, 2, none⟩), .slice (some ⟨g, 0, none⟩) 1 1] w fun e w' => e = .returned (.tuple #[]) ∧ w.grownBy w' (some b) ∧ ∃ n' : Int, w'.heap[b]? = some (.cells #[sl, .int .i64 en, .int .i64 (mx u x), .int .i64 (mn d x), .int .i64 n'] 64 (0, 0)) := by
  have c0 : w.cell? ⟨b, 2, none⟩ = some (.int .i64 u) := (blk_cell hb 2).trans rfl
  have c1 : w.cell? ⟨b, 3, none⟩ = some (.int .i64 d) := (blk_cell hb 3).trans rfl
  have c2 : w.cell? ⟨b, 4, none⟩ = some (.int .i64 n) := (blk_cell hb 4).trans rfl
  have f0 := blk_frozen hb 2
  have f1 := blk_frozen hb 3
  have f2 := blk_frozen hb 4
  have HB := Aside0.mk hb
  clear hb
  unfold mx mn
  go_enter Tryd.func27, Tryd.ntmps27
  go_wp2
  refine wp_loop_rounds 2 ?_
  rw [rounds_succ]
  go_wp2
  go_region
  go_wp2
  all_goals
    rw [rounds_succ]
    go_wp2
    go_end0
    exact ⟨rfl, grown_set (grown_drew' (grown_set (grown_set (grown_refl _ _) 2 _) 3 _)) 4 _, _, blk_put (blk_drew (blk_put (blk_put HB.out 2 _ rfl) 3 _ rfl)) 4 _ rfl⟩

theorem one_0 (b : Nat) (u d n : Int) (w : World) (hb : w.heap[b]? = some (.cells #[.int .i64 u, .int .i64 d, .int .i64 n] 47 (0, 0))) (hu : -1048576 ≤ u ∧ u ≤ 1048576) (hd : -1048576 ≤ d ∧ d ≤ 1048576) :
    Calls Tryd.prog 28 #[.pointer (some ⟨b, 0, none⟩)] w fun e w' => e = .returned (.int .i64 (u + d)) ∧ ∃ nq, w' = w.drewN nq := by
  have h1 : w.cell? ⟨b, 0, none⟩ = some (.int .i64 u) := (blk_cell hb 0).trans rfl
  have h2 : w.cell? ⟨b, 1, none⟩ = some (.int .i64 d) := (blk_cell hb 1).trans rfl
  clear hb
  go_enter Tryd.func28, Tryd.ntmps28
  go_wp2
  go_quiet (fail)
  go_wp2
  go_ret
  exact ⟨rfl, _, rfl⟩
theorem one_2 (b : Nat) (sl : Value) (e u d n : Int) (w : World) (hb : w.heap[b]? = some (.cells #[sl, .int .i64 e, .int .i64 u, .int .i64 d, .int .i64 n] 64 (0, 0))) (hu : -1048576 ≤ u ∧ u ≤ 1048576) (hd : -1048576 ≤ d ∧ d ≤ 1048576) :
    Calls Tryd.prog 28 #[.pointer (some ⟨b, 2, none⟩)] w fun e w' => e = .returned (.int .i64 (u + d)) ∧ ∃ nq, w' = w.drewN nq := by
  have h1 : w.cell? ⟨b, 2, none⟩ = some (.int .i64 u) := (blk_cell hb 2).trans rfl
  have h2 : w.cell? ⟨b, 3, none⟩ = some (.int .i64 d) := (blk_cell hb 3).trans rfl
  clear hb
  go_enter Tryd.func28, Tryd.ntmps28
  go_wp2
  go_quiet (fail)
  go_wp2
  go_ret
  exact ⟨rfl, _, rfl⟩
end Go.Proofs.YtiodlbfdfnideaaDoor.G
