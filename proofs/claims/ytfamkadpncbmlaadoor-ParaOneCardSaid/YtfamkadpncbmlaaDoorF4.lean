/- Chapter 9: how many lines a room takes: a range over the splits. -/
import Derived.Test.YtfamkadpncbmlaaDoorF3
namespace Go.Proofs.YtfamkadpncbmlaaDoor.G
open Go.RowKit Go.Shelf Go.Proofs.YtfamkadpncbmlaaDoorW.PrintWords Go.Proofs.YtfamkadpncbmlaaDoorW.PrintLast Go.Proofs.YtfamkadpncbmlaaDoorW.PrintMore
attribute [local go_sem] max2_int min2_int
attribute [local go_sem] Oper.semAt_some

def bestL (r : Int) (l : List Int) : Int := l.foldl (fun out k => if k ≤ r then k else out) 0
theorem bestL_snoc (r : Int) (l : List Int) (x : Int) : bestL r (l ++ [x]) = if x ≤ r then x else bestL r l := by simp [bestL]
def bestZ (n o d r : Int) : Int := if n ≤ r then n else bestL r (upTo n o d (n.toNat - 1))

theorem best_le (n o d r : Int) (w : World) (h : n ≤ r) : Calls Tryd.prog 24 #[.agg #[.int .i64 n, .int .i64 o, .int .i64 d], .int .i64 r] w fun e w' => e = .returned (.int .i64 n) ∧ Below w.heap.size w w' := by
  go_enter Tryd.func24, Tryd.ntmps24
  go_wp2
  go_ret
  exact ⟨rfl, below_alloc (below_alloc (Below.refl _ _) _) _⟩

set_option maxRecDepth 100000 in
set_option maxHeartbeats 2000000 in
theorem best_gt (n o d r : Int) (w : World) (h : r < n) (hr : 0 ≤ r) (hn : n ≤ 500) : CallsIn Fence.wide 6 Tryd.prog 24 #[.agg #[.int .i64 n, .int .i64 o, .int .i64 d], .int .i64 r] w fun e w' => e = .returned (.int .i64 (bestL r (upTo n o d (n.toNat - 1)))) ∧ Below w.heap.size w w' := by
  have h' : decide (n ≤ r) = false := decide_eq_false (by omega)
  refine callsIn_of_wp_marks Tryd.func24 rfl trivial ?_ rfl
  simp only [Tryd.ntmps24, List.size_toArray, List.length_cons, List.length_nil, Nat.reduceAdd, Nat.reduceSub, Array.replicate_succ, Array.replicate_zero, List.push_toArray, List.append_toArray, List.nil_append, List.cons_append]
  gi_wp2_with fail
  refine ⟨trivial, ?_⟩
  refine (callsIn_wide.2 (splits_any n o d _)).mono ?_
  rintro e w' ⟨rfl, rfl⟩
  gi_wp2
  have e3 : (((w.alloc (.cells #[.int .i64 n, .int .i64 o, .int .i64 d] 43)).alloc (.cells #[.int .i64 r] 3)).alloc (.cells #[.int .i64 0] 3)).heap.size = w.heap.size + 1 + 1 + 1 := by simp
  have b3 := e3 ▸ blk_new (((w.alloc (.cells #[.int .i64 n, .int .i64 o, .int .i64 d] 43)).alloc (.cells #[.int .i64 r] 3)).alloc (.cells #[.int .i64 0] 3)) (.cells #[.int .i64 n, .int .i64 o, .int .i64 d] 43)
  have e2 : ((w.alloc (.cells #[.int .i64 n, .int .i64 o, .int .i64 d] 43)).alloc (.cells #[.int .i64 r] 3)).heap.size = w.heap.size + 1 + 1 := by simp
  have b2 : Boxed _ (w.heap.size + 1 + 1) 3 (.int .i64 0) := blk_alloc (e2 ▸ blk_new ((w.alloc (.cells #[.int .i64 n, .int .i64 o, .int .i64 d] 43)).alloc (.cells #[.int .i64 r] 3)) (.cells #[.int .i64 0] 3)) (.cells #[.int .i64 n, .int .i64 o, .int .i64 d] 43)
  have e1 : (w.alloc (.cells #[.int .i64 n, .int .i64 o, .int .i64 d] 43)).heap.size = w.heap.size + 1 := by simp
  have b1 : Boxed _ (w.heap.size + 1) 3 (.int .i64 r) := blk_alloc (blk_alloc (e1 ▸ blk_new (w.alloc (.cells #[.int .i64 n, .int .i64 o, .int .i64 d] 43)) (.cells #[.int .i64 r] 3)) (.cells #[.int .i64 0] 3)) (.cells #[.int .i64 n, .int .i64 o, .int .i64 d] 43)
  have hB : Below w.heap.size w ((((w.alloc (.cells #[.int .i64 n, .int .i64 o, .int .i64 d] 43)).alloc (.cells #[.int .i64 r] 3)).alloc (.cells #[.int .i64 0] 3)).alloc (.cells #[.int .i64 n, .int .i64 o, .int .i64 d] 43)) := below_alloc (below_alloc (below_alloc (below_alloc (Below.refl _ _) _) _) _) _
  have e4 : ((((w.alloc (.cells #[.int .i64 n, .int .i64 o, .int .i64 d] 43)).alloc (.cells #[.int .i64 r] 3)).alloc (.cells #[.int .i64 0] 3)).alloc (.cells #[.int .i64 n, .int .i64 o, .int .i64 d] 43)).heap.size = w.heap.size + 4 := by simp
  clear e1 e2 e3
  generalize ((((w.alloc (.cells #[.int .i64 n, .int .i64 o, .int .i64 d] 43)).alloc (.cells #[.int .i64 r] 3)).alloc (.cells #[.int .i64 0] 3)).alloc (.cells #[.int .i64 n, .int .i64 o, .int .i64 d] 43)) = W0 at b1 b2 b3 hB e4 ⊢
  refine wpIn_rangeFunc_ownF rfl (by omega) (gf := 38) (lb := #[.pointer (some ⟨w.heap.size + 1 + 1 + 1, 0, none⟩)]) rfl trivial (enters_of Tryd.func38 (by kernel_rfl) rfl)
    (splits_seq 5 (by omega) (w.heap.size + 1 + 1 + 1) n o d (by omega) hn W0 b3) Kb.trans (Kb.put (by omega)) (Below.refl _ _) (fun _ => rfl)
    (fun pre W => (Boxed W (w.heap.size + 1) 3 (.int .i64 r) ∧ Boxed W (w.heap.size + 1 + 1) 3 (.int .i64 (bestL r pre))) ∧ Below w.heap.size w W)
    (fun _ _ _ => False)
    (OwnFrom.and (OwnFrom.and (Own.from (boxed_own _ _ _) _) (Own.from (boxed_own _ _ _) _)) (ownFrom_below (Nat.le_refl _) (by omega)))
    (fun _ _ _ _ _ hs _ _ => hs)
    ⟨⟨b1, b2⟩, hB⟩
    (fun x => { tmps := #[.agg #[.int .i64 n, .int .i64 o, .int .i64 d], .int .i64 r, .pointer (some ⟨w.heap.size, 0, none⟩), .pointer (some ⟨w.heap.size + 1, 0, none⟩), .int .i64 0, .pointer (some ⟨w.heap.size + 1 + 1, 0, none⟩), .int .i64 x, .pointer (some ⟨w.heap.size, 0, none⟩), .int .i64 n, .int .i64 r, .bool false, undef, undef, .agg #[.int .i64 n, .int .i64 o, .int .i64 d], .func (.func 38) #[] #[.pointer (some ⟨w.heap.size + 1 + 1 + 1, 0, none⟩)], .int .i64 x, undef, undef, undef, undef, undef], defers := [] }) ?assign ?body ?done ?stop
  case assign =>
    intro l x W K hK
    gi_wp2
    exact hK
  case body =>
    rintro l pre x W ⟨⟨hr1, ho⟩, hB'⟩ _
    have c1 := hr1.cell
    have c2 := ho.cell
    have f2 := ho.frozen
    by_cases hx : x ≤ r
    · gi_wp2
      refine ⟨KeepsOthers.setCell _ _ _, Below.heap_setCell _ _ _ _ (by simp), ⟨hr1.other (by omega) _, ?_⟩, hB'.setCell (p := ⟨w.heap.size + 1 + 1, 0, none⟩) (by simp; omega) _⟩
      rw [bestL_snoc, if_pos hx]
      exact ho.set _
    · gi_wp2
      refine ⟨KeepsOthers.refl _, rfl, ⟨hr1, ?_⟩, hB'⟩
      rw [bestL_snoc, if_neg (by omega)]
      exact ho
  case done =>
    rintro D ys W hD rfl ⟨⟨_, ho⟩, hB'⟩ hK
    have c2 := ho.cell
    gi_wp2
    refine ⟨by simp, .inl ⟨_, _, rfl, run_takeDeferred hK, ?_⟩⟩
    exact ⟨_, results_tmp rfl _ _ _, rfl, hB'.trans (belowK_b (w := w) (Nat.le_refl _) W D _ _ (by omega) hK rfl rfl)⟩
  case stop =>
    rintro D c pre W _ _ h _
    exact h.elim

theorem best_any (n o d r : Int) (w : World) (hr : 0 ≤ r) (hn : n ≤ 500) : Calls Tryd.prog 24 #[.agg #[.int .i64 n, .int .i64 o, .int .i64 d], .int .i64 r] w fun e w' => e = .returned (.int .i64 (bestZ n o d r)) ∧ Below w.heap.size w w' := by
  unfold bestZ
  by_cases h : n ≤ r
  · rw [if_pos h]; exact best_le n o d r w h
  · rw [if_neg h]; exact callsIn_wide.1 (best_gt n o d r w (by omega) hr hn)
end Go.Proofs.YtfamkadpncbmlaaDoor.G
