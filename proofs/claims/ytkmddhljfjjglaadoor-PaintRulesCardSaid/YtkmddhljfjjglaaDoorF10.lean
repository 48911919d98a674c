/- Chapter 18: when two are the same; the least rectangle with the edges of two. Written by mkF10.py. -/
import Derived.Test.YtkmddhljfjjglaaDoorF9
namespace Go.Proofs.YtkmddhljfjjglaaDoor.G
open Go.RowKit Go.Shelf Go.Proofs.YtkmddhljfjjglaaDoorW.PrintWords Go.Proofs.YtkmddhljfjjglaaDoorW.PrintLast Go.Proofs.YtkmddhljfjjglaaDoorW.PrintMore

theorem eqB30 (d : Nat) (w : World) (x0 y0 : Int) (x1 y1 : Int) (x2 y2 : Int) (x3 y3 : Int) :
    (Op.equalIn (d + 2) 30 (.agg #[.int .i64 x0, .int .i64 x1, .int .i64 x2, .int .i64 x3]) (.agg #[.int .i64 y0, .int .i64 y1, .int .i64 y2, .int .i64 y3])).run Tryd.prog w = .ok (x0 == y0 && (x1 == y1 && (x2 == y2 && (x3 == y3)))) w := by
  refine eqA_of Tryd.underlying30 (by kernel_rfl) ?_
  refine eqf_cons (by rfl) (by go_simp; rfl) (by go_simp; rfl) (by go_simp) ?_
  refine eqf_cons (by rfl) (by go_simp; rfl) (by go_simp; rfl) (by go_simp) ?_
  refine eqf_cons (by rfl) (by go_simp; rfl) (by go_simp; rfl) (by go_simp) ?_
  exact eqf_last (by rfl) (by go_simp; rfl) (by go_simp; rfl) (by go_simp)
theorem eqB39 (d : Nat) (w : World) (x0 y0 : Bool) (x1 y1 : Int) (x2 y2 : Int) (x3 y3 : Int) (x4 y4 : Int) (x5 y5 : Int) :
    (Op.equalIn (d + 3) 39 (.agg #[.bool x0, .int .i64 x1, .int .i64 x2, .int .i64 x3, .int .i64 x4, .int .i64 x5]) (.agg #[.bool y0, .int .i64 y1, .int .i64 y2, .int .i64 y3, .int .i64 y4, .int .i64 y5])).run Tryd.prog w = .ok (x0 == y0 && (x1 == y1 && ((x2 == y2 && (x3 == y3 && (x4 == y4 && (x5 == y5))))))) w := by
  refine eqA_of Tryd.underlying39 (by kernel_rfl) ?_
  refine eqf_cons (by rfl) (by go_simp; rfl) (by go_simp; rfl) (by go_simp) ?_
  refine eqf_cons (by rfl) (by go_simp; rfl) (by go_simp; rfl) (by go_simp) ?_
  exact eqf_last (by rfl) (by go_simp) (by go_simp) (eqB30 (d + 0) w _ _ _ _ _ _ _ _)
attribute [local go_sem high] eqB30 eqB39
section
attribute [local go_sem] max2_int min2_int
/-- The least rectangle with the edges of two. -/
def hullS (a b : S30) : S30 := if (a.f0 == b.f0 && (a.f1 == b.f1 && (a.f2 == b.f2 && (a.f3 == b.f3)))) = true then a else
  ⟨min a.f0 b.f0, min a.f1 b.f1, wrap64 (max (wrap64 (a.f0 + a.f2)) (wrap64 (b.f0 + b.f2)) - min a.f0 b.f0), wrap64 (max (wrap64 (a.f1 + a.f3)) (wrap64 (b.f1 + b.f3)) - min a.f1 b.f1)⟩
set_option maxRecDepth 100000 in
set_option maxHeartbeats 4000000 in
theorem hull_any (a0 a1 a2 a3 b0 b1 b2 b3 : Int) (w : World) : Calls Tryd.prog 38 #[.agg #[.int .i64 a0, .int .i64 a1, .int .i64 a2, .int .i64 a3], .agg #[.int .i64 b0, .int .i64 b1, .int .i64 b2, .int .i64 b3]] w fun e w' => e = .returned (vS30 (hullS ⟨a0, a1, a2, a3⟩ ⟨b0, b1, b2, b3⟩)) ∧ Below w.heap.size w w' := by
  have hB := Aside0.mk (below_alloc (below_alloc (below_alloc (Below.refl w.heap.size w) (.cells #[.int .i64 a0, .int .i64 a1, .int .i64 a2, .int .i64 a3] 30)) (.cells #[.int .i64 b0, .int .i64 b1, .int .i64 b2, .int .i64 b3] 30)) (.cells #[.int .i64 0, .int .i64 0, .int .i64 0, .int .i64 0] 30))
  by_cases h : (a0 == b0 && (a1 == b1 && (a2 == b2 && (a3 == b3)))) = true
  · have HE := Aside0.mk (show hullS ⟨a0, a1, a2, a3⟩ ⟨b0, b1, b2, b3⟩ = ⟨a0, a1, a2, a3⟩ from if_pos h)
    go_enter Tryd.func38, Tryd.ntmps38
    go_wp2
    refine bodyPost_ret (v := .agg #[.int .i64 a0, .int .i64 a1, .int .i64 a2, .int .i64 a3]) (by simp [results, Tryd.results38, go_sem]) rfl ⟨by rw [HE.out]; rfl, ?_⟩
    repeat (first | exact Below.refl _ _ | apply below_alloc | apply pw_below_drewN)
  · have h' := Bool.eq_false_iff.mpr h
    have HE := Aside0.mk (show hullS ⟨a0, a1, a2, a3⟩ ⟨b0, b1, b2, b3⟩ = ⟨min a0 b0, min a1 b1, wrap64 (max (wrap64 (a0 + a2)) (wrap64 (b0 + b2)) - min a0 b0), wrap64 (max (wrap64 (a1 + a3)) (wrap64 (b1 + b3)) - min a1 b1)⟩ from if_neg h)
    clear h
    go_enter Tryd.func38, Tryd.ntmps38
    go_wp2
    go_quiet (fail)
    all_goals go_wp2
    all_goals
      refine bodyPost_ret (v := .agg #[.int .i64 (min a0 b0), .int .i64 (min a1 b1), .int .i64 (wrap64 (max (wrap64 (a0 + a2)) (wrap64 (b0 + b2)) - min a0 b0)), .int .i64 (wrap64 (max (wrap64 (a1 + a3)) (wrap64 (b1 + b3)) - min a1 b1))]) (by simp [results, Tryd.results38, go_sem]) rfl ⟨by rw [HE.out]; rfl, ?_⟩
      repeat (first | exact Below.refl _ _ | apply below_alloc | apply pw_below_drewN | refine Below.setCell ?_ (show w.heap.size ≤ w.heap.size + 1 + 1 by omega) _)
end
end Go.Proofs.YtkmddhljfjjglaaDoor.G
