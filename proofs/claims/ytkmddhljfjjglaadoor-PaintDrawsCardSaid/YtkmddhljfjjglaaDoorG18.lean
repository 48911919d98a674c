/- Functions of the law and of what it calls as plain Lean functions, and that the calls come to their answers: written by fprint.py. -/
import Derived.Test.YtkmddhljfjjglaaDoorF17
import Derived.Test.YtkmddhljfjjglaaDoorG0
import Derived.Test.YtkmddhljfjjglaaDoorG17
namespace Go.Proofs.YtkmddhljfjjglaaDoor.G
open Go.RowKit Go.Proofs.YtkmddhljfjjglaaDoorW.PrintWords Go.Proofs.YtkmddhljfjjglaaDoorW.PrintLast Go.Proofs.YtkmddhljfjjglaaDoorW.PrintMore
attribute [local go_sem] max2_int min2_int max_two min_two max_three min_three max_four min_four   -- for this text's walks alone
set_option linter.unusedVariables false
set_option linter.unusedSimpArgs false

/-! ### gutterref18_Seen: function 22 -/
mutual
def gutterref18_Seen.j0 : Nat → List (S39) → Bool → Int → Int → Int → Int → Option ((List (S39)) × Int)
 | 0, _, _, _, _, _, _ => none
 | k + 1, x0, x18, x218000, x218001, x218002, x218003 => if x18 = true then (some (([] : List (S39)), 170)) else (gutterref18_Seen.l0 k x0 ([] : List (S39)) 0 x218000 x218001 x218002 x218003)
def gutterref18_Seen.l0 : Nat → List (S39) → List (S39) → Int → Int → Int → Int → Int → Option ((List (S39)) × Int)
 | 0, _, _, _, _, _, _, _ => none
 | k + 1, x0, x6, x7, x218000, x218001, x218002, x218003 => if x7 < (x0.length : Int) then (if 0 ≤ x7 then (if (wrap64 ((mn (wrap64 (((rd_T39 x0 x7).f2.f0) + ((rd_T39 x0 x7).f2.f2))) (wrap64 (x218000 + x218002))) - (mx ((rd_T39 x0 x7).f2.f0) x218000))) > 0 then (if (wrap64 ((mn (wrap64 (((rd_T39 x0 x7).f2.f1) + ((rd_T39 x0 x7).f2.f3))) (wrap64 (x218001 + x218003))) - (mx ((rd_T39 x0 x7).f2.f1) x218001))) > 0 then (if x6.length < 2932031007402 then (gutterref18_Seen.l0 k x0 (x6 ++ [(⟨(rd_T39 x0 x7).f0, (rd_T39 x0 x7).f1, (⟨(rd_T39 x0 x7).f2.f0, (rd_T39 x0 x7).f2.f1, (rd_T39 x0 x7).f2.f2, (rd_T39 x0 x7).f2.f3⟩ : S30)⟩ : S39)]) (wrap64 (x7 + 1)) x218000 x218001 x218002 x218003) else (none)) else (gutterref18_Seen.l0 k x0 x6 (wrap64 (x7 + 1)) x218000 x218001 x218002 x218003)) else (gutterref18_Seen.l0 k x0 x6 (wrap64 (x7 + 1)) x218000 x218001 x218002 x218003)) else (none)) else (some (x6, 0))
end
def gutterref18_Seen.f (k : Nat) (l0 : List (S39)) (a1_0 : Int) (a1_1 : Int) (a1_2 : Int) (a1_3 : Int) : Option ((List (S39)) × Int) := (gutterref18_Is.f a1_0 a1_1 a1_2 a1_3).bind fun t218 => (if t218 = true then ((gutterref18_all.f k l0).bind fun t219 => (gutterref18_Seen.j0 k l0 (!t219) a1_0 a1_1 a1_2 a1_3)) else (gutterref18_Seen.j0 k l0 true a1_0 a1_1 a1_2 a1_3))
theorem gutterref18_Seen.mono_l : ∀ k, (∀ y0 y1 y2 y3 y4 y5, LeO (gutterref18_Seen.j0 k y0 y1 y2 y3 y4 y5) (gutterref18_Seen.j0 (k + 1) y0 y1 y2 y3 y4 y5)) ∧ (∀ y0 y1 y2 y3 y4 y5 y6, LeO (gutterref18_Seen.l0 k y0 y1 y2 y3 y4 y5 y6) (gutterref18_Seen.l0 (k + 1) y0 y1 y2 y3 y4 y5 y6))
 | 0 => ⟨fun _ _ _ _ _ _ r h => by simp [gutterref18_Seen.j0] at h, fun _ _ _ _ _ _ _ r h => by simp [gutterref18_Seen.l0] at h⟩
 | k + 1 => by
  obtain ⟨ih0, ih1⟩ := gutterref18_Seen.mono_l k
  refine ⟨?_, ?_⟩
  ·
   intro y0 y1 y2 y3 y4 y5
   unfold gutterref18_Seen.j0
   repeat' first
   | (with_reducible exact ih0 _ _ _ _ _ _)
   | (with_reducible exact ih1 _ _ _ _ _ _ _)
   | (with_reducible exact gutterref18_all.mono _ _)
   | (with_reducible exact LeO.refl _)
   | (with_reducible exact LeO.none _)
   | (with_reducible refine LeO.ite ?_ ?_)
   | (with_reducible refine LeO.bind ?_ (fun _ => ?_))
   | exact ih0 _ _ _ _ _ _
   | exact ih1 _ _ _ _ _ _ _
   | exact gutterref18_all.mono _ _
   | exact LeO.none _
   | refine LeO.ite ?_ ?_
   | refine LeO.bind ?_ (fun _ => ?_)
  ·
   intro y0 y1 y2 y3 y4 y5 y6
   unfold gutterref18_Seen.l0
   repeat' first
   | (with_reducible exact ih0 _ _ _ _ _ _)
   | (with_reducible exact ih1 _ _ _ _ _ _ _)
   | (with_reducible exact gutterref18_all.mono _ _)
   | (with_reducible exact LeO.refl _)
   | (with_reducible exact LeO.none _)
   | (with_reducible refine LeO.ite ?_ ?_)
   | (with_reducible refine LeO.bind ?_ (fun _ => ?_))
   | exact ih0 _ _ _ _ _ _
   | exact ih1 _ _ _ _ _ _ _
   | exact gutterref18_all.mono _ _
   | exact LeO.none _
   | refine LeO.ite ?_ ?_
   | refine LeO.bind ?_ (fun _ => ?_)
theorem gutterref18_Seen.mono : ∀ a0 a1 a2 a3 a4 k, LeO (gutterref18_Seen.f k a0 a1 a2 a3 a4) (gutterref18_Seen.f (k + 1) a0 a1 a2 a3 a4) := by
 intro a0 a1 a2 a3 a4 k
 obtain ⟨ih0, ih1⟩ := gutterref18_Seen.mono_l k
 unfold gutterref18_Seen.f
 repeat' first
   | (with_reducible exact ih0 _ _ _ _ _ _)
   | (with_reducible exact ih1 _ _ _ _ _ _ _)
   | (with_reducible exact gutterref18_all.mono _ _)
   | (with_reducible exact LeO.refl _)
   | (with_reducible exact LeO.none _)
   | (with_reducible refine LeO.ite ?_ ?_)
   | (with_reducible refine LeO.bind ?_ (fun _ => ?_))
   | exact ih0 _ _ _ _ _ _
   | exact ih1 _ _ _ _ _ _ _
   | exact gutterref18_all.mono _ _
   | exact LeO.none _
   | refine LeO.ite ?_ ?_
   | refine LeO.bind ?_ (fun _ => ?_)
set_option maxHeartbeats 8000000 in
set_option maxRecDepth 100000 in
theorem gutterref18_Seen.calls (k : Nat) (A0 : Option Addr) (c0 : Nat) (l0 : List (S39)) (a1_0 : Int) (a1_1 : Int) (a1_2 : Int) (a1_3 : Int) (r1 : List (S39)) (r2 : Int) (w : World) (hr0 : Kd.C k39 w A0 l0.length l0) (hc0 : l0.length ≤ c0) (h : gutterref18_Seen.f k l0 a1_0 a1_1 a1_2 a1_3 = some (r1, r2)) :
  Calls Tryd.prog 22 #[.slice A0 l0.length c0, .agg #[.int .i64 a1_0, .int .i64 a1_1, .int .i64 a1_2, .int .i64 a1_3]] w fun e w' => ∃ v0_ : Value, e = .returned (.tuple #[v0_, .int .i64 r2]) ∧ Kd.R k39 39 w' w.heap.size (fun _ => True) v0_ r1 ∧ Below w.heap.size w w' := by
 have hu30 := Tryd.underlying30
 have hu39 := Tryd.underlying39
 have HR0 := Aside0.mk hr0
 have HC0 := Aside0.mk hc0
 clear hr0 hc0
 have HB := Aside0.mk (Below.refl w.heap.size w)
 have H : ((gutterref18_Is.f a1_0 a1_1 a1_2 a1_3).bind fun t218 => (if t218 = true then ((gutterref18_all.f k l0).bind fun t219 => (gutterref18_Seen.j0 k l0 (!t219) a1_0 a1_1 a1_2 a1_3)) else (gutterref18_Seen.j0 k l0 true a1_0 a1_1 a1_2 a1_3))) = some (r1, r2) := h
 clear h
 have HC3 := Aside0.mk H
 clear H
 go_enter Tryd.func22, Tryd.ntmps22
 go_upto_region 1 with (first | ((with_reducible refine gate_dst (N := 3) rfl ?_); refine box_event ?hg (N := 3) ?hd (cs := #[.int .i64 a1_0, .int .i64 a1_1, .int .i64 a1_2, .int .i64 a1_3]) (t := 30) ?hr ?_; (case hd => rfl); (case hg => rfl); (case hr => first | (go_simp; done) | (go_simp; rfl)); intro gb217 hg w4 hbox hb; have n0_ := Aside0.mk (below_step (by repeat (first | (with_reducible first | exact HB.out | apply below_alloc | apply pw_below_drewN | apply below_drew1) | exact HB.out)) hb); have n1_ := Aside0.mk (hbox); have n2_ := Aside0.mk ((by rw [hg]; exact (below_size (by repeat (first | (with_reducible first | exact HB.out | apply below_alloc | apply pw_below_drewN | apply below_drew1) | exact HB.out))) : w.heap.size ≤ gb217)); have n3_ := Aside0.mk ((by rw [hg]; exact (below_size (by repeat (first | (with_reducible first | exact HB.out | apply below_alloc | apply pw_below_drewN | apply below_drew1) | exact HB.out))) : w.heap.size ≤ gb217)); clear HB; have HB := n0_; have BK217 := n1_; have GW217 := n2_; have GE217 := n3_; clear n0_ n1_ n2_ n3_; clear hb hbox hg))
 (try simp only [Act.put, List.setIfInBounds_toArray, List.set_cons_zero, List.set_cons_succ])
 go_cut [18] (fun v18 wc => ∃ (kq : Nat) (x18_2 : Bool), v18 = .bool x18_2 ∧ Aside0 (gutterref18_Seen.j0 kq l0 x18_2 a1_0 a1_1 a1_2 a1_3 = some (r1, r2)) ∧ Aside0 (kq ≤ k) ∧ Aside0 (wc.heap[gb217]? = some (.cells #[.int .i64 a1_0, .int .i64 a1_1, .int .i64 a1_2, .int .i64 a1_3] 30 (0, 0))) ∧ Aside0 (Below w.heap.size w wc))
 case first =>
  have H := HC3.out
  clear HC3
  replace H := Option.bind_eq_some_iff.mp H
  obtain ⟨t218, A50, H⟩ := H
  replace H : (if t218 = true then ((gutterref18_all.f k l0).bind fun t219 => (gutterref18_Seen.j0 k l0 (!t219) a1_0 a1_1 a1_2 a1_3)) else (gutterref18_Seen.j0 k l0 true a1_0 a1_1 a1_2 a1_3)) = some (r1, r2) := H
  have A5 := Aside0.mk A50
  clear A50
  by_cases c6 : t218 = true
  ·
   subst c6
   have H1 : ((gutterref18_all.f k l0).bind fun t219 => (gutterref18_Seen.j0 k l0 (!t219) a1_0 a1_1 a1_2 a1_3)) = some (r1, r2) := by rw [if_pos rfl] at H; exact H
   clear H
   have H := H1
   clear H1
   replace H := Option.bind_eq_some_iff.mp H
   obtain ⟨t219, A70, H⟩ := H
   replace H : (gutterref18_Seen.j0 k l0 (!t219) a1_0 a1_1 a1_2 a1_3) = some (r1, r2) := H
   have A7 := Aside0.mk A70
   clear A70
   have H' := Aside0.mk H
   clear H
   have hcz8_0 : w4.cell? ⟨gb217, 0, none⟩ = some (.int .i64 a1_0) := (blk_cell BK217.out 0).trans rfl
   have hcz8_1 : w4.cell? ⟨gb217, 1, none⟩ = some (.int .i64 a1_1) := (blk_cell BK217.out 1).trans rfl
   have hcz8_2 : w4.cell? ⟨gb217, 2, none⟩ = some (.int .i64 a1_2) := (blk_cell BK217.out 2).trans rfl
   have hcz8_3 : w4.cell? ⟨gb217, 3, none⟩ = some (.int .i64 a1_3) := (blk_cell BK217.out 3).trans rfl
   have hfz8_0 := blk_frozen BK217.out 0
   have hfz8_1 := blk_frozen BK217.out 1
   have hfz8_2 := blk_frozen BK217.out 2
   have hfz8_3 := blk_frozen BK217.out 3
   go_wp2_with (first | ((with_reducible refine gate_callee (f := 39) rfl ?_); refine goesL_ (some 12) rfl rfl Tryd.func39 (by kernel_rfl) rfl #[.agg #[.int .i64 a1_0, .int .i64 a1_1, .int .i64 a1_2, .int .i64 a1_3]] rfl (by (try simp only [List.map_toArray, List.map_cons, List.map_nil]); first | done | rfl | (simp only [List.length_drop, List.length_take]; rfl)) ?_; (with_reducible refine (gutterref18_Is.calls a1_0 a1_1 a1_2 a1_3 true _ A5.out).mono ?_); rintro e w9 ⟨rfl, hb⟩; refine ⟨_, rfl, ?_⟩; have n0_ := Aside0.mk (blk_below (g := gb217) (o := .cells #[.int .i64 a1_0, .int .i64 a1_1, .int .i64 a1_2, .int .i64 a1_3] 30 (0, 0)) (by (with_reducible repeat (first | refine blk_drewN ?_ _ | refine blk_drew ?_ | refine blk_alloc ?_ _)); exact BK217.out) hb); have n1_ := Aside0.mk (below_step (by repeat (first | (with_reducible first | exact HB.out | apply below_alloc | apply pw_below_drewN | apply below_drew1 | refine below_set ?_ GE217.out) | exact HB.out)) hb); clear BK217; clear HB; have BK217 := n0_; have HB := n1_; clear n0_ n1_; (try clear hb); (try clear hb2); (try clear hk); (try clear hi)) | (go_at_call 45; refine calls_of_args (args' := #[.slice A0 l0.length c0]) (by (try simp only [List.map_toArray, List.map_cons, List.map_nil]); first | done | rfl | (simp only [List.length_drop, List.length_take]; rfl)) ?_; (with_reducible refine (gutterref18_all.calls k _ _ l0 t219 _ ?side1 ?side2 A7.out).mono ?_); (case side1 => repeat (first | exact (Kd.C_below HR0.out HB.out) | (with_reducible refine Kd.C_alloc ?_ _) | (with_reducible refine Kd.C_drewN ?_ _) | (with_reducible refine Kd.C_drew ?_))); (case side2 => exact HC0.out); rintro e w10 ⟨rfl, hb⟩; have n0_ := Aside0.mk (blk_below (g := gb217) (o := .cells #[.int .i64 a1_0, .int .i64 a1_1, .int .i64 a1_2, .int .i64 a1_3] 30 (0, 0)) (by (with_reducible repeat (first | refine blk_drewN ?_ _ | refine blk_drew ?_ | refine blk_alloc ?_ _)); exact BK217.out) hb); have n1_ := Aside0.mk (below_step (by repeat (first | (with_reducible first | exact HB.out | apply below_alloc | apply pw_below_drewN | apply below_drew1 | refine below_set ?_ GE217.out) | exact HB.out)) hb); clear BK217; clear HB; have BK217 := n0_; have HB := n1_; clear n0_ n1_; (try clear hb); (try clear hb2); (try clear hk); (try clear hi)))
   go_meet
   case rel => exact ⟨_, (!t219), (by first | rfl | (simp; done) | (simp [*]; done)), H', ⟨by first | omega | exact Nat.le_refl _⟩, ⟨by (with_reducible repeat (first | refine blk_drewN ?_ _ | refine blk_drew ?_ | refine blk_alloc ?_ _)); exact BK217.out⟩, ⟨by repeat (first | (with_reducible first | exact HB.out | apply below_alloc | apply pw_below_drewN | apply below_drew1 | refine below_set ?_ GE217.out) | exact HB.out)⟩⟩
  ·
   replace c6 := Bool.eq_false_iff.mpr c6
   subst c6
   have H1 : (gutterref18_Seen.j0 k l0 true a1_0 a1_1 a1_2 a1_3) = some (r1, r2) := by rw [if_neg (show ¬ (false = true) by decide)] at H; exact H
   clear H
   have H := H1
   clear H1
   have H' := Aside0.mk H
   clear H
   have hcz11_0 : w4.cell? ⟨gb217, 0, none⟩ = some (.int .i64 a1_0) := (blk_cell BK217.out 0).trans rfl
   have hcz11_1 : w4.cell? ⟨gb217, 1, none⟩ = some (.int .i64 a1_1) := (blk_cell BK217.out 1).trans rfl
   have hcz11_2 : w4.cell? ⟨gb217, 2, none⟩ = some (.int .i64 a1_2) := (blk_cell BK217.out 2).trans rfl
   have hcz11_3 : w4.cell? ⟨gb217, 3, none⟩ = some (.int .i64 a1_3) := (blk_cell BK217.out 3).trans rfl
   have hfz11_0 := blk_frozen BK217.out 0
   have hfz11_1 := blk_frozen BK217.out 1
   have hfz11_2 := blk_frozen BK217.out 2
   have hfz11_3 := blk_frozen BK217.out 3
   go_wp2_with (first | ((with_reducible refine gate_callee (f := 39) rfl ?_); refine goesL_ (some 12) rfl rfl Tryd.func39 (by kernel_rfl) rfl #[.agg #[.int .i64 a1_0, .int .i64 a1_1, .int .i64 a1_2, .int .i64 a1_3]] rfl (by (try simp only [List.map_toArray, List.map_cons, List.map_nil]); first | done | rfl | (simp only [List.length_drop, List.length_take]; rfl)) ?_; (with_reducible refine (gutterref18_Is.calls a1_0 a1_1 a1_2 a1_3 false _ A5.out).mono ?_); rintro e w12 ⟨rfl, hb⟩; refine ⟨_, rfl, ?_⟩; have n0_ := Aside0.mk (blk_below (g := gb217) (o := .cells #[.int .i64 a1_0, .int .i64 a1_1, .int .i64 a1_2, .int .i64 a1_3] 30 (0, 0)) (by (with_reducible repeat (first | refine blk_drewN ?_ _ | refine blk_drew ?_ | refine blk_alloc ?_ _)); exact BK217.out) hb); have n1_ := Aside0.mk (below_step (by repeat (first | (with_reducible first | exact HB.out | apply below_alloc | apply pw_below_drewN | apply below_drew1 | refine below_set ?_ GE217.out) | exact HB.out)) hb); clear BK217; clear HB; have BK217 := n0_; have HB := n1_; clear n0_ n1_; (try clear hb); (try clear hb2); (try clear hk); (try clear hi)))
   go_meet
   case rel => exact ⟨_, (true), (by first | rfl | (simp; done) | (simp [*]; done)), H', ⟨by first | omega | exact Nat.le_refl _⟩, ⟨by (with_reducible repeat (first | refine blk_drewN ?_ _ | refine blk_drew ?_ | refine blk_alloc ?_ _)); exact BK217.out⟩, ⟨by repeat (first | (with_reducible first | exact HB.out | apply below_alloc | apply pw_below_drewN | apply below_drew1 | refine below_set ?_ GE217.out) | exact HB.out)⟩⟩
 case rest =>
  clear HC3
  try clear c2
  try clear p2
  try clear c3
  try clear c6
  try clear hcz11_0
  try clear hcz11_1
  try clear hcz11_2
  try clear hcz11_3
  try clear hcz8_0
  try clear hcz8_1
  try clear hcz8_2
  try clear hcz8_3
  try clear hfz11_0
  try clear hfz11_1
  try clear hfz11_2
  try clear hfz11_3
  try clear hfz8_0
  try clear hfz8_1
  try clear hfz8_2
  try clear hfz8_3
  obtain ⟨kq, x18_2, rfl, HA, HJ2, BK217, HB⟩ := hcut
  cases kq with
  | zero => exact absurd HA.out (by simp [gutterref18_Seen.j0])
  | succ kj2 =>
   have H := HA.out
   clear HA
   simp only [gutterref18_Seen.j0] at H
   by_cases c13 : x18_2 = true
   ·
    subst c13
    have H1 : (some (([] : List (S39)), 170)) = some (r1, r2) := by rw [if_pos rfl] at H; exact H
    clear H
    have H := H1
    clear H1
    simp only [Option.some.injEq, Prod.mk.injEq] at H
    obtain ⟨rfl, rfl⟩ := H
    go_wp2
    go_ret2
    exact ⟨_, by first | rfl | (simp [errW_none, errW_some] <;> rfl) | (simp [*, errW_none, errW_some] <;> rfl), by first | exact Kd.R_nil _ _ _ _ _ | exact Kd.N_nil _ _ _ _ _ | exact Kd.V_nil _ _ _ _ _ | exact Kd.Q_nil _ _ _ _ _ | exact Kd.S_nil _ _ _ _ _, by repeat (first | (with_reducible first | exact HB.out | apply below_alloc | apply pw_below_drewN | apply below_drew1 | refine below_set ?_ GE217.out) | exact HB.out)⟩
   ·
    replace c13 := Bool.eq_false_iff.mpr c13
    subst c13
    have H1 : (gutterref18_Seen.l0 kj2 l0 ([] : List (S39)) 0 a1_0 a1_1 a1_2 a1_3) = some (r1, r2) := by rw [if_neg (show ¬ (false = true) by decide)] at H; exact H
    clear H
    have H := H1
    clear H1
    have H' := Aside0.mk H
    clear H
    go_wp2
    go_loopg [6, 7] kj2 (fun kq v6 v7 w' => ∃ (x6_2 : List (S39)) (x7_2 : Int), v7 = .int .i64 x7_2 ∧ Aside0 (gutterref18_Seen.l0 kq l0 x6_2 x7_2 a1_0 a1_1 a1_2 a1_3 = some (r1, r2)) ∧ Aside0 (kq ≤ kj2) ∧ Aside0 (Kd.R k39 39 w' w.heap.size (fun _ => True) v6 x6_2) ∧ Aside0 (w'.heap[gb217]? = some (.cells #[.int .i64 a1_0, .int .i64 a1_1, .int .i64 a1_2, .int .i64 a1_3] 30 (0, 0))) ∧ Aside0 (Below w.heap.size w w'))
    case atStart => exact ⟨(([] : List (S39))), (0), (by first | rfl | (simp; done) | (simp [*]; done)), H', ⟨Nat.le_refl _⟩, ⟨by first | exact Kd.R_nil _ _ _ _ _ | exact Kd.N_nil _ _ _ _ _ | exact Kd.V_nil _ _ _ _ _ | exact Kd.Q_nil _ _ _ _ _ | exact Kd.S_nil _ _ _ _ _⟩, ⟨by (with_reducible repeat (first | refine blk_drewN ?_ _ | refine blk_drew ?_ | refine blk_alloc ?_ _)); exact BK217.out⟩, ⟨by repeat (first | (with_reducible first | exact HB.out | apply below_alloc | apply pw_below_drewN | apply below_drew1 | refine below_set ?_ GE217.out) | exact HB.out)⟩⟩
    case round =>
     clear H'
     try clear c1
     try clear c2
     try clear p2
     try clear c3
     try clear c6
     try clear c13
     try clear hcz11_0
     try clear hcz11_1
     try clear hcz11_2
     try clear hcz11_3
     try clear hcz8_0
     try clear hcz8_1
     try clear hcz8_2
     try clear hcz8_3
     try clear hfz11_0
     try clear hfz11_1
     try clear hfz11_2
     try clear hfz11_3
     try clear hfz8_0
     try clear hfz8_1
     try clear hfz8_2
     try clear hfz8_3
     try clear p2
     obtain ⟨x6_2, x7_2, rfl, HA, HK2, HO_6, BK217, HB⟩ := hrel
     cases gk with
     | zero => exact absurd HA.out (by simp [gutterref18_Seen.l0])
     | succ k2 =>
      have H := HA.out
      clear HA
      simp only [gutterref18_Seen.l0] at H
      by_cases c14 : x7_2 < (l0.length : Int)
      ·
       rw [if_pos c14] at H
       have c14b0 : decide (x7_2 < (l0.length : Int)) = true := decide_eq_true c14
       clear c14
       by_cases c15 : 0 ≤ x7_2
       ·
        rw [if_pos c15] at H
        have c15b0 : decide (0 ≤ x7_2) = true := decide_eq_true c15
        clear c15
        obtain ⟨ji16, hji16⟩ : ∃ j_ : Int, (mn (wrap64 (((rd_T39 l0 x7_2).f2.f0) + ((rd_T39 l0 x7_2).f2.f2))) (wrap64 (a1_0 + a1_2))) = j_ := ⟨_, rfl⟩
        replace H : (if (wrap64 ((ji16) - (mx ((rd_T39 l0 x7_2).f2.f0) a1_0))) > 0 then (if (wrap64 ((mn (wrap64 (((rd_T39 l0 x7_2).f2.f1) + ((rd_T39 l0 x7_2).f2.f3))) (wrap64 (a1_1 + a1_3))) - (mx ((rd_T39 l0 x7_2).f2.f1) a1_1))) > 0 then (if x6_2.length < 2932031007402 then (gutterref18_Seen.l0 k2 l0 (x6_2 ++ [(⟨(rd_T39 l0 x7_2).f0, (rd_T39 l0 x7_2).f1, (⟨(rd_T39 l0 x7_2).f2.f0, (rd_T39 l0 x7_2).f2.f1, (rd_T39 l0 x7_2).f2.f2, (rd_T39 l0 x7_2).f2.f3⟩ : S30)⟩ : S39)]) (wrap64 (x7_2 + 1)) a1_0 a1_1 a1_2 a1_3) else (none)) else (gutterref18_Seen.l0 k2 l0 x6_2 (wrap64 (x7_2 + 1)) a1_0 a1_1 a1_2 a1_3)) else (gutterref18_Seen.l0 k2 l0 x6_2 (wrap64 (x7_2 + 1)) a1_0 a1_1 a1_2 a1_3)) = some (r1, r2) := by first | (rw [hji16] at H; exact H) | (simp only [hji16] at H ⊢; exact H)
        have hji16_ : (if (wrap64 (a1_0 + a1_2)) < (wrap64 (((rd_T39 l0 x7_2).f2.f0) + ((rd_T39 l0 x7_2).f2.f2))) then (wrap64 (a1_0 + a1_2)) else (wrap64 (((rd_T39 l0 x7_2).f2.f0) + ((rd_T39 l0 x7_2).f2.f2)))) = ji16 := hji16
        obtain ⟨ji17, hji17⟩ : ∃ j_ : Int, (mx ((rd_T39 l0 x7_2).f2.f0) a1_0) = j_ := ⟨_, rfl⟩
        replace H : (if (wrap64 ((ji16) - (ji17))) > 0 then (if (wrap64 ((mn (wrap64 (((rd_T39 l0 x7_2).f2.f1) + ((rd_T39 l0 x7_2).f2.f3))) (wrap64 (a1_1 + a1_3))) - (mx ((rd_T39 l0 x7_2).f2.f1) a1_1))) > 0 then (if x6_2.length < 2932031007402 then (gutterref18_Seen.l0 k2 l0 (x6_2 ++ [(⟨(rd_T39 l0 x7_2).f0, (rd_T39 l0 x7_2).f1, (⟨(rd_T39 l0 x7_2).f2.f0, (rd_T39 l0 x7_2).f2.f1, (rd_T39 l0 x7_2).f2.f2, (rd_T39 l0 x7_2).f2.f3⟩ : S30)⟩ : S39)]) (wrap64 (x7_2 + 1)) a1_0 a1_1 a1_2 a1_3) else (none)) else (gutterref18_Seen.l0 k2 l0 x6_2 (wrap64 (x7_2 + 1)) a1_0 a1_1 a1_2 a1_3)) else (gutterref18_Seen.l0 k2 l0 x6_2 (wrap64 (x7_2 + 1)) a1_0 a1_1 a1_2 a1_3)) = some (r1, r2) := by first | (rw [hji17] at H; exact H) | (simp only [hji17] at H ⊢; exact H)
        have hji17_ : (if ((rd_T39 l0 x7_2).f2.f0) < a1_0 then a1_0 else ((rd_T39 l0 x7_2).f2.f0)) = ji17 := hji17
        obtain ⟨ji18, hji18⟩ : ∃ j_ : Int, (mn (wrap64 (((rd_T39 l0 x7_2).f2.f1) + ((rd_T39 l0 x7_2).f2.f3))) (wrap64 (a1_1 + a1_3))) = j_ := ⟨_, rfl⟩
        replace H : (if (wrap64 ((ji16) - (ji17))) > 0 then (if (wrap64 ((ji18) - (mx ((rd_T39 l0 x7_2).f2.f1) a1_1))) > 0 then (if x6_2.length < 2932031007402 then (gutterref18_Seen.l0 k2 l0 (x6_2 ++ [(⟨(rd_T39 l0 x7_2).f0, (rd_T39 l0 x7_2).f1, (⟨(rd_T39 l0 x7_2).f2.f0, (rd_T39 l0 x7_2).f2.f1, (rd_T39 l0 x7_2).f2.f2, (rd_T39 l0 x7_2).f2.f3⟩ : S30)⟩ : S39)]) (wrap64 (x7_2 + 1)) a1_0 a1_1 a1_2 a1_3) else (none)) else (gutterref18_Seen.l0 k2 l0 x6_2 (wrap64 (x7_2 + 1)) a1_0 a1_1 a1_2 a1_3)) else (gutterref18_Seen.l0 k2 l0 x6_2 (wrap64 (x7_2 + 1)) a1_0 a1_1 a1_2 a1_3)) = some (r1, r2) := by first | (rw [hji18] at H; exact H) | (simp only [hji18] at H ⊢; exact H)
        have hji18_ : (if (wrap64 (a1_1 + a1_3)) < (wrap64 (((rd_T39 l0 x7_2).f2.f1) + ((rd_T39 l0 x7_2).f2.f3))) then (wrap64 (a1_1 + a1_3)) else (wrap64 (((rd_T39 l0 x7_2).f2.f1) + ((rd_T39 l0 x7_2).f2.f3)))) = ji18 := hji18
        obtain ⟨ji19, hji19⟩ : ∃ j_ : Int, (mx ((rd_T39 l0 x7_2).f2.f1) a1_1) = j_ := ⟨_, rfl⟩
        replace H : (if (wrap64 ((ji16) - (ji17))) > 0 then (if (wrap64 ((ji18) - (ji19))) > 0 then (if x6_2.length < 2932031007402 then (gutterref18_Seen.l0 k2 l0 (x6_2 ++ [(⟨(rd_T39 l0 x7_2).f0, (rd_T39 l0 x7_2).f1, (⟨(rd_T39 l0 x7_2).f2.f0, (rd_T39 l0 x7_2).f2.f1, (rd_T39 l0 x7_2).f2.f2, (rd_T39 l0 x7_2).f2.f3⟩ : S30)⟩ : S39)]) (wrap64 (x7_2 + 1)) a1_0 a1_1 a1_2 a1_3) else (none)) else (gutterref18_Seen.l0 k2 l0 x6_2 (wrap64 (x7_2 + 1)) a1_0 a1_1 a1_2 a1_3)) else (gutterref18_Seen.l0 k2 l0 x6_2 (wrap64 (x7_2 + 1)) a1_0 a1_1 a1_2 a1_3)) = some (r1, r2) := by first | (rw [hji19] at H; exact H) | (simp only [hji19] at H ⊢; exact H)
        have hji19_ : (if ((rd_T39 l0 x7_2).f2.f1) < a1_1 then a1_1 else ((rd_T39 l0 x7_2).f2.f1)) = ji19 := hji19
        by_cases c20 : (wrap64 ((ji16) - (ji17))) > 0
        ·
         rw [if_pos c20] at H
         have c20b0 : decide (0 < (wrap64 ((ji16) - (ji17)))) = true := decide_eq_true c20
         clear c20
         by_cases c21 : (wrap64 ((ji18) - (ji19))) > 0
         ·
          rw [if_pos c21] at H
          have c21b0 : decide (0 < (wrap64 ((ji18) - (ji19)))) = true := decide_eq_true c21
          clear c21
          by_cases c22 : x6_2.length < 2932031007402
          ·
           rw [if_pos c22] at H
           have LMc22 := Aside0.mk c22
           clear c22
           obtain ⟨y223, hy223⟩ : ∃ y_ : List (S39), y_ = (x6_2 ++ [(⟨(rd_T39 l0 x7_2).f0, (rd_T39 l0 x7_2).f1, (⟨(rd_T39 l0 x7_2).f2.f0, (rd_T39 l0 x7_2).f2.f1, (rd_T39 l0 x7_2).f2.f2, (rd_T39 l0 x7_2).f2.f3⟩ : S30)⟩ : S39)]) := ⟨_, rfl⟩
           replace H : (gutterref18_Seen.l0 k2 l0 y223 (wrap64 (x7_2 + 1)) a1_0 a1_1 a1_2 a1_3) = some (r1, r2) := by first | (rw [hy223]; with_reducible exact H) | (have H2_ := (Option.bind_some _ _).symm.trans H; rw [hy223]; with_reducible exact H2_) | (have H2_ := (Option.bind_some _ _).symm.trans H; with_reducible exact H2_) | with_reducible exact H | (rw [hy223]; exact H) | exact H
           have Ny223 := Aside0.mk hy223
           clear hy223
           have H' := Aside0.mk H
           clear H
           have p220 : 0 ≤ (x7_2 : Int) := of_decide_eq_true (by first | (with_reducible assumption) | assumption)
           have q220 : x7_2 < (l0.length : Int) := of_decide_eq_true (by first | (with_reducible assumption) | assumption)
           obtain ⟨ad220, e220, hx220_0, hx220_1, hx220_2, hx220_3, hx220_4, hx220_5⟩ := at_T39 HR0.out x7_2 p220 q220
           cases e220
           replace hx220_0 := (HB.out.cell (World.block_lt_of_cell? w _ hx220_0)).trans hx220_0
           replace hx220_1 := (HB.out.cell (World.block_lt_of_cell? w _ hx220_1)).trans hx220_1
           replace hx220_2 := (HB.out.cell (World.block_lt_of_cell? w _ hx220_2)).trans hx220_2
           replace hx220_3 := (HB.out.cell (World.block_lt_of_cell? w _ hx220_3)).trans hx220_3
           replace hx220_4 := (HB.out.cell (World.block_lt_of_cell? w _ hx220_4)).trans hx220_4
           replace hx220_5 := (HB.out.cell (World.block_lt_of_cell? w _ hx220_5)).trans hx220_5
           replace p220 := eq_true p220
           replace q220 := eq_true q220
           go_wp2_with (first | ((with_reducible refine gate_dst (N := 8) rfl ?_); refine box_event ?hg (N := 8) ?hd (cs := #[.int .i64 0, .int .i64 0, .int .i64 0, .int .i64 0]) (t := 30) ?hr ?_; (case hd => rfl); (case hg => rfl); (case hr => first | (go_simp; done) | (go_simp; rfl)); intro gb221 hg w23 hbox hb; have n0_ := Aside0.mk (Kd.R_below (by (with_reducible repeat (first | apply Kd.R_alloc | apply Kd.R_drewN | apply Kd.R_drew)); exact HO_6.out) hb); have n1_ := Aside0.mk (blk_below (g := gb217) (o := .cells #[.int .i64 a1_0, .int .i64 a1_1, .int .i64 a1_2, .int .i64 a1_3] 30 (0, 0)) (by (with_reducible repeat (first | refine blk_drewN ?_ _ | refine blk_drew ?_ | refine blk_alloc ?_ _)); exact BK217.out) hb); have n2_ := Aside0.mk (below_step (by repeat (first | (with_reducible first | exact HB.out | apply below_alloc | apply pw_below_drewN | apply below_drew1 | refine below_set ?_ GE217.out) | exact HB.out)) hb); have n3_ := Aside0.mk (hbox); have n4_ := Aside0.mk ((by rw [hg]; exact (below_size (by repeat (first | (with_reducible first | exact HB.out | apply below_alloc | apply pw_below_drewN | apply below_drew1 | refine below_set ?_ GE217.out) | exact HB.out))) : w.heap.size ≤ gb221)); have n5_ := Aside0.mk ((by rw [hg]; exact (below_size (by repeat (first | (with_reducible first | exact HB.out | apply below_alloc | apply pw_below_drewN | apply below_drew1 | refine below_set ?_ GE217.out) | exact HB.out))) : w.heap.size ≤ gb221)); have n6_ := Aside0.mk ((by rw [hg]; exact Nat.ne_of_lt (blk_lt (g := gb217) (o := .cells #[.int .i64 a1_0, .int .i64 a1_1, .int .i64 a1_2, .int .i64 a1_3] 30 (0, 0)) (by (with_reducible repeat (first | refine blk_drewN ?_ _ | refine blk_drew ?_ | refine blk_alloc ?_ _)); exact BK217.out)) : gb217 ≠ gb221)); have n7_ := Aside0.mk ((by rw [hg]; exact Nat.ne_of_gt (blk_lt (g := gb217) (o := .cells #[.int .i64 a1_0, .int .i64 a1_1, .int .i64 a1_2, .int .i64 a1_3] 30 (0, 0)) (by (with_reducible repeat (first | refine blk_drewN ?_ _ | refine blk_drew ?_ | refine blk_alloc ?_ _)); exact BK217.out)) : gb221 ≠ gb217)); clear HO_6; clear BK217; clear HB; have HO_6 := n0_; have BK217 := n1_; have HB := n2_; have BK221 := n3_; have GW221 := n4_; have GE221 := n5_; have NB217_221 := n6_; have NB221_217 := n7_; clear n0_ n1_ n2_ n3_ n4_ n5_ n6_ n7_; clear hb hbox hg; have hnb24 := NB221_217.out; have hnc24 := NB217_221.out; have hcz25_0 : w23.cell? ⟨gb221, 0, none⟩ = some (.int .i64 0) := (blk_cell BK221.out 0).trans rfl; have hcz25_1 : w23.cell? ⟨gb221, 1, none⟩ = some (.int .i64 0) := (blk_cell BK221.out 1).trans rfl; have hcz25_2 : w23.cell? ⟨gb221, 2, none⟩ = some (.int .i64 0) := (blk_cell BK221.out 2).trans rfl; have hcz25_3 : w23.cell? ⟨gb221, 3, none⟩ = some (.int .i64 0) := (blk_cell BK221.out 3).trans rfl; have hfz25_0 := blk_frozen BK221.out 0; have hfz25_1 := blk_frozen BK221.out 1; have hfz25_2 := blk_frozen BK221.out 2; have hfz25_3 := blk_frozen BK221.out 3; have hcz26_0 : w23.cell? ⟨gb217, 0, none⟩ = some (.int .i64 a1_0) := (blk_cell BK217.out 0).trans rfl; have hcz26_1 : w23.cell? ⟨gb217, 1, none⟩ = some (.int .i64 a1_1) := (blk_cell BK217.out 1).trans rfl; have hcz26_2 : w23.cell? ⟨gb217, 2, none⟩ = some (.int .i64 a1_2) := (blk_cell BK217.out 2).trans rfl; have hcz26_3 : w23.cell? ⟨gb217, 3, none⟩ = some (.int .i64 a1_3) := (blk_cell BK217.out 3).trans rfl; have hfz26_0 := blk_frozen BK217.out 0; have hfz26_1 := blk_frozen BK217.out 1; have hfz26_2 := blk_frozen BK217.out 2; have hfz26_3 := blk_frozen BK217.out 3; have p222 : 0 ≤ (x7_2 : Int) := of_decide_eq_true (by first | (with_reducible assumption) | assumption); have q222 : x7_2 < (l0.length : Int) := of_decide_eq_true (by first | (with_reducible assumption) | assumption); obtain ⟨ad222, e222, hx222_0, hx222_1, hx222_2, hx222_3, hx222_4, hx222_5⟩ := at_T39 HR0.out x7_2 p222 q222; obtain rfl : ad220 = ad222 := (by injection e222); have hn222_0 : ad220.block ≠ gb221 := Nat.ne_of_lt (Nat.lt_of_lt_of_le (by have := World.block_lt_of_cell? _ _ hx222_0; first | rwa [add_block] at this | exact this) GW221.out); have hn222_1 : ad220.block ≠ gb221 := Nat.ne_of_lt (Nat.lt_of_lt_of_le (by have := World.block_lt_of_cell? _ _ hx222_0; first | rwa [add_block] at this | exact this) GW221.out); have hn222_2 : ad220.block ≠ gb221 := Nat.ne_of_lt (Nat.lt_of_lt_of_le (by have := World.block_lt_of_cell? _ _ hx222_0; first | rwa [add_block] at this | exact this) GW221.out); have hn222_3 : ad220.block ≠ gb221 := Nat.ne_of_lt (Nat.lt_of_lt_of_le (by have := World.block_lt_of_cell? _ _ hx222_0; first | rwa [add_block] at this | exact this) GW221.out); replace hx222_0 := (HB.out.cell (World.block_lt_of_cell? w _ hx222_0)).trans hx222_0; replace hx222_1 := (HB.out.cell (World.block_lt_of_cell? w _ hx222_1)).trans hx222_1; replace hx222_2 := (HB.out.cell (World.block_lt_of_cell? w _ hx222_2)).trans hx222_2; replace hx222_3 := (HB.out.cell (World.block_lt_of_cell? w _ hx222_3)).trans hx222_3; replace hx222_4 := (HB.out.cell (World.block_lt_of_cell? w _ hx222_4)).trans hx222_4; replace hx222_5 := (HB.out.cell (World.block_lt_of_cell? w _ hx222_5)).trans hx222_5; replace hx222_0 := (cell_far (p := ⟨gb221, 0, none⟩) (by first | (rw [add_block]; exact hn222_0) | (show (Addr.add _ _).block ≠ _; rw [add_block]; exact hn222_0) | exact hn222_0) (.int .i64 ((rd_T39 l0 x7_2).f2.f0))).trans hx222_0; replace hx222_1 := (cell_far (p := ⟨gb221, 0, none⟩) (by first | (rw [add_block]; exact hn222_0) | (show (Addr.add _ _).block ≠ _; rw [add_block]; exact hn222_0) | exact hn222_0) (.int .i64 ((rd_T39 l0 x7_2).f2.f0))).trans hx222_1; replace hx222_2 := (cell_far (p := ⟨gb221, 0, none⟩) (by first | (rw [add_block]; exact hn222_0) | (show (Addr.add _ _).block ≠ _; rw [add_block]; exact hn222_0) | exact hn222_0) (.int .i64 ((rd_T39 l0 x7_2).f2.f0))).trans hx222_2; replace hx222_3 := (cell_far (p := ⟨gb221, 0, none⟩) (by first | (rw [add_block]; exact hn222_0) | (show (Addr.add _ _).block ≠ _; rw [add_block]; exact hn222_0) | exact hn222_0) (.int .i64 ((rd_T39 l0 x7_2).f2.f0))).trans hx222_3; replace hx222_4 := (cell_far (p := ⟨gb221, 0, none⟩) (by first | (rw [add_block]; exact hn222_0) | (show (Addr.add _ _).block ≠ _; rw [add_block]; exact hn222_0) | exact hn222_0) (.int .i64 ((rd_T39 l0 x7_2).f2.f0))).trans hx222_4; replace hx222_5 := (cell_far (p := ⟨gb221, 0, none⟩) (by first | (rw [add_block]; exact hn222_0) | (show (Addr.add _ _).block ≠ _; rw [add_block]; exact hn222_0) | exact hn222_0) (.int .i64 ((rd_T39 l0 x7_2).f2.f0))).trans hx222_5; replace hx222_0 := (cell_far (p := ⟨gb221, 1, none⟩) (by first | (rw [add_block]; exact hn222_1) | (show (Addr.add _ _).block ≠ _; rw [add_block]; exact hn222_1) | exact hn222_1) (.int .i64 ((rd_T39 l0 x7_2).f2.f1))).trans hx222_0; replace hx222_1 := (cell_far (p := ⟨gb221, 1, none⟩) (by first | (rw [add_block]; exact hn222_1) | (show (Addr.add _ _).block ≠ _; rw [add_block]; exact hn222_1) | exact hn222_1) (.int .i64 ((rd_T39 l0 x7_2).f2.f1))).trans hx222_1; replace hx222_2 := (cell_far (p := ⟨gb221, 1, none⟩) (by first | (rw [add_block]; exact hn222_1) | (show (Addr.add _ _).block ≠ _; rw [add_block]; exact hn222_1) | exact hn222_1) (.int .i64 ((rd_T39 l0 x7_2).f2.f1))).trans hx222_2; replace hx222_3 := (cell_far (p := ⟨gb221, 1, none⟩) (by first | (rw [add_block]; exact hn222_1) | (show (Addr.add _ _).block ≠ _; rw [add_block]; exact hn222_1) | exact hn222_1) (.int .i64 ((rd_T39 l0 x7_2).f2.f1))).trans hx222_3; replace hx222_4 := (cell_far (p := ⟨gb221, 1, none⟩) (by first | (rw [add_block]; exact hn222_1) | (show (Addr.add _ _).block ≠ _; rw [add_block]; exact hn222_1) | exact hn222_1) (.int .i64 ((rd_T39 l0 x7_2).f2.f1))).trans hx222_4; replace hx222_5 := (cell_far (p := ⟨gb221, 1, none⟩) (by first | (rw [add_block]; exact hn222_1) | (show (Addr.add _ _).block ≠ _; rw [add_block]; exact hn222_1) | exact hn222_1) (.int .i64 ((rd_T39 l0 x7_2).f2.f1))).trans hx222_5; replace hx222_0 := (cell_far (p := ⟨gb221, 2, none⟩) (by first | (rw [add_block]; exact hn222_2) | (show (Addr.add _ _).block ≠ _; rw [add_block]; exact hn222_2) | exact hn222_2) (.int .i64 ((rd_T39 l0 x7_2).f2.f2))).trans hx222_0; replace hx222_1 := (cell_far (p := ⟨gb221, 2, none⟩) (by first | (rw [add_block]; exact hn222_2) | (show (Addr.add _ _).block ≠ _; rw [add_block]; exact hn222_2) | exact hn222_2) (.int .i64 ((rd_T39 l0 x7_2).f2.f2))).trans hx222_1; replace hx222_2 := (cell_far (p := ⟨gb221, 2, none⟩) (by first | (rw [add_block]; exact hn222_2) | (show (Addr.add _ _).block ≠ _; rw [add_block]; exact hn222_2) | exact hn222_2) (.int .i64 ((rd_T39 l0 x7_2).f2.f2))).trans hx222_2; replace hx222_3 := (cell_far (p := ⟨gb221, 2, none⟩) (by first | (rw [add_block]; exact hn222_2) | (show (Addr.add _ _).block ≠ _; rw [add_block]; exact hn222_2) | exact hn222_2) (.int .i64 ((rd_T39 l0 x7_2).f2.f2))).trans hx222_3; replace hx222_4 := (cell_far (p := ⟨gb221, 2, none⟩) (by first | (rw [add_block]; exact hn222_2) | (show (Addr.add _ _).block ≠ _; rw [add_block]; exact hn222_2) | exact hn222_2) (.int .i64 ((rd_T39 l0 x7_2).f2.f2))).trans hx222_4; replace hx222_5 := (cell_far (p := ⟨gb221, 2, none⟩) (by first | (rw [add_block]; exact hn222_2) | (show (Addr.add _ _).block ≠ _; rw [add_block]; exact hn222_2) | exact hn222_2) (.int .i64 ((rd_T39 l0 x7_2).f2.f2))).trans hx222_5; replace hx222_0 := (cell_far (p := ⟨gb221, 3, none⟩) (by first | (rw [add_block]; exact hn222_3) | (show (Addr.add _ _).block ≠ _; rw [add_block]; exact hn222_3) | exact hn222_3) (.int .i64 ((rd_T39 l0 x7_2).f2.f3))).trans hx222_0; replace hx222_1 := (cell_far (p := ⟨gb221, 3, none⟩) (by first | (rw [add_block]; exact hn222_3) | (show (Addr.add _ _).block ≠ _; rw [add_block]; exact hn222_3) | exact hn222_3) (.int .i64 ((rd_T39 l0 x7_2).f2.f3))).trans hx222_1; replace hx222_2 := (cell_far (p := ⟨gb221, 3, none⟩) (by first | (rw [add_block]; exact hn222_3) | (show (Addr.add _ _).block ≠ _; rw [add_block]; exact hn222_3) | exact hn222_3) (.int .i64 ((rd_T39 l0 x7_2).f2.f3))).trans hx222_2; replace hx222_3 := (cell_far (p := ⟨gb221, 3, none⟩) (by first | (rw [add_block]; exact hn222_3) | (show (Addr.add _ _).block ≠ _; rw [add_block]; exact hn222_3) | exact hn222_3) (.int .i64 ((rd_T39 l0 x7_2).f2.f3))).trans hx222_3; replace hx222_4 := (cell_far (p := ⟨gb221, 3, none⟩) (by first | (rw [add_block]; exact hn222_3) | (show (Addr.add _ _).block ≠ _; rw [add_block]; exact hn222_3) | exact hn222_3) (.int .i64 ((rd_T39 l0 x7_2).f2.f3))).trans hx222_4; replace hx222_5 := (cell_far (p := ⟨gb221, 3, none⟩) (by first | (rw [add_block]; exact hn222_3) | (show (Addr.add _ _).block ≠ _; rw [add_block]; exact hn222_3) | exact hn222_3) (.int .i64 ((rd_T39 l0 x7_2).f2.f3))).trans hx222_5; clear hn222_0; clear hn222_1; clear hn222_2; clear hn222_3; replace p222 := eq_true p222; replace q222 := eq_true q222) | ((with_reducible refine gate_builtin (b := .append) (xs := #[.tmp 70, .tmp 75]) rfl ?_); at_builtin; refine Kd.R_append k39 (w0 := w) w.heap.size rfl (.tmp 70) (.tmp 75) 35 39 (.agg #[(.bool false), (.int .i64 0), (.int .i64 0), (.int .i64 0), (.int .i64 0), (.int .i64 0)]) 48 rfl Tryd.underlying35 info39 rfl (by decide) (by omega) u6 x6_2 (⟨(rd_T39 l0 x7_2).f0, (rd_T39 l0 x7_2).f1, (⟨(rd_T39 l0 x7_2).f2.f0, (rd_T39 l0 x7_2).f2.f1, (rd_T39 l0 x7_2).f2.f2, (rd_T39 l0 x7_2).f2.f3⟩ : S30)⟩ : S39) [.bool ((rd_T39 l0 x7_2).f0), .int .i64 ((rd_T39 l0 x7_2).f1), .int .i64 ((rd_T39 l0 x7_2).f2.f0), .int .i64 ((rd_T39 l0 x7_2).f2.f1), .int .i64 ((rd_T39 l0 x7_2).f2.f2), .int .i64 ((rd_T39 l0 x7_2).f2.f3)] (fun _ => True) (fun _ => False) rfl (by first | (go_simp; done) | (go_simp; rfl)) ?aP (fun _ hk => hk.elim) ?aF ?aO ?aB ?aS ?aL ?_; (case aP => exact k39_mkM _ _ _ (⟨(rd_T39 l0 x7_2).f0, (rd_T39 l0 x7_2).f1, (⟨(rd_T39 l0 x7_2).f2.f0, (rd_T39 l0 x7_2).f2.f1, (rd_T39 l0 x7_2).f2.f2, (rd_T39 l0 x7_2).f2.f3⟩ : S30)⟩ : S39)); (case aB => exact (by repeat (first | (with_reducible first | exact HB.out | apply below_alloc | apply pw_below_drewN | apply below_drew1 | refine below_set ?_ GE217.out | refine below_set ?_ GE221.out) | exact HB.out))); (case aF => exact (fun _ _ => trivial)); (case aO => exact (by (with_reducible repeat (first | apply Kd.R_alloc | apply Kd.R_drewN | apply Kd.R_drew)); exact Kd.R_mono (Kd.R_far (p := ⟨gb221, 3, none⟩) (Kd.R_far (p := ⟨gb221, 2, none⟩) (Kd.R_far (p := ⟨gb221, 1, none⟩) (Kd.R_far (p := ⟨gb221, 0, none⟩) (Kd.R_types HO_6.out BK221.out (by decide)) (fun _ hk => hk.2) (.int .i64 ((rd_T39 l0 x7_2).f2.f0))) (fun _ hk => hk.2) (.int .i64 ((rd_T39 l0 x7_2).f2.f1))) (fun _ hk => hk.2) (.int .i64 ((rd_T39 l0 x7_2).f2.f2))) (fun _ hk => hk.2) (.int .i64 ((rd_T39 l0 x7_2).f2.f3))) (fun _ hk => trivial))); (case aS => exact (below_size (by repeat (first | (with_reducible first | exact HB.out | apply below_alloc | apply pw_below_drewN | apply below_drew1 | refine below_set ?_ GE217.out | refine below_set ?_ GE221.out) | exact HB.out)))); (case aL => have := LMc22.out; omega); intro v224 w27 ho hb hg hat; rw [← Ny223.out] at ho; have n0_ := Aside0.mk (blk_grown (g := gb217) (o := .cells #[.int .i64 a1_0, .int .i64 a1_1, .int .i64 a1_2, .int .i64 a1_3] 30 (0, 0)) (by (with_reducible repeat (first | refine blk_drewN ?_ _ | refine blk_drew ?_ | refine blk_alloc ?_ _)); refine blk_far ?_ NB217_221.out _; (with_reducible repeat (first | refine blk_drewN ?_ _ | refine blk_drew ?_ | refine blk_alloc ?_ _)); refine blk_far ?_ NB217_221.out _; (with_reducible repeat (first | refine blk_drewN ?_ _ | refine blk_drew ?_ | refine blk_alloc ?_ _)); refine blk_far ?_ NB217_221.out _; (with_reducible repeat (first | refine blk_drewN ?_ _ | refine blk_drew ?_ | refine blk_alloc ?_ _)); refine blk_far ?_ NB217_221.out _; (with_reducible repeat (first | refine blk_drewN ?_ _ | refine blk_drew ?_ | refine blk_alloc ?_ _)); exact BK217.out) hg (Kd.R_ne HO_6.out BK217.out (by decide))); have n1_ := Aside0.mk (blk_grown (g := gb221) (o := .cells #[.int .i64 ((rd_T39 l0 x7_2).f2.f0), .int .i64 ((rd_T39 l0 x7_2).f2.f1), .int .i64 ((rd_T39 l0 x7_2).f2.f2), .int .i64 ((rd_T39 l0 x7_2).f2.f3)] 30 (0, 0)) (by (with_reducible repeat (first | refine blk_drewN ?_ _ | refine blk_drew ?_ | refine blk_alloc ?_ _)); refine blk_put (cs := #[.int .i64 ((rd_T39 l0 x7_2).f2.f0), .int .i64 ((rd_T39 l0 x7_2).f2.f1), .int .i64 ((rd_T39 l0 x7_2).f2.f2), .int .i64 0]) ?_ 3 _ rfl; (with_reducible repeat (first | refine blk_drewN ?_ _ | refine blk_drew ?_ | refine blk_alloc ?_ _)); refine blk_put (cs := #[.int .i64 ((rd_T39 l0 x7_2).f2.f0), .int .i64 ((rd_T39 l0 x7_2).f2.f1), .int .i64 0, .int .i64 0]) ?_ 2 _ rfl; (with_reducible repeat (first | refine blk_drewN ?_ _ | refine blk_drew ?_ | refine blk_alloc ?_ _)); refine blk_put (cs := #[.int .i64 ((rd_T39 l0 x7_2).f2.f0), .int .i64 0, .int .i64 0, .int .i64 0]) ?_ 1 _ rfl; (with_reducible repeat (first | refine blk_drewN ?_ _ | refine blk_drew ?_ | refine blk_alloc ?_ _)); refine blk_put (cs := #[.int .i64 0, .int .i64 0, .int .i64 0, .int .i64 0]) ?_ 0 _ rfl; (with_reducible repeat (first | refine blk_drewN ?_ _ | refine blk_drew ?_ | refine blk_alloc ?_ _)); exact BK221.out) hg (Kd.R_ne HO_6.out BK221.out (by decide))); have n2_ := Aside0.mk (hb); have n3_ := Aside0.mk (ho); clear BK217; clear BK221; clear HB; clear HO_6; have BK217 := n0_; have BK221 := n1_; have HB := n2_; have HO225 := n3_; clear n0_ n1_ n2_ n3_; clear ho hb hg hat))
           go_roundg k2
           case measure => have := HJ2.out; have := HK2.out; omega
           case rel => exact ⟨(y223), (wrap64 (x7_2 + 1)), (by first | rfl | (simp; done) | (simp [*]; done)), H', ⟨by have := HJ2.out; have := HK2.out; omega⟩, ⟨by (with_reducible repeat (first | apply Kd.R_alloc | apply Kd.R_drewN | apply Kd.R_drew)); exact HO225.out⟩, ⟨by (with_reducible repeat (first | refine blk_drewN ?_ _ | refine blk_drew ?_ | refine blk_alloc ?_ _)); exact BK217.out⟩, ⟨by repeat (first | (with_reducible first | exact HB.out | apply below_alloc | apply pw_below_drewN | apply below_drew1 | refine below_set ?_ GE217.out | refine below_set ?_ GE221.out) | exact HB.out)⟩⟩
          ·
           rw [if_neg c22] at H
           exact absurd H (by simp)
         ·
          rw [if_neg c21] at H
          have c21b0 : decide (0 < (wrap64 ((ji18) - (ji19)))) = false := decide_eq_false c21
          clear c21
          have H' := Aside0.mk H
          clear H
          have p220 : 0 ≤ (x7_2 : Int) := of_decide_eq_true (by first | (with_reducible assumption) | assumption)
          have q220 : x7_2 < (l0.length : Int) := of_decide_eq_true (by first | (with_reducible assumption) | assumption)
          obtain ⟨ad220, e220, hx220_0, hx220_1, hx220_2, hx220_3, hx220_4, hx220_5⟩ := at_T39 HR0.out x7_2 p220 q220
          cases e220
          replace hx220_0 := (HB.out.cell (World.block_lt_of_cell? w _ hx220_0)).trans hx220_0
          replace hx220_1 := (HB.out.cell (World.block_lt_of_cell? w _ hx220_1)).trans hx220_1
          replace hx220_2 := (HB.out.cell (World.block_lt_of_cell? w _ hx220_2)).trans hx220_2
          replace hx220_3 := (HB.out.cell (World.block_lt_of_cell? w _ hx220_3)).trans hx220_3
          replace hx220_4 := (HB.out.cell (World.block_lt_of_cell? w _ hx220_4)).trans hx220_4
          replace hx220_5 := (HB.out.cell (World.block_lt_of_cell? w _ hx220_5)).trans hx220_5
          replace p220 := eq_true p220
          replace q220 := eq_true q220
          go_wp2_with (first | ((with_reducible refine gate_dst (N := 8) rfl ?_); refine box_event ?hg (N := 8) ?hd (cs := #[.int .i64 0, .int .i64 0, .int .i64 0, .int .i64 0]) (t := 30) ?hr ?_; (case hd => rfl); (case hg => rfl); (case hr => first | (go_simp; done) | (go_simp; rfl)); intro gb221 hg w28 hbox hb; have n0_ := Aside0.mk (Kd.R_below (by (with_reducible repeat (first | apply Kd.R_alloc | apply Kd.R_drewN | apply Kd.R_drew)); exact HO_6.out) hb); have n1_ := Aside0.mk (blk_below (g := gb217) (o := .cells #[.int .i64 a1_0, .int .i64 a1_1, .int .i64 a1_2, .int .i64 a1_3] 30 (0, 0)) (by (with_reducible repeat (first | refine blk_drewN ?_ _ | refine blk_drew ?_ | refine blk_alloc ?_ _)); exact BK217.out) hb); have n2_ := Aside0.mk (below_step (by repeat (first | (with_reducible first | exact HB.out | apply below_alloc | apply pw_below_drewN | apply below_drew1 | refine below_set ?_ GE217.out) | exact HB.out)) hb); have n3_ := Aside0.mk (hbox); have n4_ := Aside0.mk ((by rw [hg]; exact (below_size (by repeat (first | (with_reducible first | exact HB.out | apply below_alloc | apply pw_below_drewN | apply below_drew1 | refine below_set ?_ GE217.out) | exact HB.out))) : w.heap.size ≤ gb221)); have n5_ := Aside0.mk ((by rw [hg]; exact (below_size (by repeat (first | (with_reducible first | exact HB.out | apply below_alloc | apply pw_below_drewN | apply below_drew1 | refine below_set ?_ GE217.out) | exact HB.out))) : w.heap.size ≤ gb221)); have n6_ := Aside0.mk ((by rw [hg]; exact Nat.ne_of_lt (blk_lt (g := gb217) (o := .cells #[.int .i64 a1_0, .int .i64 a1_1, .int .i64 a1_2, .int .i64 a1_3] 30 (0, 0)) (by (with_reducible repeat (first | refine blk_drewN ?_ _ | refine blk_drew ?_ | refine blk_alloc ?_ _)); exact BK217.out)) : gb217 ≠ gb221)); have n7_ := Aside0.mk ((by rw [hg]; exact Nat.ne_of_gt (blk_lt (g := gb217) (o := .cells #[.int .i64 a1_0, .int .i64 a1_1, .int .i64 a1_2, .int .i64 a1_3] 30 (0, 0)) (by (with_reducible repeat (first | refine blk_drewN ?_ _ | refine blk_drew ?_ | refine blk_alloc ?_ _)); exact BK217.out)) : gb221 ≠ gb217)); clear HO_6; clear BK217; clear HB; have HO_6 := n0_; have BK217 := n1_; have HB := n2_; have BK221 := n3_; have GW221 := n4_; have GE221 := n5_; have NB217_221 := n6_; have NB221_217 := n7_; clear n0_ n1_ n2_ n3_ n4_ n5_ n6_ n7_; clear hb hbox hg; have hnb29 := NB221_217.out; have hnc29 := NB217_221.out; have hcz30_0 : w28.cell? ⟨gb221, 0, none⟩ = some (.int .i64 0) := (blk_cell BK221.out 0).trans rfl; have hcz30_1 : w28.cell? ⟨gb221, 1, none⟩ = some (.int .i64 0) := (blk_cell BK221.out 1).trans rfl; have hcz30_2 : w28.cell? ⟨gb221, 2, none⟩ = some (.int .i64 0) := (blk_cell BK221.out 2).trans rfl; have hcz30_3 : w28.cell? ⟨gb221, 3, none⟩ = some (.int .i64 0) := (blk_cell BK221.out 3).trans rfl; have hfz30_0 := blk_frozen BK221.out 0; have hfz30_1 := blk_frozen BK221.out 1; have hfz30_2 := blk_frozen BK221.out 2; have hfz30_3 := blk_frozen BK221.out 3; have hcz31_0 : w28.cell? ⟨gb217, 0, none⟩ = some (.int .i64 a1_0) := (blk_cell BK217.out 0).trans rfl; have hcz31_1 : w28.cell? ⟨gb217, 1, none⟩ = some (.int .i64 a1_1) := (blk_cell BK217.out 1).trans rfl; have hcz31_2 : w28.cell? ⟨gb217, 2, none⟩ = some (.int .i64 a1_2) := (blk_cell BK217.out 2).trans rfl; have hcz31_3 : w28.cell? ⟨gb217, 3, none⟩ = some (.int .i64 a1_3) := (blk_cell BK217.out 3).trans rfl; have hfz31_0 := blk_frozen BK217.out 0; have hfz31_1 := blk_frozen BK217.out 1; have hfz31_2 := blk_frozen BK217.out 2; have hfz31_3 := blk_frozen BK217.out 3))
          go_roundg k2
          case measure => have := HJ2.out; have := HK2.out; omega
          case rel => exact ⟨(x6_2), (wrap64 (x7_2 + 1)), (by first | rfl | (simp; done) | (simp [*]; done)), H', ⟨by have := HJ2.out; have := HK2.out; omega⟩, ⟨by (with_reducible repeat (first | apply Kd.R_alloc | apply Kd.R_drewN | apply Kd.R_drew)); exact Kd.R_mono (Kd.R_far (p := ⟨gb221, 3, none⟩) (Kd.R_far (p := ⟨gb221, 2, none⟩) (Kd.R_far (p := ⟨gb221, 1, none⟩) (Kd.R_far (p := ⟨gb221, 0, none⟩) (Kd.R_types HO_6.out BK221.out (by decide)) (fun _ hk => hk.2) (.int .i64 ((rd_T39 l0 x7_2).f2.f0))) (fun _ hk => hk.2) (.int .i64 ((rd_T39 l0 x7_2).f2.f1))) (fun _ hk => hk.2) (.int .i64 ((rd_T39 l0 x7_2).f2.f2))) (fun _ hk => hk.2) (.int .i64 ((rd_T39 l0 x7_2).f2.f3))) (fun _ hk => trivial)⟩, ⟨by (with_reducible repeat (first | refine blk_drewN ?_ _ | refine blk_drew ?_ | refine blk_alloc ?_ _)); refine blk_far ?_ NB217_221.out _; (with_reducible repeat (first | refine blk_drewN ?_ _ | refine blk_drew ?_ | refine blk_alloc ?_ _)); refine blk_far ?_ NB217_221.out _; (with_reducible repeat (first | refine blk_drewN ?_ _ | refine blk_drew ?_ | refine blk_alloc ?_ _)); refine blk_far ?_ NB217_221.out _; (with_reducible repeat (first | refine blk_drewN ?_ _ | refine blk_drew ?_ | refine blk_alloc ?_ _)); refine blk_far ?_ NB217_221.out _; (with_reducible repeat (first | refine blk_drewN ?_ _ | refine blk_drew ?_ | refine blk_alloc ?_ _)); exact BK217.out⟩, ⟨by repeat (first | (with_reducible first | exact HB.out | apply below_alloc | apply pw_below_drewN | apply below_drew1 | refine below_set ?_ GE217.out | refine below_set ?_ GE221.out) | exact HB.out)⟩⟩
        ·
         rw [if_neg c20] at H
         have c20b0 : decide (0 < (wrap64 ((ji16) - (ji17)))) = false := decide_eq_false c20
         clear c20
         have H' := Aside0.mk H
         clear H
         have p220 : 0 ≤ (x7_2 : Int) := of_decide_eq_true (by first | (with_reducible assumption) | assumption)
         have q220 : x7_2 < (l0.length : Int) := of_decide_eq_true (by first | (with_reducible assumption) | assumption)
         obtain ⟨ad220, e220, hx220_0, hx220_1, hx220_2, hx220_3, hx220_4, hx220_5⟩ := at_T39 HR0.out x7_2 p220 q220
         cases e220
         replace hx220_0 := (HB.out.cell (World.block_lt_of_cell? w _ hx220_0)).trans hx220_0
         replace hx220_1 := (HB.out.cell (World.block_lt_of_cell? w _ hx220_1)).trans hx220_1
         replace hx220_2 := (HB.out.cell (World.block_lt_of_cell? w _ hx220_2)).trans hx220_2
         replace hx220_3 := (HB.out.cell (World.block_lt_of_cell? w _ hx220_3)).trans hx220_3
         replace hx220_4 := (HB.out.cell (World.block_lt_of_cell? w _ hx220_4)).trans hx220_4
         replace hx220_5 := (HB.out.cell (World.block_lt_of_cell? w _ hx220_5)).trans hx220_5
         replace p220 := eq_true p220
         replace q220 := eq_true q220
         go_wp2_with (first | ((with_reducible refine gate_dst (N := 8) rfl ?_); refine box_event ?hg (N := 8) ?hd (cs := #[.int .i64 0, .int .i64 0, .int .i64 0, .int .i64 0]) (t := 30) ?hr ?_; (case hd => rfl); (case hg => rfl); (case hr => first | (go_simp; done) | (go_simp; rfl)); intro gb221 hg w32 hbox hb; have n0_ := Aside0.mk (Kd.R_below (by (with_reducible repeat (first | apply Kd.R_alloc | apply Kd.R_drewN | apply Kd.R_drew)); exact HO_6.out) hb); have n1_ := Aside0.mk (blk_below (g := gb217) (o := .cells #[.int .i64 a1_0, .int .i64 a1_1, .int .i64 a1_2, .int .i64 a1_3] 30 (0, 0)) (by (with_reducible repeat (first | refine blk_drewN ?_ _ | refine blk_drew ?_ | refine blk_alloc ?_ _)); exact BK217.out) hb); have n2_ := Aside0.mk (below_step (by repeat (first | (with_reducible first | exact HB.out | apply below_alloc | apply pw_below_drewN | apply below_drew1 | refine below_set ?_ GE217.out) | exact HB.out)) hb); have n3_ := Aside0.mk (hbox); have n4_ := Aside0.mk ((by rw [hg]; exact (below_size (by repeat (first | (with_reducible first | exact HB.out | apply below_alloc | apply pw_below_drewN | apply below_drew1 | refine below_set ?_ GE217.out) | exact HB.out))) : w.heap.size ≤ gb221)); have n5_ := Aside0.mk ((by rw [hg]; exact (below_size (by repeat (first | (with_reducible first | exact HB.out | apply below_alloc | apply pw_below_drewN | apply below_drew1 | refine below_set ?_ GE217.out) | exact HB.out))) : w.heap.size ≤ gb221)); have n6_ := Aside0.mk ((by rw [hg]; exact Nat.ne_of_lt (blk_lt (g := gb217) (o := .cells #[.int .i64 a1_0, .int .i64 a1_1, .int .i64 a1_2, .int .i64 a1_3] 30 (0, 0)) (by (with_reducible repeat (first | refine blk_drewN ?_ _ | refine blk_drew ?_ | refine blk_alloc ?_ _)); exact BK217.out)) : gb217 ≠ gb221)); have n7_ := Aside0.mk ((by rw [hg]; exact Nat.ne_of_gt (blk_lt (g := gb217) (o := .cells #[.int .i64 a1_0, .int .i64 a1_1, .int .i64 a1_2, .int .i64 a1_3] 30 (0, 0)) (by (with_reducible repeat (first | refine blk_drewN ?_ _ | refine blk_drew ?_ | refine blk_alloc ?_ _)); exact BK217.out)) : gb221 ≠ gb217)); clear HO_6; clear BK217; clear HB; have HO_6 := n0_; have BK217 := n1_; have HB := n2_; have BK221 := n3_; have GW221 := n4_; have GE221 := n5_; have NB217_221 := n6_; have NB221_217 := n7_; clear n0_ n1_ n2_ n3_ n4_ n5_ n6_ n7_; clear hb hbox hg; have hnb33 := NB221_217.out; have hnc33 := NB217_221.out; have hcz34_0 : w32.cell? ⟨gb221, 0, none⟩ = some (.int .i64 0) := (blk_cell BK221.out 0).trans rfl; have hcz34_1 : w32.cell? ⟨gb221, 1, none⟩ = some (.int .i64 0) := (blk_cell BK221.out 1).trans rfl; have hcz34_2 : w32.cell? ⟨gb221, 2, none⟩ = some (.int .i64 0) := (blk_cell BK221.out 2).trans rfl; have hcz34_3 : w32.cell? ⟨gb221, 3, none⟩ = some (.int .i64 0) := (blk_cell BK221.out 3).trans rfl; have hfz34_0 := blk_frozen BK221.out 0; have hfz34_1 := blk_frozen BK221.out 1; have hfz34_2 := blk_frozen BK221.out 2; have hfz34_3 := blk_frozen BK221.out 3; have hcz35_0 : w32.cell? ⟨gb217, 0, none⟩ = some (.int .i64 a1_0) := (blk_cell BK217.out 0).trans rfl; have hcz35_1 : w32.cell? ⟨gb217, 1, none⟩ = some (.int .i64 a1_1) := (blk_cell BK217.out 1).trans rfl; have hcz35_2 : w32.cell? ⟨gb217, 2, none⟩ = some (.int .i64 a1_2) := (blk_cell BK217.out 2).trans rfl; have hcz35_3 : w32.cell? ⟨gb217, 3, none⟩ = some (.int .i64 a1_3) := (blk_cell BK217.out 3).trans rfl; have hfz35_0 := blk_frozen BK217.out 0; have hfz35_1 := blk_frozen BK217.out 1; have hfz35_2 := blk_frozen BK217.out 2; have hfz35_3 := blk_frozen BK217.out 3))
         go_roundg k2
         case measure => have := HJ2.out; have := HK2.out; omega
         case rel => exact ⟨(x6_2), (wrap64 (x7_2 + 1)), (by first | rfl | (simp; done) | (simp [*]; done)), H', ⟨by have := HJ2.out; have := HK2.out; omega⟩, ⟨by (with_reducible repeat (first | apply Kd.R_alloc | apply Kd.R_drewN | apply Kd.R_drew)); exact Kd.R_mono (Kd.R_far (p := ⟨gb221, 3, none⟩) (Kd.R_far (p := ⟨gb221, 2, none⟩) (Kd.R_far (p := ⟨gb221, 1, none⟩) (Kd.R_far (p := ⟨gb221, 0, none⟩) (Kd.R_types HO_6.out BK221.out (by decide)) (fun _ hk => hk.2) (.int .i64 ((rd_T39 l0 x7_2).f2.f0))) (fun _ hk => hk.2) (.int .i64 ((rd_T39 l0 x7_2).f2.f1))) (fun _ hk => hk.2) (.int .i64 ((rd_T39 l0 x7_2).f2.f2))) (fun _ hk => hk.2) (.int .i64 ((rd_T39 l0 x7_2).f2.f3))) (fun _ hk => trivial)⟩, ⟨by (with_reducible repeat (first | refine blk_drewN ?_ _ | refine blk_drew ?_ | refine blk_alloc ?_ _)); refine blk_far ?_ NB217_221.out _; (with_reducible repeat (first | refine blk_drewN ?_ _ | refine blk_drew ?_ | refine blk_alloc ?_ _)); refine blk_far ?_ NB217_221.out _; (with_reducible repeat (first | refine blk_drewN ?_ _ | refine blk_drew ?_ | refine blk_alloc ?_ _)); refine blk_far ?_ NB217_221.out _; (with_reducible repeat (first | refine blk_drewN ?_ _ | refine blk_drew ?_ | refine blk_alloc ?_ _)); refine blk_far ?_ NB217_221.out _; (with_reducible repeat (first | refine blk_drewN ?_ _ | refine blk_drew ?_ | refine blk_alloc ?_ _)); exact BK217.out⟩, ⟨by repeat (first | (with_reducible first | exact HB.out | apply below_alloc | apply pw_below_drewN | apply below_drew1 | refine below_set ?_ GE217.out | refine below_set ?_ GE221.out) | exact HB.out)⟩⟩
       ·
        rw [if_neg c15] at H
        exact absurd H (by simp)
      ·
       rw [if_neg c14] at H
       have c14b0 : decide (x7_2 < (l0.length : Int)) = false := decide_eq_false c14
       clear c14
       simp only [Option.some.injEq, Prod.mk.injEq] at H
       obtain ⟨rfl, rfl⟩ := H
       go_wp2
       go_ret2
       exact ⟨_, by first | rfl | (simp [errW_none, errW_some] <;> rfl) | (simp [*, errW_none, errW_some] <;> rfl), by (with_reducible repeat (first | apply Kd.R_alloc | apply Kd.R_drewN | apply Kd.R_drew)); exact HO_6.out, by repeat (first | (with_reducible first | exact HB.out | apply below_alloc | apply pw_below_drewN | apply below_drew1 | refine below_set ?_ GE217.out) | exact HB.out)⟩

end Go.Proofs.YtkmddhljfjjglaaDoor.G
