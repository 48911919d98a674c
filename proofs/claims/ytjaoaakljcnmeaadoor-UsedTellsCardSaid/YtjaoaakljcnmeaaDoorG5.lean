/- Functions of the law and of what it calls as plain Lean functions, and that the calls come to their answers: written by fprint.py. -/
import Derived.Test.YtjaoaakljcnmeaaDoorF14
import Derived.Test.YtjaoaakljcnmeaaDoorG0
import Derived.Test.YtjaoaakljcnmeaaDoorG1
import Derived.Test.YtjaoaakljcnmeaaDoorG2
namespace Go.Proofs.YtjaoaakljcnmeaaDoor.G
open Go.RowKit Go.Proofs.YtjaoaakljcnmeaaDoorW.PrintWords Go.Proofs.YtjaoaakljcnmeaaDoorW.PrintLast Go.Proofs.YtjaoaakljcnmeaaDoorW.PrintMore
attribute [local go_sem] max2_int min2_int max_two min_two max_three min_three max_four min_four   -- for this text's walks alone
set_option linter.unusedVariables false
set_option linter.unusedSimpArgs false

/-! ### gutterref06_Used: function 16 -/
mutual
def gutterref06_Used.j0 : Nat → Int → Bool → Int → Int → Int → Int → Bool → Int → Int → Int → Bool → Int → Int → Bool → Int → Bool → Int → Int → Option (Int × Int × Int)
  | 0, _, _, _, _, _, _, _, _, _, _, _, _, _, _, _, _, _, _ => none
  | k + 1, x0, x18, x117000, x117001, x117002, x117003, x117004, x117005, x117006, x117007, x117008, x117009, x117010, x117011, x117012, x117013, x117014, x117015 => if x18 = true then (some (0, 0, 40)) else ((gutterref06_size.f x0).bind fun t119 => (if t119 = true then (if x117001 > 0 then ((gutterref06_Fits.f x0 x117001 x117002).bind fun bt120 => (if x117000 = 0 then (gutterref06_Used.j1 k x0 x117000 bt120.1 true x117000 x117001 x117002 x117003 x117004 x117005 x117006 x117007 x117008 x117009 x117010 x117011 x117012 x117013 x117014 x117015) else (gutterref06_Used.j1 k x0 x117000 bt120.1 (decide (bt120.1 < x117000)) x117000 x117001 x117002 x117003 x117004 x117005 x117006 x117007 x117008 x117009 x117010 x117011 x117012 x117013 x117014 x117015))) else (if (wrap64 (x0 - (wrap64 ((wrap64 (x117000 - 1)) * x117002)))) < 0 then (some (x117000, 0, 0)) else (if x117000 = 0 then (none) else (some (x117000, wrap64 (Int.tdiv (wrap64 (x0 - (wrap64 ((wrap64 (x117000 - 1)) * x117002)))) x117000), 0))))) else (some (0, 0, 60))))
def gutterref06_Used.j1 : Nat → Int → Int → Int → Bool → Int → Int → Int → Int → Bool → Int → Int → Int → Bool → Int → Int → Bool → Int → Bool → Int → Int → Option (Int × Int × Int)
  | 0, _, _, _, _, _, _, _, _, _, _, _, _, _, _, _, _, _, _, _, _ => none
  | k + 1, x0, x7, x8, x42, x117000, x117001, x117002, x117003, x117004, x117005, x117006, x117007, x117008, x117009, x117010, x117011, x117012, x117013, x117014, x117015 => if x42 = true then (if (wrap64 (x0 - (wrap64 ((wrap64 (x8 - 1)) * x117002)))) < 0 then (some (x8, 0, 0)) else (if x8 = 0 then (none) else (some (x8, wrap64 (Int.tdiv (wrap64 (x0 - (wrap64 ((wrap64 (x8 - 1)) * x117002)))) x8), 0)))) else (if (wrap64 (x0 - (wrap64 ((wrap64 (x7 - 1)) * x117002)))) < 0 then (some (x7, 0, 0)) else (if x7 = 0 then (none) else (some (x7, wrap64 (Int.tdiv (wrap64 (x0 - (wrap64 ((wrap64 (x7 - 1)) * x117002)))) x7), 0))))
end
def gutterref06_Used.f (k : Nat) (a0 : Int) (a1_0 : Int) (a1_1 : Int) (a1_2 : Int) (a1_3 : Int) (a1_4 : Bool) (a1_5 : Int) (a1_6 : Int) (a1_7 : Int) (a1_8 : Bool) (a1_9 : Int) (a1_10 : Int) (a1_11 : Bool) (a1_12 : Int) (a1_13 : Bool) (a1_14 : Int) (a1_15 : Int) : Option (Int × Int × Int) := (gutterref04_Right.f a1_0 a1_1 a1_2 a1_3 a1_4 a1_5 a1_6 a1_7 a1_8 a1_9 a1_10 a1_11 a1_12 a1_13 a1_14 a1_15).bind fun t117 => (if t117 = true then ((gutterref04_IsMulti.f a1_0 a1_1 a1_2 a1_3 a1_4 a1_5 a1_6 a1_7 a1_8 a1_9 a1_10 a1_11 a1_12 a1_13 a1_14 a1_15).bind fun t118 => (gutterref06_Used.j0 k a0 (!t118) a1_0 a1_1 a1_2 a1_3 a1_4 a1_5 a1_6 a1_7 a1_8 a1_9 a1_10 a1_11 a1_12 a1_13 a1_14 a1_15)) else (gutterref06_Used.j0 k a0 true a1_0 a1_1 a1_2 a1_3 a1_4 a1_5 a1_6 a1_7 a1_8 a1_9 a1_10 a1_11 a1_12 a1_13 a1_14 a1_15))
theorem gutterref06_Used.mono_l : ∀ k, (∀ y0 y1 y2 y3 y4 y5 y6 y7 y8 y9 y10 y11 y12 y13 y14 y15 y16 y17, LeO (gutterref06_Used.j0 k y0 y1 y2 y3 y4 y5 y6 y7 y8 y9 y10 y11 y12 y13 y14 y15 y16 y17) (gutterref06_Used.j0 (k + 1) y0 y1 y2 y3 y4 y5 y6 y7 y8 y9 y10 y11 y12 y13 y14 y15 y16 y17)) ∧ (∀ y0 y1 y2 y3 y4 y5 y6 y7 y8 y9 y10 y11 y12 y13 y14 y15 y16 y17 y18 y19, LeO (gutterref06_Used.j1 k y0 y1 y2 y3 y4 y5 y6 y7 y8 y9 y10 y11 y12 y13 y14 y15 y16 y17 y18 y19) (gutterref06_Used.j1 (k + 1) y0 y1 y2 y3 y4 y5 y6 y7 y8 y9 y10 y11 y12 y13 y14 y15 y16 y17 y18 y19))
  | 0 => ⟨fun _ _ _ _ _ _ _ _ _ _ _ _ _ _ _ _ _ _ r h => by simp [gutterref06_Used.j0] at h, fun _ _ _ _ _ _ _ _ _ _ _ _ _ _ _ _ _ _ _ _ r h => by simp [gutterref06_Used.j1] at h⟩
  | k + 1 => by
    obtain ⟨ih0, ih1⟩ := gutterref06_Used.mono_l k
    refine ⟨?_, ?_⟩
    · intro y0 y1 y2 y3 y4 y5 y6 y7 y8 y9 y10 y11 y12 y13 y14 y15 y16 y17
      unfold gutterref06_Used.j0
      repeat' first
      | (with_reducible exact ih0 _ _ _ _ _ _ _ _ _ _ _ _ _ _ _ _ _ _)
      | (with_reducible exact ih1 _ _ _ _ _ _ _ _ _ _ _ _ _ _ _ _ _ _ _ _)
      | (with_reducible exact LeO.refl _)
      | (with_reducible exact LeO.none _)
      | (with_reducible refine LeO.ite ?_ ?_)
      | (with_reducible refine LeO.bind ?_ (fun _ => ?_))
      | exact ih0 _ _ _ _ _ _ _ _ _ _ _ _ _ _ _ _ _ _
      | exact ih1 _ _ _ _ _ _ _ _ _ _ _ _ _ _ _ _ _ _ _ _
      | exact LeO.none _
      | refine LeO.ite ?_ ?_
      | refine LeO.bind ?_ (fun _ => ?_)
    · intro y0 y1 y2 y3 y4 y5 y6 y7 y8 y9 y10 y11 y12 y13 y14 y15 y16 y17 y18 y19
      unfold gutterref06_Used.j1
      repeat' first
      | (with_reducible exact ih0 _ _ _ _ _ _ _ _ _ _ _ _ _ _ _ _ _ _)
      | (with_reducible exact ih1 _ _ _ _ _ _ _ _ _ _ _ _ _ _ _ _ _ _ _ _)
      | (with_reducible exact LeO.refl _)
      | (with_reducible exact LeO.none _)
      | (with_reducible refine LeO.ite ?_ ?_)
      | (with_reducible refine LeO.bind ?_ (fun _ => ?_))
      | exact ih0 _ _ _ _ _ _ _ _ _ _ _ _ _ _ _ _ _ _
      | exact ih1 _ _ _ _ _ _ _ _ _ _ _ _ _ _ _ _ _ _ _ _
      | exact LeO.none _
      | refine LeO.ite ?_ ?_
      | refine LeO.bind ?_ (fun _ => ?_)
theorem gutterref06_Used.mono : ∀ a0 a1 a2 a3 a4 a5 a6 a7 a8 a9 a10 a11 a12 a13 a14 a15 a16 k, LeO (gutterref06_Used.f k a0 a1 a2 a3 a4 a5 a6 a7 a8 a9 a10 a11 a12 a13 a14 a15 a16) (gutterref06_Used.f (k + 1) a0 a1 a2 a3 a4 a5 a6 a7 a8 a9 a10 a11 a12 a13 a14 a15 a16) := by
  intro a0 a1 a2 a3 a4 a5 a6 a7 a8 a9 a10 a11 a12 a13 a14 a15 a16 k
  obtain ⟨ih0, ih1⟩ := gutterref06_Used.mono_l k
  unfold gutterref06_Used.f
  repeat' first
      | (with_reducible exact ih0 _ _ _ _ _ _ _ _ _ _ _ _ _ _ _ _ _ _)
      | (with_reducible exact ih1 _ _ _ _ _ _ _ _ _ _ _ _ _ _ _ _ _ _ _ _)
      | (with_reducible exact LeO.refl _)
      | (with_reducible exact LeO.none _)
      | (with_reducible refine LeO.ite ?_ ?_)
      | (with_reducible refine LeO.bind ?_ (fun _ => ?_))
      | exact ih0 _ _ _ _ _ _ _ _ _ _ _ _ _ _ _ _ _ _
      | exact ih1 _ _ _ _ _ _ _ _ _ _ _ _ _ _ _ _ _ _ _ _
      | exact LeO.none _
      | refine LeO.ite ?_ ?_
      | refine LeO.bind ?_ (fun _ => ?_)
set_option maxHeartbeats 8000000 in
set_option maxRecDepth 100000 in
theorem gutterref06_Used.calls (k : Nat) (a0 : Int) (a1_0 : Int) (a1_1 : Int) (a1_2 : Int) (a1_3 : Int) (a1_4 : Bool) (a1_5 : Int) (a1_6 : Int) (a1_7 : Int) (a1_8 : Bool) (a1_9 : Int) (a1_10 : Int) (a1_11 : Bool) (a1_12 : Int) (a1_13 : Bool) (a1_14 : Int) (a1_15 : Int) (r1 : Int) (r2 : Int) (r3 : Int) (w : World) (h : gutterref06_Used.f k a0 a1_0 a1_1 a1_2 a1_3 a1_4 a1_5 a1_6 a1_7 a1_8 a1_9 a1_10 a1_11 a1_12 a1_13 a1_14 a1_15 = some (r1, r2, r3)) :
    Calls Tryd.prog 16 #[.int .i64 a0, .agg #[.int .i64 a1_0, .int .i64 a1_1, .int .i64 a1_2, .int .i64 a1_3, .bool a1_4, .int .i64 a1_5, .int .i64 a1_6, .int .i64 a1_7, .bool a1_8, .int .i64 a1_9, .int .i64 a1_10, .bool a1_11, .int .i64 a1_12, .bool a1_13, .int .i64 a1_14, .int .i64 a1_15]] w fun e w' => e = .returned (.tuple #[.int .i64 r1, .int .i64 r2, .int .i64 r3]) ∧ Below w.heap.size w w' := by
  have hu23 := Tryd.underlying23
  have HB := Aside0.mk (Below.refl w.heap.size w)
  have H : ((gutterref04_Right.f a1_0 a1_1 a1_2 a1_3 a1_4 a1_5 a1_6 a1_7 a1_8 a1_9 a1_10 a1_11 a1_12 a1_13 a1_14 a1_15).bind fun t117 => (if t117 = true then ((gutterref04_IsMulti.f a1_0 a1_1 a1_2 a1_3 a1_4 a1_5 a1_6 a1_7 a1_8 a1_9 a1_10 a1_11 a1_12 a1_13 a1_14 a1_15).bind fun t118 => (gutterref06_Used.j0 k a0 (!t118) a1_0 a1_1 a1_2 a1_3 a1_4 a1_5 a1_6 a1_7 a1_8 a1_9 a1_10 a1_11 a1_12 a1_13 a1_14 a1_15)) else (gutterref06_Used.j0 k a0 true a1_0 a1_1 a1_2 a1_3 a1_4 a1_5 a1_6 a1_7 a1_8 a1_9 a1_10 a1_11 a1_12 a1_13 a1_14 a1_15))) = some (r1, r2, r3) := h
  clear h
  have HC3 := Aside0.mk H
  clear H
  go_enter Tryd.func16, Tryd.ntmps16
  go_upto_region 1 with (first | ((with_reducible refine gate_dst (N := 3) rfl ?_); refine box_event ?hg (N := 3) ?hd (cs := #[.int .i64 a1_0, .int .i64 a1_1, .int .i64 a1_2, .int .i64 a1_3, .bool a1_4, .int .i64 a1_5, .int .i64 a1_6, .int .i64 a1_7, .bool a1_8, .int .i64 a1_9, .int .i64 a1_10, .bool a1_11, .int .i64 a1_12, .bool a1_13, .int .i64 a1_14, .int .i64 a1_15]) (t := 23) ?hr ?_; (case hd => rfl); (case hg => rfl); (case hr => first | (go_simp; done) | (go_simp; rfl)); intro gb116 hg w4 hbox hb; have n0_ := Aside0.mk (below_step (by repeat (first | (with_reducible first | exact HB.out | apply below_alloc | apply pw_below_drewN | apply below_drew1) | exact HB.out)) hb); have n1_ := Aside0.mk (hbox); have n2_ := Aside0.mk ((by rw [hg]; exact (below_size (by repeat (first | (with_reducible first | exact HB.out | apply below_alloc | apply pw_below_drewN | apply below_drew1) | exact HB.out))) : w.heap.size ≤ gb116)); have n3_ := Aside0.mk ((by rw [hg]; exact (below_size (by repeat (first | (with_reducible first | exact HB.out | apply below_alloc | apply pw_below_drewN | apply below_drew1) | exact HB.out))) : w.heap.size ≤ gb116)); clear HB; have HB := n0_; have BK116 := n1_; have GW116 := n2_; have GE116 := n3_; clear n0_ n1_ n2_ n3_; clear hb hbox hg))
  repeat (go_quiet (first | ((with_reducible refine gate_dst (N := 3) rfl ?_); refine box_event ?hg (N := 3) ?hd (cs := #[.int .i64 a1_0, .int .i64 a1_1, .int .i64 a1_2, .int .i64 a1_3, .bool a1_4, .int .i64 a1_5, .int .i64 a1_6, .int .i64 a1_7, .bool a1_8, .int .i64 a1_9, .int .i64 a1_10, .bool a1_11, .int .i64 a1_12, .bool a1_13, .int .i64 a1_14, .int .i64 a1_15]) (t := 23) ?hr ?_; (case hd => rfl); (case hg => rfl); (case hr => first | (go_simp; done) | (go_simp; rfl)); intro gb116 hg w4 hbox hb; have n0_ := Aside0.mk (below_step (by repeat (first | (with_reducible first | exact HB.out | apply below_alloc | apply pw_below_drewN | apply below_drew1) | exact HB.out)) hb); have n1_ := Aside0.mk (hbox); have n2_ := Aside0.mk ((by rw [hg]; exact (below_size (by repeat (first | (with_reducible first | exact HB.out | apply below_alloc | apply pw_below_drewN | apply below_drew1) | exact HB.out))) : w.heap.size ≤ gb116)); have n3_ := Aside0.mk ((by rw [hg]; exact (below_size (by repeat (first | (with_reducible first | exact HB.out | apply below_alloc | apply pw_below_drewN | apply below_drew1) | exact HB.out))) : w.heap.size ≤ gb116)); clear HB; have HB := n0_; have BK116 := n1_; have GW116 := n2_; have GE116 := n3_; clear n0_ n1_ n2_ n3_; clear hb hbox hg)); go_upto_region 1 with (first | ((with_reducible refine gate_dst (N := 3) rfl ?_); refine box_event ?hg (N := 3) ?hd (cs := #[.int .i64 a1_0, .int .i64 a1_1, .int .i64 a1_2, .int .i64 a1_3, .bool a1_4, .int .i64 a1_5, .int .i64 a1_6, .int .i64 a1_7, .bool a1_8, .int .i64 a1_9, .int .i64 a1_10, .bool a1_11, .int .i64 a1_12, .bool a1_13, .int .i64 a1_14, .int .i64 a1_15]) (t := 23) ?hr ?_; (case hd => rfl); (case hg => rfl); (case hr => first | (go_simp; done) | (go_simp; rfl)); intro gb116 hg w4 hbox hb; have n0_ := Aside0.mk (below_step (by repeat (first | (with_reducible first | exact HB.out | apply below_alloc | apply pw_below_drewN | apply below_drew1) | exact HB.out)) hb); have n1_ := Aside0.mk (hbox); have n2_ := Aside0.mk ((by rw [hg]; exact (below_size (by repeat (first | (with_reducible first | exact HB.out | apply below_alloc | apply pw_below_drewN | apply below_drew1) | exact HB.out))) : w.heap.size ≤ gb116)); have n3_ := Aside0.mk ((by rw [hg]; exact (below_size (by repeat (first | (with_reducible first | exact HB.out | apply below_alloc | apply pw_below_drewN | apply below_drew1) | exact HB.out))) : w.heap.size ≤ gb116)); clear HB; have HB := n0_; have BK116 := n1_; have GW116 := n2_; have GE116 := n3_; clear n0_ n1_ n2_ n3_; clear hb hbox hg)))
  (try simp only [Act.put, List.setIfInBounds_toArray, List.set_cons_zero, List.set_cons_succ])
  go_cut [18] (fun v18 wc => ∃ (kq : Nat) (x18_2 : Bool), v18 = .bool x18_2 ∧ Aside0 (gutterref06_Used.j0 kq a0 x18_2 a1_0 a1_1 a1_2 a1_3 a1_4 a1_5 a1_6 a1_7 a1_8 a1_9 a1_10 a1_11 a1_12 a1_13 a1_14 a1_15 = some (r1, r2, r3)) ∧ Aside0 (kq ≤ k) ∧ Aside0 (wc.heap[gb116]? = some (.cells #[.int .i64 a1_0, .int .i64 a1_1, .int .i64 a1_2, .int .i64 a1_3, .bool a1_4, .int .i64 a1_5, .int .i64 a1_6, .int .i64 a1_7, .bool a1_8, .int .i64 a1_9, .int .i64 a1_10, .bool a1_11, .int .i64 a1_12, .bool a1_13, .int .i64 a1_14, .int .i64 a1_15] 23 (0, 0))) ∧ Aside0 (Below w.heap.size w wc))
  case first =>
    have H := HC3.out
    clear HC3
    replace H := Option.bind_eq_some_iff.mp H
    obtain ⟨t117, A50, H⟩ := H
    replace H : (if t117 = true then ((gutterref04_IsMulti.f a1_0 a1_1 a1_2 a1_3 a1_4 a1_5 a1_6 a1_7 a1_8 a1_9 a1_10 a1_11 a1_12 a1_13 a1_14 a1_15).bind fun t118 => (gutterref06_Used.j0 k a0 (!t118) a1_0 a1_1 a1_2 a1_3 a1_4 a1_5 a1_6 a1_7 a1_8 a1_9 a1_10 a1_11 a1_12 a1_13 a1_14 a1_15)) else (gutterref06_Used.j0 k a0 true a1_0 a1_1 a1_2 a1_3 a1_4 a1_5 a1_6 a1_7 a1_8 a1_9 a1_10 a1_11 a1_12 a1_13 a1_14 a1_15)) = some (r1, r2, r3) := H
    have A5 := Aside0.mk A50
    clear A50
    by_cases c6 : t117 = true
    · subst c6
      have H1 : ((gutterref04_IsMulti.f a1_0 a1_1 a1_2 a1_3 a1_4 a1_5 a1_6 a1_7 a1_8 a1_9 a1_10 a1_11 a1_12 a1_13 a1_14 a1_15).bind fun t118 => (gutterref06_Used.j0 k a0 (!t118) a1_0 a1_1 a1_2 a1_3 a1_4 a1_5 a1_6 a1_7 a1_8 a1_9 a1_10 a1_11 a1_12 a1_13 a1_14 a1_15)) = some (r1, r2, r3) := by rw [if_pos rfl] at H; exact H
      clear H
      have H := H1
      clear H1
      replace H := Option.bind_eq_some_iff.mp H
      obtain ⟨t118, A70, H⟩ := H
      replace H : (gutterref06_Used.j0 k a0 (!t118) a1_0 a1_1 a1_2 a1_3 a1_4 a1_5 a1_6 a1_7 a1_8 a1_9 a1_10 a1_11 a1_12 a1_13 a1_14 a1_15) = some (r1, r2, r3) := H
      have A7 := Aside0.mk A70
      clear A70
      have H' := Aside0.mk H
      clear H
      have hcz8_0 : w4.cell? ⟨gb116, 0, none⟩ = some (.int .i64 a1_0) := (blk_cell BK116.out 0).trans rfl
      have hcz8_1 : w4.cell? ⟨gb116, 1, none⟩ = some (.int .i64 a1_1) := (blk_cell BK116.out 1).trans rfl
      have hcz8_2 : w4.cell? ⟨gb116, 2, none⟩ = some (.int .i64 a1_2) := (blk_cell BK116.out 2).trans rfl
      have hcz8_3 : w4.cell? ⟨gb116, 3, none⟩ = some (.int .i64 a1_3) := (blk_cell BK116.out 3).trans rfl
      have hcz8_4 : w4.cell? ⟨gb116, 4, none⟩ = some (.bool a1_4) := (blk_cell BK116.out 4).trans rfl
      have hcz8_5 : w4.cell? ⟨gb116, 5, none⟩ = some (.int .i64 a1_5) := (blk_cell BK116.out 5).trans rfl
      have hcz8_6 : w4.cell? ⟨gb116, 6, none⟩ = some (.int .i64 a1_6) := (blk_cell BK116.out 6).trans rfl
      have hcz8_7 : w4.cell? ⟨gb116, 7, none⟩ = some (.int .i64 a1_7) := (blk_cell BK116.out 7).trans rfl
      have hcz8_8 : w4.cell? ⟨gb116, 8, none⟩ = some (.bool a1_8) := (blk_cell BK116.out 8).trans rfl
      have hcz8_9 : w4.cell? ⟨gb116, 9, none⟩ = some (.int .i64 a1_9) := (blk_cell BK116.out 9).trans rfl
      have hcz8_10 : w4.cell? ⟨gb116, 10, none⟩ = some (.int .i64 a1_10) := (blk_cell BK116.out 10).trans rfl
      have hcz8_11 : w4.cell? ⟨gb116, 11, none⟩ = some (.bool a1_11) := (blk_cell BK116.out 11).trans rfl
      have hcz8_12 : w4.cell? ⟨gb116, 12, none⟩ = some (.int .i64 a1_12) := (blk_cell BK116.out 12).trans rfl
      have hcz8_13 : w4.cell? ⟨gb116, 13, none⟩ = some (.bool a1_13) := (blk_cell BK116.out 13).trans rfl
      have hcz8_14 : w4.cell? ⟨gb116, 14, none⟩ = some (.int .i64 a1_14) := (blk_cell BK116.out 14).trans rfl
      have hcz8_15 : w4.cell? ⟨gb116, 15, none⟩ = some (.int .i64 a1_15) := (blk_cell BK116.out 15).trans rfl
      have hfz8_0 := blk_frozen BK116.out 0
      have hfz8_1 := blk_frozen BK116.out 1
      have hfz8_2 := blk_frozen BK116.out 2
      have hfz8_3 := blk_frozen BK116.out 3
      have hfz8_4 := blk_frozen BK116.out 4
      have hfz8_5 := blk_frozen BK116.out 5
      have hfz8_6 := blk_frozen BK116.out 6
      have hfz8_7 := blk_frozen BK116.out 7
      have hfz8_8 := blk_frozen BK116.out 8
      have hfz8_9 := blk_frozen BK116.out 9
      have hfz8_10 := blk_frozen BK116.out 10
      have hfz8_11 := blk_frozen BK116.out 11
      have hfz8_12 := blk_frozen BK116.out 12
      have hfz8_13 := blk_frozen BK116.out 13
      have hfz8_14 := blk_frozen BK116.out 14
      have hfz8_15 := blk_frozen BK116.out 15
      go_wp2_with (first | (go_at_call 27; (with_reducible refine (gutterref04_Right.calls a1_0 a1_1 a1_2 a1_3 a1_4 a1_5 a1_6 a1_7 a1_8 a1_9 a1_10 a1_11 a1_12 a1_13 a1_14 a1_15 true _ A5.out).mono ?_); rintro e w9 ⟨rfl, hb⟩; have n0_ := Aside0.mk (blk_below (g := gb116) (o := .cells #[.int .i64 a1_0, .int .i64 a1_1, .int .i64 a1_2, .int .i64 a1_3, .bool a1_4, .int .i64 a1_5, .int .i64 a1_6, .int .i64 a1_7, .bool a1_8, .int .i64 a1_9, .int .i64 a1_10, .bool a1_11, .int .i64 a1_12, .bool a1_13, .int .i64 a1_14, .int .i64 a1_15] 23 (0, 0)) (by (with_reducible repeat (first | refine blk_drewN ?_ _ | refine blk_drew ?_ | refine blk_alloc ?_ _)); exact BK116.out) hb); have n1_ := Aside0.mk (below_step (by repeat (first | (with_reducible first | exact HB.out | apply below_alloc | apply pw_below_drewN | apply below_drew1 | refine below_set ?_ GE116.out) | exact HB.out)) hb); clear BK116; clear HB; have BK116 := n0_; have HB := n1_; clear n0_ n1_; (try clear hb); (try clear hb2); (try clear hk); (try clear hi); have hcz10_0 : w9.cell? ⟨gb116, 0, none⟩ = some (.int .i64 a1_0) := (blk_cell BK116.out 0).trans rfl; have hcz10_1 : w9.cell? ⟨gb116, 1, none⟩ = some (.int .i64 a1_1) := (blk_cell BK116.out 1).trans rfl; have hcz10_2 : w9.cell? ⟨gb116, 2, none⟩ = some (.int .i64 a1_2) := (blk_cell BK116.out 2).trans rfl; have hcz10_3 : w9.cell? ⟨gb116, 3, none⟩ = some (.int .i64 a1_3) := (blk_cell BK116.out 3).trans rfl; have hcz10_4 : w9.cell? ⟨gb116, 4, none⟩ = some (.bool a1_4) := (blk_cell BK116.out 4).trans rfl; have hcz10_5 : w9.cell? ⟨gb116, 5, none⟩ = some (.int .i64 a1_5) := (blk_cell BK116.out 5).trans rfl; have hcz10_6 : w9.cell? ⟨gb116, 6, none⟩ = some (.int .i64 a1_6) := (blk_cell BK116.out 6).trans rfl; have hcz10_7 : w9.cell? ⟨gb116, 7, none⟩ = some (.int .i64 a1_7) := (blk_cell BK116.out 7).trans rfl; have hcz10_8 : w9.cell? ⟨gb116, 8, none⟩ = some (.bool a1_8) := (blk_cell BK116.out 8).trans rfl; have hcz10_9 : w9.cell? ⟨gb116, 9, none⟩ = some (.int .i64 a1_9) := (blk_cell BK116.out 9).trans rfl; have hcz10_10 : w9.cell? ⟨gb116, 10, none⟩ = some (.int .i64 a1_10) := (blk_cell BK116.out 10).trans rfl; have hcz10_11 : w9.cell? ⟨gb116, 11, none⟩ = some (.bool a1_11) := (blk_cell BK116.out 11).trans rfl; have hcz10_12 : w9.cell? ⟨gb116, 12, none⟩ = some (.int .i64 a1_12) := (blk_cell BK116.out 12).trans rfl; have hcz10_13 : w9.cell? ⟨gb116, 13, none⟩ = some (.bool a1_13) := (blk_cell BK116.out 13).trans rfl; have hcz10_14 : w9.cell? ⟨gb116, 14, none⟩ = some (.int .i64 a1_14) := (blk_cell BK116.out 14).trans rfl; have hcz10_15 : w9.cell? ⟨gb116, 15, none⟩ = some (.int .i64 a1_15) := (blk_cell BK116.out 15).trans rfl; have hfz10_0 := blk_frozen BK116.out 0; have hfz10_1 := blk_frozen BK116.out 1; have hfz10_2 := blk_frozen BK116.out 2; have hfz10_3 := blk_frozen BK116.out 3; have hfz10_4 := blk_frozen BK116.out 4; have hfz10_5 := blk_frozen BK116.out 5; have hfz10_6 := blk_frozen BK116.out 6; have hfz10_7 := blk_frozen BK116.out 7; have hfz10_8 := blk_frozen BK116.out 8; have hfz10_9 := blk_frozen BK116.out 9; have hfz10_10 := blk_frozen BK116.out 10; have hfz10_11 := blk_frozen BK116.out 11; have hfz10_12 := blk_frozen BK116.out 12; have hfz10_13 := blk_frozen BK116.out 13; have hfz10_14 := blk_frozen BK116.out 14; have hfz10_15 := blk_frozen BK116.out 15) | (go_at_call 28; (with_reducible refine (gutterref04_IsMulti.calls a1_0 a1_1 a1_2 a1_3 a1_4 a1_5 a1_6 a1_7 a1_8 a1_9 a1_10 a1_11 a1_12 a1_13 a1_14 a1_15 t118 _ A7.out).mono ?_); rintro e w11 ⟨rfl, hb⟩; have n0_ := Aside0.mk (blk_below (g := gb116) (o := .cells #[.int .i64 a1_0, .int .i64 a1_1, .int .i64 a1_2, .int .i64 a1_3, .bool a1_4, .int .i64 a1_5, .int .i64 a1_6, .int .i64 a1_7, .bool a1_8, .int .i64 a1_9, .int .i64 a1_10, .bool a1_11, .int .i64 a1_12, .bool a1_13, .int .i64 a1_14, .int .i64 a1_15] 23 (0, 0)) (by (with_reducible repeat (first | refine blk_drewN ?_ _ | refine blk_drew ?_ | refine blk_alloc ?_ _)); exact BK116.out) hb); have n1_ := Aside0.mk (below_step (by repeat (first | (with_reducible first | exact HB.out | apply below_alloc | apply pw_below_drewN | apply below_drew1 | refine below_set ?_ GE116.out) | exact HB.out)) hb); clear BK116; clear HB; have BK116 := n0_; have HB := n1_; clear n0_ n1_; (try clear hb); (try clear hb2); (try clear hk); (try clear hi)))
      repeat (go_quiet (first | (go_at_call 27; (with_reducible refine (gutterref04_Right.calls a1_0 a1_1 a1_2 a1_3 a1_4 a1_5 a1_6 a1_7 a1_8 a1_9 a1_10 a1_11 a1_12 a1_13 a1_14 a1_15 true _ A5.out).mono ?_); rintro e w9 ⟨rfl, hb⟩; have n0_ := Aside0.mk (blk_below (g := gb116) (o := .cells #[.int .i64 a1_0, .int .i64 a1_1, .int .i64 a1_2, .int .i64 a1_3, .bool a1_4, .int .i64 a1_5, .int .i64 a1_6, .int .i64 a1_7, .bool a1_8, .int .i64 a1_9, .int .i64 a1_10, .bool a1_11, .int .i64 a1_12, .bool a1_13, .int .i64 a1_14, .int .i64 a1_15] 23 (0, 0)) (by (with_reducible repeat (first | refine blk_drewN ?_ _ | refine blk_drew ?_ | refine blk_alloc ?_ _)); exact BK116.out) hb); have n1_ := Aside0.mk (below_step (by repeat (first | (with_reducible first | exact HB.out | apply below_alloc | apply pw_below_drewN | apply below_drew1 | refine below_set ?_ GE116.out) | exact HB.out)) hb); clear BK116; clear HB; have BK116 := n0_; have HB := n1_; clear n0_ n1_; (try clear hb); (try clear hb2); (try clear hk); (try clear hi); have hcz10_0 : w9.cell? ⟨gb116, 0, none⟩ = some (.int .i64 a1_0) := (blk_cell BK116.out 0).trans rfl; have hcz10_1 : w9.cell? ⟨gb116, 1, none⟩ = some (.int .i64 a1_1) := (blk_cell BK116.out 1).trans rfl; have hcz10_2 : w9.cell? ⟨gb116, 2, none⟩ = some (.int .i64 a1_2) := (blk_cell BK116.out 2).trans rfl; have hcz10_3 : w9.cell? ⟨gb116, 3, none⟩ = some (.int .i64 a1_3) := (blk_cell BK116.out 3).trans rfl; have hcz10_4 : w9.cell? ⟨gb116, 4, none⟩ = some (.bool a1_4) := (blk_cell BK116.out 4).trans rfl; have hcz10_5 : w9.cell? ⟨gb116, 5, none⟩ = some (.int .i64 a1_5) := (blk_cell BK116.out 5).trans rfl; have hcz10_6 : w9.cell? ⟨gb116, 6, none⟩ = some (.int .i64 a1_6) := (blk_cell BK116.out 6).trans rfl; have hcz10_7 : w9.cell? ⟨gb116, 7, none⟩ = some (.int .i64 a1_7) := (blk_cell BK116.out 7).trans rfl; have hcz10_8 : w9.cell? ⟨gb116, 8, none⟩ = some (.bool a1_8) := (blk_cell BK116.out 8).trans rfl; have hcz10_9 : w9.cell? ⟨gb116, 9, none⟩ = some (.int .i64 a1_9) := (blk_cell BK116.out 9).trans rfl; have hcz10_10 : w9.cell? ⟨gb116, 10, none⟩ = some (.int .i64 a1_10) := (blk_cell BK116.out 10).trans rfl; have hcz10_11 : w9.cell? ⟨gb116, 11, none⟩ = some (.bool a1_11) := (blk_cell BK116.out 11).trans rfl; have hcz10_12 : w9.cell? ⟨gb116, 12, none⟩ = some (.int .i64 a1_12) := (blk_cell BK116.out 12).trans rfl; have hcz10_13 : w9.cell? ⟨gb116, 13, none⟩ = some (.bool a1_13) := (blk_cell BK116.out 13).trans rfl; have hcz10_14 : w9.cell? ⟨gb116, 14, none⟩ = some (.int .i64 a1_14) := (blk_cell BK116.out 14).trans rfl; have hcz10_15 : w9.cell? ⟨gb116, 15, none⟩ = some (.int .i64 a1_15) := (blk_cell BK116.out 15).trans rfl; have hfz10_0 := blk_frozen BK116.out 0; have hfz10_1 := blk_frozen BK116.out 1; have hfz10_2 := blk_frozen BK116.out 2; have hfz10_3 := blk_frozen BK116.out 3; have hfz10_4 := blk_frozen BK116.out 4; have hfz10_5 := blk_frozen BK116.out 5; have hfz10_6 := blk_frozen BK116.out 6; have hfz10_7 := blk_frozen BK116.out 7; have hfz10_8 := blk_frozen BK116.out 8; have hfz10_9 := blk_frozen BK116.out 9; have hfz10_10 := blk_frozen BK116.out 10; have hfz10_11 := blk_frozen BK116.out 11; have hfz10_12 := blk_frozen BK116.out 12; have hfz10_13 := blk_frozen BK116.out 13; have hfz10_14 := blk_frozen BK116.out 14; have hfz10_15 := blk_frozen BK116.out 15) | (go_at_call 28; (with_reducible refine (gutterref04_IsMulti.calls a1_0 a1_1 a1_2 a1_3 a1_4 a1_5 a1_6 a1_7 a1_8 a1_9 a1_10 a1_11 a1_12 a1_13 a1_14 a1_15 t118 _ A7.out).mono ?_); rintro e w11 ⟨rfl, hb⟩; have n0_ := Aside0.mk (blk_below (g := gb116) (o := .cells #[.int .i64 a1_0, .int .i64 a1_1, .int .i64 a1_2, .int .i64 a1_3, .bool a1_4, .int .i64 a1_5, .int .i64 a1_6, .int .i64 a1_7, .bool a1_8, .int .i64 a1_9, .int .i64 a1_10, .bool a1_11, .int .i64 a1_12, .bool a1_13, .int .i64 a1_14, .int .i64 a1_15] 23 (0, 0)) (by (with_reducible repeat (first | refine blk_drewN ?_ _ | refine blk_drew ?_ | refine blk_alloc ?_ _)); exact BK116.out) hb); have n1_ := Aside0.mk (below_step (by repeat (first | (with_reducible first | exact HB.out | apply below_alloc | apply pw_below_drewN | apply below_drew1 | refine below_set ?_ GE116.out) | exact HB.out)) hb); clear BK116; clear HB; have BK116 := n0_; have HB := n1_; clear n0_ n1_; (try clear hb); (try clear hb2); (try clear hk); (try clear hi))); try go_wp2_with (first | (go_at_call 27; (with_reducible refine (gutterref04_Right.calls a1_0 a1_1 a1_2 a1_3 a1_4 a1_5 a1_6 a1_7 a1_8 a1_9 a1_10 a1_11 a1_12 a1_13 a1_14 a1_15 true _ A5.out).mono ?_); rintro e w9 ⟨rfl, hb⟩; have n0_ := Aside0.mk (blk_below (g := gb116) (o := .cells #[.int .i64 a1_0, .int .i64 a1_1, .int .i64 a1_2, .int .i64 a1_3, .bool a1_4, .int .i64 a1_5, .int .i64 a1_6, .int .i64 a1_7, .bool a1_8, .int .i64 a1_9, .int .i64 a1_10, .bool a1_11, .int .i64 a1_12, .bool a1_13, .int .i64 a1_14, .int .i64 a1_15] 23 (0, 0)) (by (with_reducible repeat (first | refine blk_drewN ?_ _ | refine blk_drew ?_ | refine blk_alloc ?_ _)); exact BK116.out) hb); have n1_ := Aside0.mk (below_step (by repeat (first | (with_reducible first | exact HB.out | apply below_alloc | apply pw_below_drewN | apply below_drew1 | refine below_set ?_ GE116.out) | exact HB.out)) hb); clear BK116; clear HB; have BK116 := n0_; have HB := n1_; clear n0_ n1_; (try clear hb); (try clear hb2); (try clear hk); (try clear hi); have hcz10_0 : w9.cell? ⟨gb116, 0, none⟩ = some (.int .i64 a1_0) := (blk_cell BK116.out 0).trans rfl; have hcz10_1 : w9.cell? ⟨gb116, 1, none⟩ = some (.int .i64 a1_1) := (blk_cell BK116.out 1).trans rfl; have hcz10_2 : w9.cell? ⟨gb116, 2, none⟩ = some (.int .i64 a1_2) := (blk_cell BK116.out 2).trans rfl; have hcz10_3 : w9.cell? ⟨gb116, 3, none⟩ = some (.int .i64 a1_3) := (blk_cell BK116.out 3).trans rfl; have hcz10_4 : w9.cell? ⟨gb116, 4, none⟩ = some (.bool a1_4) := (blk_cell BK116.out 4).trans rfl; have hcz10_5 : w9.cell? ⟨gb116, 5, none⟩ = some (.int .i64 a1_5) := (blk_cell BK116.out 5).trans rfl; have hcz10_6 : w9.cell? ⟨gb116, 6, none⟩ = some (.int .i64 a1_6) := (blk_cell BK116.out 6).trans rfl; have hcz10_7 : w9.cell? ⟨gb116, 7, none⟩ = some (.int .i64 a1_7) := (blk_cell BK116.out 7).trans rfl; have hcz10_8 : w9.cell? ⟨gb116, 8, none⟩ = some (.bool a1_8) := (blk_cell BK116.out 8).trans rfl; have hcz10_9 : w9.cell? ⟨gb116, 9, none⟩ = some (.int .i64 a1_9) := (blk_cell BK116.out 9).trans rfl; have hcz10_10 : w9.cell? ⟨gb116, 10, none⟩ = some (.int .i64 a1_10) := (blk_cell BK116.out 10).trans rfl; have hcz10_11 : w9.cell? ⟨gb116, 11, none⟩ = some (.bool a1_11) := (blk_cell BK116.out 11).trans rfl; have hcz10_12 : w9.cell? ⟨gb116, 12, none⟩ = some (.int .i64 a1_12) := (blk_cell BK116.out 12).trans rfl; have hcz10_13 : w9.cell? ⟨gb116, 13, none⟩ = some (.bool a1_13) := (blk_cell BK116.out 13).trans rfl; have hcz10_14 : w9.cell? ⟨gb116, 14, none⟩ = some (.int .i64 a1_14) := (blk_cell BK116.out 14).trans rfl; have hcz10_15 : w9.cell? ⟨gb116, 15, none⟩ = some (.int .i64 a1_15) := (blk_cell BK116.out 15).trans rfl; have hfz10_0 := blk_frozen BK116.out 0; have hfz10_1 := blk_frozen BK116.out 1; have hfz10_2 := blk_frozen BK116.out 2; have hfz10_3 := blk_frozen BK116.out 3; have hfz10_4 := blk_frozen BK116.out 4; have hfz10_5 := blk_frozen BK116.out 5; have hfz10_6 := blk_frozen BK116.out 6; have hfz10_7 := blk_frozen BK116.out 7; have hfz10_8 := blk_frozen BK116.out 8; have hfz10_9 := blk_frozen BK116.out 9; have hfz10_10 := blk_frozen BK116.out 10; have hfz10_11 := blk_frozen BK116.out 11; have hfz10_12 := blk_frozen BK116.out 12; have hfz10_13 := blk_frozen BK116.out 13; have hfz10_14 := blk_frozen BK116.out 14; have hfz10_15 := blk_frozen BK116.out 15) | (go_at_call 28; (with_reducible refine (gutterref04_IsMulti.calls a1_0 a1_1 a1_2 a1_3 a1_4 a1_5 a1_6 a1_7 a1_8 a1_9 a1_10 a1_11 a1_12 a1_13 a1_14 a1_15 t118 _ A7.out).mono ?_); rintro e w11 ⟨rfl, hb⟩; have n0_ := Aside0.mk (blk_below (g := gb116) (o := .cells #[.int .i64 a1_0, .int .i64 a1_1, .int .i64 a1_2, .int .i64 a1_3, .bool a1_4, .int .i64 a1_5, .int .i64 a1_6, .int .i64 a1_7, .bool a1_8, .int .i64 a1_9, .int .i64 a1_10, .bool a1_11, .int .i64 a1_12, .bool a1_13, .int .i64 a1_14, .int .i64 a1_15] 23 (0, 0)) (by (with_reducible repeat (first | refine blk_drewN ?_ _ | refine blk_drew ?_ | refine blk_alloc ?_ _)); exact BK116.out) hb); have n1_ := Aside0.mk (below_step (by repeat (first | (with_reducible first | exact HB.out | apply below_alloc | apply pw_below_drewN | apply below_drew1 | refine below_set ?_ GE116.out) | exact HB.out)) hb); clear BK116; clear HB; have BK116 := n0_; have HB := n1_; clear n0_ n1_; (try clear hb); (try clear hb2); (try clear hk); (try clear hi))))
      go_meet
      case rel => exact ⟨_, (!t118), (by first | rfl | (simp; done) | (simp [*]; done)), H', ⟨by first | omega | exact Nat.le_refl _⟩, ⟨by (with_reducible repeat (first | refine blk_drewN ?_ _ | refine blk_drew ?_ | refine blk_alloc ?_ _)); exact BK116.out⟩, ⟨by repeat (first | (with_reducible first | exact HB.out | apply below_alloc | apply pw_below_drewN | apply below_drew1 | refine below_set ?_ GE116.out) | exact HB.out)⟩⟩
    · replace c6 := Bool.eq_false_iff.mpr c6
      subst c6
      have H1 : (gutterref06_Used.j0 k a0 true a1_0 a1_1 a1_2 a1_3 a1_4 a1_5 a1_6 a1_7 a1_8 a1_9 a1_10 a1_11 a1_12 a1_13 a1_14 a1_15) = some (r1, r2, r3) := by rw [if_neg (show ¬ (false = true) by decide)] at H; exact H
      clear H
      have H := H1
      clear H1
      have H' := Aside0.mk H
      clear H
      have hcz12_0 : w4.cell? ⟨gb116, 0, none⟩ = some (.int .i64 a1_0) := (blk_cell BK116.out 0).trans rfl
      have hcz12_1 : w4.cell? ⟨gb116, 1, none⟩ = some (.int .i64 a1_1) := (blk_cell BK116.out 1).trans rfl
      have hcz12_2 : w4.cell? ⟨gb116, 2, none⟩ = some (.int .i64 a1_2) := (blk_cell BK116.out 2).trans rfl
      have hcz12_3 : w4.cell? ⟨gb116, 3, none⟩ = some (.int .i64 a1_3) := (blk_cell BK116.out 3).trans rfl
      have hcz12_4 : w4.cell? ⟨gb116, 4, none⟩ = some (.bool a1_4) := (blk_cell BK116.out 4).trans rfl
      have hcz12_5 : w4.cell? ⟨gb116, 5, none⟩ = some (.int .i64 a1_5) := (blk_cell BK116.out 5).trans rfl
      have hcz12_6 : w4.cell? ⟨gb116, 6, none⟩ = some (.int .i64 a1_6) := (blk_cell BK116.out 6).trans rfl
      have hcz12_7 : w4.cell? ⟨gb116, 7, none⟩ = some (.int .i64 a1_7) := (blk_cell BK116.out 7).trans rfl
      have hcz12_8 : w4.cell? ⟨gb116, 8, none⟩ = some (.bool a1_8) := (blk_cell BK116.out 8).trans rfl
      have hcz12_9 : w4.cell? ⟨gb116, 9, none⟩ = some (.int .i64 a1_9) := (blk_cell BK116.out 9).trans rfl
      have hcz12_10 : w4.cell? ⟨gb116, 10, none⟩ = some (.int .i64 a1_10) := (blk_cell BK116.out 10).trans rfl
      have hcz12_11 : w4.cell? ⟨gb116, 11, none⟩ = some (.bool a1_11) := (blk_cell BK116.out 11).trans rfl
      have hcz12_12 : w4.cell? ⟨gb116, 12, none⟩ = some (.int .i64 a1_12) := (blk_cell BK116.out 12).trans rfl
      have hcz12_13 : w4.cell? ⟨gb116, 13, none⟩ = some (.bool a1_13) := (blk_cell BK116.out 13).trans rfl
      have hcz12_14 : w4.cell? ⟨gb116, 14, none⟩ = some (.int .i64 a1_14) := (blk_cell BK116.out 14).trans rfl
      have hcz12_15 : w4.cell? ⟨gb116, 15, none⟩ = some (.int .i64 a1_15) := (blk_cell BK116.out 15).trans rfl
      have hfz12_0 := blk_frozen BK116.out 0
      have hfz12_1 := blk_frozen BK116.out 1
      have hfz12_2 := blk_frozen BK116.out 2
      have hfz12_3 := blk_frozen BK116.out 3
      have hfz12_4 := blk_frozen BK116.out 4
      have hfz12_5 := blk_frozen BK116.out 5
      have hfz12_6 := blk_frozen BK116.out 6
      have hfz12_7 := blk_frozen BK116.out 7
      have hfz12_8 := blk_frozen BK116.out 8
      have hfz12_9 := blk_frozen BK116.out 9
      have hfz12_10 := blk_frozen BK116.out 10
      have hfz12_11 := blk_frozen BK116.out 11
      have hfz12_12 := blk_frozen BK116.out 12
      have hfz12_13 := blk_frozen BK116.out 13
      have hfz12_14 := blk_frozen BK116.out 14
      have hfz12_15 := blk_frozen BK116.out 15
      go_wp2_with (first | (go_at_call 27; (with_reducible refine (gutterref04_Right.calls a1_0 a1_1 a1_2 a1_3 a1_4 a1_5 a1_6 a1_7 a1_8 a1_9 a1_10 a1_11 a1_12 a1_13 a1_14 a1_15 false _ A5.out).mono ?_); rintro e w13 ⟨rfl, hb⟩; have n0_ := Aside0.mk (blk_below (g := gb116) (o := .cells #[.int .i64 a1_0, .int .i64 a1_1, .int .i64 a1_2, .int .i64 a1_3, .bool a1_4, .int .i64 a1_5, .int .i64 a1_6, .int .i64 a1_7, .bool a1_8, .int .i64 a1_9, .int .i64 a1_10, .bool a1_11, .int .i64 a1_12, .bool a1_13, .int .i64 a1_14, .int .i64 a1_15] 23 (0, 0)) (by (with_reducible repeat (first | refine blk_drewN ?_ _ | refine blk_drew ?_ | refine blk_alloc ?_ _)); exact BK116.out) hb); have n1_ := Aside0.mk (below_step (by repeat (first | (with_reducible first | exact HB.out | apply below_alloc | apply pw_below_drewN | apply below_drew1 | refine below_set ?_ GE116.out) | exact HB.out)) hb); clear BK116; clear HB; have BK116 := n0_; have HB := n1_; clear n0_ n1_; (try clear hb); (try clear hb2); (try clear hk); (try clear hi)))
      repeat (go_quiet (first | (go_at_call 27; (with_reducible refine (gutterref04_Right.calls a1_0 a1_1 a1_2 a1_3 a1_4 a1_5 a1_6 a1_7 a1_8 a1_9 a1_10 a1_11 a1_12 a1_13 a1_14 a1_15 false _ A5.out).mono ?_); rintro e w13 ⟨rfl, hb⟩; have n0_ := Aside0.mk (blk_below (g := gb116) (o := .cells #[.int .i64 a1_0, .int .i64 a1_1, .int .i64 a1_2, .int .i64 a1_3, .bool a1_4, .int .i64 a1_5, .int .i64 a1_6, .int .i64 a1_7, .bool a1_8, .int .i64 a1_9, .int .i64 a1_10, .bool a1_11, .int .i64 a1_12, .bool a1_13, .int .i64 a1_14, .int .i64 a1_15] 23 (0, 0)) (by (with_reducible repeat (first | refine blk_drewN ?_ _ | refine blk_drew ?_ | refine blk_alloc ?_ _)); exact BK116.out) hb); have n1_ := Aside0.mk (below_step (by repeat (first | (with_reducible first | exact HB.out | apply below_alloc | apply pw_below_drewN | apply below_drew1 | refine below_set ?_ GE116.out) | exact HB.out)) hb); clear BK116; clear HB; have BK116 := n0_; have HB := n1_; clear n0_ n1_; (try clear hb); (try clear hb2); (try clear hk); (try clear hi))); try go_wp2_with (first | (go_at_call 27; (with_reducible refine (gutterref04_Right.calls a1_0 a1_1 a1_2 a1_3 a1_4 a1_5 a1_6 a1_7 a1_8 a1_9 a1_10 a1_11 a1_12 a1_13 a1_14 a1_15 false _ A5.out).mono ?_); rintro e w13 ⟨rfl, hb⟩; have n0_ := Aside0.mk (blk_below (g := gb116) (o := .cells #[.int .i64 a1_0, .int .i64 a1_1, .int .i64 a1_2, .int .i64 a1_3, .bool a1_4, .int .i64 a1_5, .int .i64 a1_6, .int .i64 a1_7, .bool a1_8, .int .i64 a1_9, .int .i64 a1_10, .bool a1_11, .int .i64 a1_12, .bool a1_13, .int .i64 a1_14, .int .i64 a1_15] 23 (0, 0)) (by (with_reducible repeat (first | refine blk_drewN ?_ _ | refine blk_drew ?_ | refine blk_alloc ?_ _)); exact BK116.out) hb); have n1_ := Aside0.mk (below_step (by repeat (first | (with_reducible first | exact HB.out | apply below_alloc | apply pw_below_drewN | apply below_drew1 | refine below_set ?_ GE116.out) | exact HB.out)) hb); clear BK116; clear HB; have BK116 := n0_; have HB := n1_; clear n0_ n1_; (try clear hb); (try clear hb2); (try clear hk); (try clear hi))))
      go_meet
      case rel => exact ⟨_, (true), (by first | rfl | (simp; done) | (simp [*]; done)), H', ⟨by first | omega | exact Nat.le_refl _⟩, ⟨by (with_reducible repeat (first | refine blk_drewN ?_ _ | refine blk_drew ?_ | refine blk_alloc ?_ _)); exact BK116.out⟩, ⟨by repeat (first | (with_reducible first | exact HB.out | apply below_alloc | apply pw_below_drewN | apply below_drew1 | refine below_set ?_ GE116.out) | exact HB.out)⟩⟩
  case rest =>
    clear HC3
    try clear c1
    try clear p2
    try clear c6
    try clear hcz10_0
    try clear hcz10_1
    try clear hcz10_10
    try clear hcz10_11
    try clear hcz10_12
    try clear hcz10_13
    try clear hcz10_14
    try clear hcz10_15
    try clear hcz10_2
    try clear hcz10_3
    try clear hcz10_4
    try clear hcz10_5
    try clear hcz10_6
    try clear hcz10_7
    try clear hcz10_8
    try clear hcz10_9
    try clear hcz12_0
    try clear hcz12_1
    try clear hcz12_10
    try clear hcz12_11
    try clear hcz12_12
    try clear hcz12_13
    try clear hcz12_14
    try clear hcz12_15
    try clear hcz12_2
    try clear hcz12_3
    try clear hcz12_4
    try clear hcz12_5
    try clear hcz12_6
    try clear hcz12_7
    try clear hcz12_8
    try clear hcz12_9
    try clear hcz8_0
    try clear hcz8_1
    try clear hcz8_10
    try clear hcz8_11
    try clear hcz8_12
    try clear hcz8_13
    try clear hcz8_14
    try clear hcz8_15
    try clear hcz8_2
    try clear hcz8_3
    try clear hcz8_4
    try clear hcz8_5
    try clear hcz8_6
    try clear hcz8_7
    try clear hcz8_8
    try clear hcz8_9
    try clear hfz10_0
    try clear hfz10_1
    try clear hfz10_10
    try clear hfz10_11
    try clear hfz10_12
    try clear hfz10_13
    try clear hfz10_14
    try clear hfz10_15
    try clear hfz10_2
    try clear hfz10_3
    try clear hfz10_4
    try clear hfz10_5
    try clear hfz10_6
    try clear hfz10_7
    try clear hfz10_8
    try clear hfz10_9
    try clear hfz12_0
    try clear hfz12_1
    try clear hfz12_10
    try clear hfz12_11
    try clear hfz12_12
    try clear hfz12_13
    try clear hfz12_14
    try clear hfz12_15
    try clear hfz12_2
    try clear hfz12_3
    try clear hfz12_4
    try clear hfz12_5
    try clear hfz12_6
    try clear hfz12_7
    try clear hfz12_8
    try clear hfz12_9
    try clear hfz8_0
    try clear hfz8_1
    try clear hfz8_10
    try clear hfz8_11
    try clear hfz8_12
    try clear hfz8_13
    try clear hfz8_14
    try clear hfz8_15
    try clear hfz8_2
    try clear hfz8_3
    try clear hfz8_4
    try clear hfz8_5
    try clear hfz8_6
    try clear hfz8_7
    try clear hfz8_8
    try clear hfz8_9
    obtain ⟨kq, x18_2, rfl, HA, HJ2, BK116, HB⟩ := hcut
    cases kq with
    | zero => exact absurd HA.out (by simp [gutterref06_Used.j0])
    | succ kj2 =>
      have H := HA.out
      clear HA
      simp only [gutterref06_Used.j0] at H
      by_cases c14 : x18_2 = true
      · subst c14
        have H1 : (some (0, 0, 40)) = some (r1, r2, r3) := by rw [if_pos rfl] at H; exact H
        clear H
        have H := H1
        clear H1
        simp only [Option.some.injEq, Prod.mk.injEq] at H
        obtain ⟨rfl, rfl, rfl⟩ := H
        go_wp2
        repeat (go_quiet (fail); try go_wp2)
        go_ret3
        exact ⟨by first | rfl | (simp [errW_none, errW_some] <;> rfl) | (simp [*, errW_none, errW_some] <;> rfl), by repeat (first | (with_reducible first | exact HB.out | apply below_alloc | apply pw_below_drewN | apply below_drew1 | refine below_set ?_ GE116.out) | exact HB.out)⟩
      · replace c14 := Bool.eq_false_iff.mpr c14
        subst c14
        have H1 : ((gutterref06_size.f a0).bind fun t119 => (if t119 = true then (if a1_1 > 0 then ((gutterref06_Fits.f a0 a1_1 a1_2).bind fun bt120 => (if a1_0 = 0 then (gutterref06_Used.j1 kj2 a0 a1_0 bt120.1 true a1_0 a1_1 a1_2 a1_3 a1_4 a1_5 a1_6 a1_7 a1_8 a1_9 a1_10 a1_11 a1_12 a1_13 a1_14 a1_15) else (gutterref06_Used.j1 kj2 a0 a1_0 bt120.1 (decide (bt120.1 < a1_0)) a1_0 a1_1 a1_2 a1_3 a1_4 a1_5 a1_6 a1_7 a1_8 a1_9 a1_10 a1_11 a1_12 a1_13 a1_14 a1_15))) else (if (wrap64 (a0 - (wrap64 ((wrap64 (a1_0 - 1)) * a1_2)))) < 0 then (some (a1_0, 0, 0)) else (if a1_0 = 0 then (none) else (some (a1_0, wrap64 (Int.tdiv (wrap64 (a0 - (wrap64 ((wrap64 (a1_0 - 1)) * a1_2)))) a1_0), 0))))) else (some (0, 0, 60)))) = some (r1, r2, r3) := by rw [if_neg (show ¬ (false = true) by decide)] at H; exact H
        clear H
        have H := H1
        clear H1
        replace H := Option.bind_eq_some_iff.mp H
        obtain ⟨t119, A150, H⟩ := H
        replace H : (if t119 = true then (if a1_1 > 0 then ((gutterref06_Fits.f a0 a1_1 a1_2).bind fun bt120 => (if a1_0 = 0 then (gutterref06_Used.j1 kj2 a0 a1_0 bt120.1 true a1_0 a1_1 a1_2 a1_3 a1_4 a1_5 a1_6 a1_7 a1_8 a1_9 a1_10 a1_11 a1_12 a1_13 a1_14 a1_15) else (gutterref06_Used.j1 kj2 a0 a1_0 bt120.1 (decide (bt120.1 < a1_0)) a1_0 a1_1 a1_2 a1_3 a1_4 a1_5 a1_6 a1_7 a1_8 a1_9 a1_10 a1_11 a1_12 a1_13 a1_14 a1_15))) else (if (wrap64 (a0 - (wrap64 ((wrap64 (a1_0 - 1)) * a1_2)))) < 0 then (some (a1_0, 0, 0)) else (if a1_0 = 0 then (none) else (some (a1_0, wrap64 (Int.tdiv (wrap64 (a0 - (wrap64 ((wrap64 (a1_0 - 1)) * a1_2)))) a1_0), 0))))) else (some (0, 0, 60))) = some (r1, r2, r3) := H
        have A15 := Aside0.mk A150
        clear A150
        by_cases c16 : t119 = true
        · subst c16
          have H1 : (if a1_1 > 0 then ((gutterref06_Fits.f a0 a1_1 a1_2).bind fun bt120 => (if a1_0 = 0 then (gutterref06_Used.j1 kj2 a0 a1_0 bt120.1 true a1_0 a1_1 a1_2 a1_3 a1_4 a1_5 a1_6 a1_7 a1_8 a1_9 a1_10 a1_11 a1_12 a1_13 a1_14 a1_15) else (gutterref06_Used.j1 kj2 a0 a1_0 bt120.1 (decide (bt120.1 < a1_0)) a1_0 a1_1 a1_2 a1_3 a1_4 a1_5 a1_6 a1_7 a1_8 a1_9 a1_10 a1_11 a1_12 a1_13 a1_14 a1_15))) else (if (wrap64 (a0 - (wrap64 ((wrap64 (a1_0 - 1)) * a1_2)))) < 0 then (some (a1_0, 0, 0)) else (if a1_0 = 0 then (none) else (some (a1_0, wrap64 (Int.tdiv (wrap64 (a0 - (wrap64 ((wrap64 (a1_0 - 1)) * a1_2)))) a1_0), 0))))) = some (r1, r2, r3) := by rw [if_pos rfl] at H; exact H
          clear H
          have H := H1
          clear H1
          by_cases c17 : a1_1 > 0
          · rw [if_pos c17] at H
            have c17b0 : decide (0 < a1_1) = true := decide_eq_true c17
            clear c17
            replace H := Option.bind_eq_some_iff.mp H
            obtain ⟨⟨t120, t121⟩, A180, H⟩ := H
            replace H : (if a1_0 = 0 then (gutterref06_Used.j1 kj2 a0 a1_0 t120 true a1_0 a1_1 a1_2 a1_3 a1_4 a1_5 a1_6 a1_7 a1_8 a1_9 a1_10 a1_11 a1_12 a1_13 a1_14 a1_15) else (gutterref06_Used.j1 kj2 a0 a1_0 t120 (decide (t120 < a1_0)) a1_0 a1_1 a1_2 a1_3 a1_4 a1_5 a1_6 a1_7 a1_8 a1_9 a1_10 a1_11 a1_12 a1_13 a1_14 a1_15)) = some (r1, r2, r3) := H
            have A18 := Aside0.mk A180
            clear A180
            have HC19 := Aside0.mk H
            clear H
            go_upto_region 8 with (first | (go_at_call 26; (with_reducible refine (gutterref06_size.calls a0 true _ A15.out).mono ?_); rintro e w' ⟨rfl, ⟨nd, rfl⟩⟩; (try first | exact ⟨rfl, _, World.drewN_drewN _ _ _⟩ | exact ⟨rfl, _, Eq.trans (World.drewN_drewN _ _ _) (congrArg (World.drewN _) (Nat.add_assoc _ _ _))⟩); have hcz20_0 : wc.cell? ⟨gb116, 0, none⟩ = some (.int .i64 a1_0) := (blk_cell BK116.out 0).trans rfl; have hcz20_1 : wc.cell? ⟨gb116, 1, none⟩ = some (.int .i64 a1_1) := (blk_cell BK116.out 1).trans rfl; have hcz20_2 : wc.cell? ⟨gb116, 2, none⟩ = some (.int .i64 a1_2) := (blk_cell BK116.out 2).trans rfl; have hcz20_3 : wc.cell? ⟨gb116, 3, none⟩ = some (.int .i64 a1_3) := (blk_cell BK116.out 3).trans rfl; have hcz20_4 : wc.cell? ⟨gb116, 4, none⟩ = some (.bool a1_4) := (blk_cell BK116.out 4).trans rfl; have hcz20_5 : wc.cell? ⟨gb116, 5, none⟩ = some (.int .i64 a1_5) := (blk_cell BK116.out 5).trans rfl; have hcz20_6 : wc.cell? ⟨gb116, 6, none⟩ = some (.int .i64 a1_6) := (blk_cell BK116.out 6).trans rfl; have hcz20_7 : wc.cell? ⟨gb116, 7, none⟩ = some (.int .i64 a1_7) := (blk_cell BK116.out 7).trans rfl; have hcz20_8 : wc.cell? ⟨gb116, 8, none⟩ = some (.bool a1_8) := (blk_cell BK116.out 8).trans rfl; have hcz20_9 : wc.cell? ⟨gb116, 9, none⟩ = some (.int .i64 a1_9) := (blk_cell BK116.out 9).trans rfl; have hcz20_10 : wc.cell? ⟨gb116, 10, none⟩ = some (.int .i64 a1_10) := (blk_cell BK116.out 10).trans rfl; have hcz20_11 : wc.cell? ⟨gb116, 11, none⟩ = some (.bool a1_11) := (blk_cell BK116.out 11).trans rfl; have hcz20_12 : wc.cell? ⟨gb116, 12, none⟩ = some (.int .i64 a1_12) := (blk_cell BK116.out 12).trans rfl; have hcz20_13 : wc.cell? ⟨gb116, 13, none⟩ = some (.bool a1_13) := (blk_cell BK116.out 13).trans rfl; have hcz20_14 : wc.cell? ⟨gb116, 14, none⟩ = some (.int .i64 a1_14) := (blk_cell BK116.out 14).trans rfl; have hcz20_15 : wc.cell? ⟨gb116, 15, none⟩ = some (.int .i64 a1_15) := (blk_cell BK116.out 15).trans rfl; have hfz20_0 := blk_frozen BK116.out 0; have hfz20_1 := blk_frozen BK116.out 1; have hfz20_2 := blk_frozen BK116.out 2; have hfz20_3 := blk_frozen BK116.out 3; have hfz20_4 := blk_frozen BK116.out 4; have hfz20_5 := blk_frozen BK116.out 5; have hfz20_6 := blk_frozen BK116.out 6; have hfz20_7 := blk_frozen BK116.out 7; have hfz20_8 := blk_frozen BK116.out 8; have hfz20_9 := blk_frozen BK116.out 9; have hfz20_10 := blk_frozen BK116.out 10; have hfz20_11 := blk_frozen BK116.out 11; have hfz20_12 := blk_frozen BK116.out 12; have hfz20_13 := blk_frozen BK116.out 13; have hfz20_14 := blk_frozen BK116.out 14; have hfz20_15 := blk_frozen BK116.out 15) | (go_at_call 15; (with_reducible refine (gutterref06_Fits.calls a0 a1_1 a1_2 t120 t121 _ A18.out).mono ?_); rintro e w21 ⟨rfl, hb⟩; have n0_ := Aside0.mk (blk_below (g := gb116) (o := .cells #[.int .i64 a1_0, .int .i64 a1_1, .int .i64 a1_2, .int .i64 a1_3, .bool a1_4, .int .i64 a1_5, .int .i64 a1_6, .int .i64 a1_7, .bool a1_8, .int .i64 a1_9, .int .i64 a1_10, .bool a1_11, .int .i64 a1_12, .bool a1_13, .int .i64 a1_14, .int .i64 a1_15] 23 (0, 0)) (by (with_reducible repeat (first | refine blk_drewN ?_ _ | refine blk_drew ?_ | refine blk_alloc ?_ _)); exact BK116.out) hb); have n1_ := Aside0.mk (below_step (by repeat (first | (with_reducible first | exact HB.out | apply below_alloc | apply pw_below_drewN | apply below_drew1 | refine below_set ?_ GE116.out) | exact HB.out)) hb); clear BK116; clear HB; have BK116 := n0_; have HB := n1_; clear n0_ n1_; (try clear hb); (try clear hb2); (try clear hk); (try clear hi)))
            repeat (go_quiet (first | (go_at_call 26; (with_reducible refine (gutterref06_size.calls a0 true _ A15.out).mono ?_); rintro e w' ⟨rfl, ⟨nd, rfl⟩⟩; (try first | exact ⟨rfl, _, World.drewN_drewN _ _ _⟩ | exact ⟨rfl, _, Eq.trans (World.drewN_drewN _ _ _) (congrArg (World.drewN _) (Nat.add_assoc _ _ _))⟩); have hcz20_0 : wc.cell? ⟨gb116, 0, none⟩ = some (.int .i64 a1_0) := (blk_cell BK116.out 0).trans rfl; have hcz20_1 : wc.cell? ⟨gb116, 1, none⟩ = some (.int .i64 a1_1) := (blk_cell BK116.out 1).trans rfl; have hcz20_2 : wc.cell? ⟨gb116, 2, none⟩ = some (.int .i64 a1_2) := (blk_cell BK116.out 2).trans rfl; have hcz20_3 : wc.cell? ⟨gb116, 3, none⟩ = some (.int .i64 a1_3) := (blk_cell BK116.out 3).trans rfl; have hcz20_4 : wc.cell? ⟨gb116, 4, none⟩ = some (.bool a1_4) := (blk_cell BK116.out 4).trans rfl; have hcz20_5 : wc.cell? ⟨gb116, 5, none⟩ = some (.int .i64 a1_5) := (blk_cell BK116.out 5).trans rfl; have hcz20_6 : wc.cell? ⟨gb116, 6, none⟩ = some (.int .i64 a1_6) := (blk_cell BK116.out 6).trans rfl; have hcz20_7 : wc.cell? ⟨gb116, 7, none⟩ = some (.int .i64 a1_7) := (blk_cell BK116.out 7).trans rfl; have hcz20_8 : wc.cell? ⟨gb116, 8, none⟩ = some (.bool a1_8) := (blk_cell BK116.out 8).trans rfl; have hcz20_9 : wc.cell? ⟨gb116, 9, none⟩ = some (.int .i64 a1_9) := (blk_cell BK116.out 9).trans rfl; have hcz20_10 : wc.cell? ⟨gb116, 10, none⟩ = some (.int .i64 a1_10) := (blk_cell BK116.out 10).trans rfl; have hcz20_11 : wc.cell? ⟨gb116, 11, none⟩ = some (.bool a1_11) := (blk_cell BK116.out 11).trans rfl; have hcz20_12 : wc.cell? ⟨gb116, 12, none⟩ = some (.int .i64 a1_12) := (blk_cell BK116.out 12).trans rfl; have hcz20_13 : wc.cell? ⟨gb116, 13, none⟩ = some (.bool a1_13) := (blk_cell BK116.out 13).trans rfl; have hcz20_14 : wc.cell? ⟨gb116, 14, none⟩ = some (.int .i64 a1_14) := (blk_cell BK116.out 14).trans rfl; have hcz20_15 : wc.cell? ⟨gb116, 15, none⟩ = some (.int .i64 a1_15) := (blk_cell BK116.out 15).trans rfl; have hfz20_0 := blk_frozen BK116.out 0; have hfz20_1 := blk_frozen BK116.out 1; have hfz20_2 := blk_frozen BK116.out 2; have hfz20_3 := blk_frozen BK116.out 3; have hfz20_4 := blk_frozen BK116.out 4; have hfz20_5 := blk_frozen BK116.out 5; have hfz20_6 := blk_frozen BK116.out 6; have hfz20_7 := blk_frozen BK116.out 7; have hfz20_8 := blk_frozen BK116.out 8; have hfz20_9 := blk_frozen BK116.out 9; have hfz20_10 := blk_frozen BK116.out 10; have hfz20_11 := blk_frozen BK116.out 11; have hfz20_12 := blk_frozen BK116.out 12; have hfz20_13 := blk_frozen BK116.out 13; have hfz20_14 := blk_frozen BK116.out 14; have hfz20_15 := blk_frozen BK116.out 15) | (go_at_call 15; (with_reducible refine (gutterref06_Fits.calls a0 a1_1 a1_2 t120 t121 _ A18.out).mono ?_); rintro e w21 ⟨rfl, hb⟩; have n0_ := Aside0.mk (blk_below (g := gb116) (o := .cells #[.int .i64 a1_0, .int .i64 a1_1, .int .i64 a1_2, .int .i64 a1_3, .bool a1_4, .int .i64 a1_5, .int .i64 a1_6, .int .i64 a1_7, .bool a1_8, .int .i64 a1_9, .int .i64 a1_10, .bool a1_11, .int .i64 a1_12, .bool a1_13, .int .i64 a1_14, .int .i64 a1_15] 23 (0, 0)) (by (with_reducible repeat (first | refine blk_drewN ?_ _ | refine blk_drew ?_ | refine blk_alloc ?_ _)); exact BK116.out) hb); have n1_ := Aside0.mk (below_step (by repeat (first | (with_reducible first | exact HB.out | apply below_alloc | apply pw_below_drewN | apply below_drew1 | refine below_set ?_ GE116.out) | exact HB.out)) hb); clear BK116; clear HB; have BK116 := n0_; have HB := n1_; clear n0_ n1_; (try clear hb); (try clear hb2); (try clear hk); (try clear hi))); go_upto_region 8 with (first | (go_at_call 26; (with_reducible refine (gutterref06_size.calls a0 true _ A15.out).mono ?_); rintro e w' ⟨rfl, ⟨nd, rfl⟩⟩; (try first | exact ⟨rfl, _, World.drewN_drewN _ _ _⟩ | exact ⟨rfl, _, Eq.trans (World.drewN_drewN _ _ _) (congrArg (World.drewN _) (Nat.add_assoc _ _ _))⟩); have hcz20_0 : wc.cell? ⟨gb116, 0, none⟩ = some (.int .i64 a1_0) := (blk_cell BK116.out 0).trans rfl; have hcz20_1 : wc.cell? ⟨gb116, 1, none⟩ = some (.int .i64 a1_1) := (blk_cell BK116.out 1).trans rfl; have hcz20_2 : wc.cell? ⟨gb116, 2, none⟩ = some (.int .i64 a1_2) := (blk_cell BK116.out 2).trans rfl; have hcz20_3 : wc.cell? ⟨gb116, 3, none⟩ = some (.int .i64 a1_3) := (blk_cell BK116.out 3).trans rfl; have hcz20_4 : wc.cell? ⟨gb116, 4, none⟩ = some (.bool a1_4) := (blk_cell BK116.out 4).trans rfl; have hcz20_5 : wc.cell? ⟨gb116, 5, none⟩ = some (.int .i64 a1_5) := (blk_cell BK116.out 5).trans rfl; have hcz20_6 : wc.cell? ⟨gb116, 6, none⟩ = some (.int .i64 a1_6) := (blk_cell BK116.out 6).trans rfl; have hcz20_7 : wc.cell? ⟨gb116, 7, none⟩ = some (.int .i64 a1_7) := (blk_cell BK116.out 7).trans rfl; have hcz20_8 : wc.cell? ⟨gb116, 8, none⟩ = some (.bool a1_8) := (blk_cell BK116.out 8).trans rfl; have hcz20_9 : wc.cell? ⟨gb116, 9, none⟩ = some (.int .i64 a1_9) := (blk_cell BK116.out 9).trans rfl; have hcz20_10 : wc.cell? ⟨gb116, 10, none⟩ = some (.int .i64 a1_10) := (blk_cell BK116.out 10).trans rfl; have hcz20_11 : wc.cell? ⟨gb116, 11, none⟩ = some (.bool a1_11) := (blk_cell BK116.out 11).trans rfl; have hcz20_12 : wc.cell? ⟨gb116, 12, none⟩ = some (.int .i64 a1_12) := (blk_cell BK116.out 12).trans rfl; have hcz20_13 : wc.cell? ⟨gb116, 13, none⟩ = some (.bool a1_13) := (blk_cell BK116.out 13).trans rfl; have hcz20_14 : wc.cell? ⟨gb116, 14, none⟩ = some (.int .i64 a1_14) := (blk_cell BK116.out 14).trans rfl; have hcz20_15 : wc.cell? ⟨gb116, 15, none⟩ = some (.int .i64 a1_15) := (blk_cell BK116.out 15).trans rfl; have hfz20_0 := blk_frozen BK116.out 0; have hfz20_1 := blk_frozen BK116.out 1; have hfz20_2 := blk_frozen BK116.out 2; have hfz20_3 := blk_frozen BK116.out 3; have hfz20_4 := blk_frozen BK116.out 4; have hfz20_5 := blk_frozen BK116.out 5; have hfz20_6 := blk_frozen BK116.out 6; have hfz20_7 := blk_frozen BK116.out 7; have hfz20_8 := blk_frozen BK116.out 8; have hfz20_9 := blk_frozen BK116.out 9; have hfz20_10 := blk_frozen BK116.out 10; have hfz20_11 := blk_frozen BK116.out 11; have hfz20_12 := blk_frozen BK116.out 12; have hfz20_13 := blk_frozen BK116.out 13; have hfz20_14 := blk_frozen BK116.out 14; have hfz20_15 := blk_frozen BK116.out 15) | (go_at_call 15; (with_reducible refine (gutterref06_Fits.calls a0 a1_1 a1_2 t120 t121 _ A18.out).mono ?_); rintro e w21 ⟨rfl, hb⟩; have n0_ := Aside0.mk (blk_below (g := gb116) (o := .cells #[.int .i64 a1_0, .int .i64 a1_1, .int .i64 a1_2, .int .i64 a1_3, .bool a1_4, .int .i64 a1_5, .int .i64 a1_6, .int .i64 a1_7, .bool a1_8, .int .i64 a1_9, .int .i64 a1_10, .bool a1_11, .int .i64 a1_12, .bool a1_13, .int .i64 a1_14, .int .i64 a1_15] 23 (0, 0)) (by (with_reducible repeat (first | refine blk_drewN ?_ _ | refine blk_drew ?_ | refine blk_alloc ?_ _)); exact BK116.out) hb); have n1_ := Aside0.mk (below_step (by repeat (first | (with_reducible first | exact HB.out | apply below_alloc | apply pw_below_drewN | apply below_drew1 | refine below_set ?_ GE116.out) | exact HB.out)) hb); clear BK116; clear HB; have BK116 := n0_; have HB := n1_; clear n0_ n1_; (try clear hb); (try clear hb2); (try clear hk); (try clear hi))))
            (try simp only [Act.put, List.setIfInBounds_toArray, List.set_cons_zero, List.set_cons_succ])
            go_cut [42] (fun v42 wc => ∃ (kq : Nat) (x42_18 : Bool), v42 = .bool x42_18 ∧ Aside0 (gutterref06_Used.j1 kq a0 a1_0 t120 x42_18 a1_0 a1_1 a1_2 a1_3 a1_4 a1_5 a1_6 a1_7 a1_8 a1_9 a1_10 a1_11 a1_12 a1_13 a1_14 a1_15 = some (r1, r2, r3)) ∧ Aside0 (kq ≤ kj2) ∧ Aside0 (wc.heap[gb116]? = some (.cells #[.int .i64 a1_0, .int .i64 a1_1, .int .i64 a1_2, .int .i64 a1_3, .bool a1_4, .int .i64 a1_5, .int .i64 a1_6, .int .i64 a1_7, .bool a1_8, .int .i64 a1_9, .int .i64 a1_10, .bool a1_11, .int .i64 a1_12, .bool a1_13, .int .i64 a1_14, .int .i64 a1_15] 23 (0, 0))) ∧ Aside0 (Below w.heap.size w wc))
            case first =>
              have H := HC19.out
              clear HC19
              by_cases c22 : a1_0 = 0
              · rw [if_pos c22] at H
                have c22b0 : (a1_0 == 0) = true := beq_iff_eq.mpr c22
                have c22b1 : (a1_0 != 0) = false := bne_eq_false_iff_eq.mpr c22
                clear c22
                (first | rw [c22b0] | (simp only [i64_w, i32_w]; rw [c22b0]) | skip)
                have H' := Aside0.mk H
                clear H
                go_wp2
                repeat (go_quiet (fail); try go_wp2)
                go_meet
                case rel => exact ⟨_, (true), (by first | rfl | (simp; done) | (simp [*]; done)), H', ⟨by have := HJ2.out; first | omega | exact Nat.le_refl _⟩, ⟨by (with_reducible repeat (first | refine blk_drewN ?_ _ | refine blk_drew ?_ | refine blk_alloc ?_ _)); exact BK116.out⟩, ⟨by repeat (first | (with_reducible first | exact HB.out | apply below_alloc | apply pw_below_drewN | apply below_drew1 | refine below_set ?_ GE116.out) | exact HB.out)⟩⟩
              · rw [if_neg c22] at H
                have c22b0 : (a1_0 == 0) = false := beq_eq_false_iff_ne.mpr c22
                have c22b1 : (a1_0 != 0) = true := bne_iff_ne.mpr c22
                (first | rw [c22b0] | (simp only [i64_w, i32_w]; rw [c22b0]) | skip)
                have H' := Aside0.mk H
                clear H
                go_wp2
                repeat (go_quiet (fail); try go_wp2)
                go_meet
                case rel => exact ⟨_, (decide (t120 < a1_0)), (by first | rfl | (simp; done) | (simp [*]; done)), H', ⟨by have := HJ2.out; first | omega | exact Nat.le_refl _⟩, ⟨by (with_reducible repeat (first | refine blk_drewN ?_ _ | refine blk_drew ?_ | refine blk_alloc ?_ _)); exact BK116.out⟩, ⟨by repeat (first | (with_reducible first | exact HB.out | apply below_alloc | apply pw_below_drewN | apply below_drew1 | refine below_set ?_ GE116.out) | exact HB.out)⟩⟩
            case rest =>
              clear HC19
              try clear c1
              try clear c2
              try clear p2
              try clear c6
              try clear p6
              try clear c14
              try clear c16
              try clear c17
              try clear c17b0
              try clear c22
              try clear c22b0
              try clear c22b1
              try clear hcz10_0
              try clear hcz10_1
              try clear hcz10_10
              try clear hcz10_11
              try clear hcz10_12
              try clear hcz10_13
              try clear hcz10_14
              try clear hcz10_15
              try clear hcz10_2
              try clear hcz10_3
              try clear hcz10_4
              try clear hcz10_5
              try clear hcz10_6
              try clear hcz10_7
              try clear hcz10_8
              try clear hcz10_9
              try clear hcz12_0
              try clear hcz12_1
              try clear hcz12_10
              try clear hcz12_11
              try clear hcz12_12
              try clear hcz12_13
              try clear hcz12_14
              try clear hcz12_15
              try clear hcz12_2
              try clear hcz12_3
              try clear hcz12_4
              try clear hcz12_5
              try clear hcz12_6
              try clear hcz12_7
              try clear hcz12_8
              try clear hcz12_9
              try clear hcz20_0
              try clear hcz20_1
              try clear hcz20_10
              try clear hcz20_11
              try clear hcz20_12
              try clear hcz20_13
              try clear hcz20_14
              try clear hcz20_15
              try clear hcz20_2
              try clear hcz20_3
              try clear hcz20_4
              try clear hcz20_5
              try clear hcz20_6
              try clear hcz20_7
              try clear hcz20_8
              try clear hcz20_9
              try clear hcz8_0
              try clear hcz8_1
              try clear hcz8_10
              try clear hcz8_11
              try clear hcz8_12
              try clear hcz8_13
              try clear hcz8_14
              try clear hcz8_15
              try clear hcz8_2
              try clear hcz8_3
              try clear hcz8_4
              try clear hcz8_5
              try clear hcz8_6
              try clear hcz8_7
              try clear hcz8_8
              try clear hcz8_9
              try clear hfz10_0
              try clear hfz10_1
              try clear hfz10_10
              try clear hfz10_11
              try clear hfz10_12
              try clear hfz10_13
              try clear hfz10_14
              try clear hfz10_15
              try clear hfz10_2
              try clear hfz10_3
              try clear hfz10_4
              try clear hfz10_5
              try clear hfz10_6
              try clear hfz10_7
              try clear hfz10_8
              try clear hfz10_9
              try clear hfz12_0
              try clear hfz12_1
              try clear hfz12_10
              try clear hfz12_11
              try clear hfz12_12
              try clear hfz12_13
              try clear hfz12_14
              try clear hfz12_15
              try clear hfz12_2
              try clear hfz12_3
              try clear hfz12_4
              try clear hfz12_5
              try clear hfz12_6
              try clear hfz12_7
              try clear hfz12_8
              try clear hfz12_9
              try clear hfz20_0
              try clear hfz20_1
              try clear hfz20_10
              try clear hfz20_11
              try clear hfz20_12
              try clear hfz20_13
              try clear hfz20_14
              try clear hfz20_15
              try clear hfz20_2
              try clear hfz20_3
              try clear hfz20_4
              try clear hfz20_5
              try clear hfz20_6
              try clear hfz20_7
              try clear hfz20_8
              try clear hfz20_9
              try clear hfz8_0
              try clear hfz8_1
              try clear hfz8_10
              try clear hfz8_11
              try clear hfz8_12
              try clear hfz8_13
              try clear hfz8_14
              try clear hfz8_15
              try clear hfz8_2
              try clear hfz8_3
              try clear hfz8_4
              try clear hfz8_5
              try clear hfz8_6
              try clear hfz8_7
              try clear hfz8_8
              try clear hfz8_9
              try clear p2
              obtain ⟨kq, x42_18, rfl, HA, HJ18, BK116, HB⟩ := hcut
              cases kq with
              | zero => exact absurd HA.out (by simp [gutterref06_Used.j1])
              | succ kj18 =>
                have H := HA.out
                clear HA
                simp only [gutterref06_Used.j1] at H
                by_cases c23 : x42_18 = true
                · subst c23
                  have H1 : (if (wrap64 (a0 - (wrap64 ((wrap64 (t120 - 1)) * a1_2)))) < 0 then (some (t120, 0, 0)) else (if t120 = 0 then (none) else (some (t120, wrap64 (Int.tdiv (wrap64 (a0 - (wrap64 ((wrap64 (t120 - 1)) * a1_2)))) t120), 0)))) = some (r1, r2, r3) := by rw [if_pos rfl] at H; exact H
                  clear H
                  have H := H1
                  clear H1
                  by_cases c24 : (wrap64 (a0 - (wrap64 ((wrap64 (t120 - 1)) * a1_2)))) < 0
                  · rw [if_pos c24] at H
                    have c24b0 : decide ((wrap64 (a0 - (wrap64 ((wrap64 (t120 - 1)) * a1_2)))) < 0) = true := decide_eq_true c24
                    clear c24
                    simp only [Option.some.injEq, Prod.mk.injEq] at H
                    obtain ⟨rfl, rfl, rfl⟩ := H
                    have hcz25_0 : wc.cell? ⟨gb116, 0, none⟩ = some (.int .i64 a1_0) := (blk_cell BK116.out 0).trans rfl
                    have hcz25_1 : wc.cell? ⟨gb116, 1, none⟩ = some (.int .i64 a1_1) := (blk_cell BK116.out 1).trans rfl
                    have hcz25_2 : wc.cell? ⟨gb116, 2, none⟩ = some (.int .i64 a1_2) := (blk_cell BK116.out 2).trans rfl
                    have hcz25_3 : wc.cell? ⟨gb116, 3, none⟩ = some (.int .i64 a1_3) := (blk_cell BK116.out 3).trans rfl
                    have hcz25_4 : wc.cell? ⟨gb116, 4, none⟩ = some (.bool a1_4) := (blk_cell BK116.out 4).trans rfl
                    have hcz25_5 : wc.cell? ⟨gb116, 5, none⟩ = some (.int .i64 a1_5) := (blk_cell BK116.out 5).trans rfl
                    have hcz25_6 : wc.cell? ⟨gb116, 6, none⟩ = some (.int .i64 a1_6) := (blk_cell BK116.out 6).trans rfl
                    have hcz25_7 : wc.cell? ⟨gb116, 7, none⟩ = some (.int .i64 a1_7) := (blk_cell BK116.out 7).trans rfl
                    have hcz25_8 : wc.cell? ⟨gb116, 8, none⟩ = some (.bool a1_8) := (blk_cell BK116.out 8).trans rfl
                    have hcz25_9 : wc.cell? ⟨gb116, 9, none⟩ = some (.int .i64 a1_9) := (blk_cell BK116.out 9).trans rfl
                    have hcz25_10 : wc.cell? ⟨gb116, 10, none⟩ = some (.int .i64 a1_10) := (blk_cell BK116.out 10).trans rfl
                    have hcz25_11 : wc.cell? ⟨gb116, 11, none⟩ = some (.bool a1_11) := (blk_cell BK116.out 11).trans rfl
                    have hcz25_12 : wc.cell? ⟨gb116, 12, none⟩ = some (.int .i64 a1_12) := (blk_cell BK116.out 12).trans rfl
                    have hcz25_13 : wc.cell? ⟨gb116, 13, none⟩ = some (.bool a1_13) := (blk_cell BK116.out 13).trans rfl
                    have hcz25_14 : wc.cell? ⟨gb116, 14, none⟩ = some (.int .i64 a1_14) := (blk_cell BK116.out 14).trans rfl
                    have hcz25_15 : wc.cell? ⟨gb116, 15, none⟩ = some (.int .i64 a1_15) := (blk_cell BK116.out 15).trans rfl
                    have hfz25_0 := blk_frozen BK116.out 0
                    have hfz25_1 := blk_frozen BK116.out 1
                    have hfz25_2 := blk_frozen BK116.out 2
                    have hfz25_3 := blk_frozen BK116.out 3
                    have hfz25_4 := blk_frozen BK116.out 4
                    have hfz25_5 := blk_frozen BK116.out 5
                    have hfz25_6 := blk_frozen BK116.out 6
                    have hfz25_7 := blk_frozen BK116.out 7
                    have hfz25_8 := blk_frozen BK116.out 8
                    have hfz25_9 := blk_frozen BK116.out 9
                    have hfz25_10 := blk_frozen BK116.out 10
                    have hfz25_11 := blk_frozen BK116.out 11
                    have hfz25_12 := blk_frozen BK116.out 12
                    have hfz25_13 := blk_frozen BK116.out 13
                    have hfz25_14 := blk_frozen BK116.out 14
                    have hfz25_15 := blk_frozen BK116.out 15
                    go_wp2
                    repeat (go_quiet (fail); try go_wp2)
                    go_ret3
                    exact ⟨by first | rfl | (simp [errW_none, errW_some] <;> rfl) | (simp [*, errW_none, errW_some] <;> rfl), by repeat (first | (with_reducible first | exact HB.out | apply below_alloc | apply pw_below_drewN | apply below_drew1 | refine below_set ?_ GE116.out) | exact HB.out)⟩
                  · rw [if_neg c24] at H
                    have c24b0 : decide ((wrap64 (a0 - (wrap64 ((wrap64 (t120 - 1)) * a1_2)))) < 0) = false := decide_eq_false c24
                    clear c24
                    by_cases c26 : t120 = 0
                    · rw [if_pos c26] at H
                      exact absurd H (by simp)
                    · rw [if_neg c26] at H
                      have c26b0 : (t120 == 0) = false := beq_eq_false_iff_ne.mpr c26
                      have c26b1 : (t120 != 0) = true := bne_iff_ne.mpr c26
                      simp only [Option.some.injEq, Prod.mk.injEq] at H
                      obtain ⟨rfl, rfl, rfl⟩ := H
                      have hcz27_0 : wc.cell? ⟨gb116, 0, none⟩ = some (.int .i64 a1_0) := (blk_cell BK116.out 0).trans rfl
                      have hcz27_1 : wc.cell? ⟨gb116, 1, none⟩ = some (.int .i64 a1_1) := (blk_cell BK116.out 1).trans rfl
                      have hcz27_2 : wc.cell? ⟨gb116, 2, none⟩ = some (.int .i64 a1_2) := (blk_cell BK116.out 2).trans rfl
                      have hcz27_3 : wc.cell? ⟨gb116, 3, none⟩ = some (.int .i64 a1_3) := (blk_cell BK116.out 3).trans rfl
                      have hcz27_4 : wc.cell? ⟨gb116, 4, none⟩ = some (.bool a1_4) := (blk_cell BK116.out 4).trans rfl
                      have hcz27_5 : wc.cell? ⟨gb116, 5, none⟩ = some (.int .i64 a1_5) := (blk_cell BK116.out 5).trans rfl
                      have hcz27_6 : wc.cell? ⟨gb116, 6, none⟩ = some (.int .i64 a1_6) := (blk_cell BK116.out 6).trans rfl
                      have hcz27_7 : wc.cell? ⟨gb116, 7, none⟩ = some (.int .i64 a1_7) := (blk_cell BK116.out 7).trans rfl
                      have hcz27_8 : wc.cell? ⟨gb116, 8, none⟩ = some (.bool a1_8) := (blk_cell BK116.out 8).trans rfl
                      have hcz27_9 : wc.cell? ⟨gb116, 9, none⟩ = some (.int .i64 a1_9) := (blk_cell BK116.out 9).trans rfl
                      have hcz27_10 : wc.cell? ⟨gb116, 10, none⟩ = some (.int .i64 a1_10) := (blk_cell BK116.out 10).trans rfl
                      have hcz27_11 : wc.cell? ⟨gb116, 11, none⟩ = some (.bool a1_11) := (blk_cell BK116.out 11).trans rfl
                      have hcz27_12 : wc.cell? ⟨gb116, 12, none⟩ = some (.int .i64 a1_12) := (blk_cell BK116.out 12).trans rfl
                      have hcz27_13 : wc.cell? ⟨gb116, 13, none⟩ = some (.bool a1_13) := (blk_cell BK116.out 13).trans rfl
                      have hcz27_14 : wc.cell? ⟨gb116, 14, none⟩ = some (.int .i64 a1_14) := (blk_cell BK116.out 14).trans rfl
                      have hcz27_15 : wc.cell? ⟨gb116, 15, none⟩ = some (.int .i64 a1_15) := (blk_cell BK116.out 15).trans rfl
                      have hfz27_0 := blk_frozen BK116.out 0
                      have hfz27_1 := blk_frozen BK116.out 1
                      have hfz27_2 := blk_frozen BK116.out 2
                      have hfz27_3 := blk_frozen BK116.out 3
                      have hfz27_4 := blk_frozen BK116.out 4
                      have hfz27_5 := blk_frozen BK116.out 5
                      have hfz27_6 := blk_frozen BK116.out 6
                      have hfz27_7 := blk_frozen BK116.out 7
                      have hfz27_8 := blk_frozen BK116.out 8
                      have hfz27_9 := blk_frozen BK116.out 9
                      have hfz27_10 := blk_frozen BK116.out 10
                      have hfz27_11 := blk_frozen BK116.out 11
                      have hfz27_12 := blk_frozen BK116.out 12
                      have hfz27_13 := blk_frozen BK116.out 13
                      have hfz27_14 := blk_frozen BK116.out 14
                      have hfz27_15 := blk_frozen BK116.out 15
                      go_wp2
                      repeat (go_quiet (fail); try go_wp2)
                      go_ret3
                      exact ⟨by first | rfl | (simp [errW_none, errW_some] <;> rfl) | (simp [*, errW_none, errW_some] <;> rfl), by repeat (first | (with_reducible first | exact HB.out | apply below_alloc | apply pw_below_drewN | apply below_drew1 | refine below_set ?_ GE116.out) | exact HB.out)⟩
                · replace c23 := Bool.eq_false_iff.mpr c23
                  subst c23
                  have H1 : (if (wrap64 (a0 - (wrap64 ((wrap64 (a1_0 - 1)) * a1_2)))) < 0 then (some (a1_0, 0, 0)) else (if a1_0 = 0 then (none) else (some (a1_0, wrap64 (Int.tdiv (wrap64 (a0 - (wrap64 ((wrap64 (a1_0 - 1)) * a1_2)))) a1_0), 0)))) = some (r1, r2, r3) := by rw [if_neg (show ¬ (false = true) by decide)] at H; exact H
                  clear H
                  have H := H1
                  clear H1
                  by_cases c28 : (wrap64 (a0 - (wrap64 ((wrap64 (a1_0 - 1)) * a1_2)))) < 0
                  · rw [if_pos c28] at H
                    have c28b0 : decide ((wrap64 (a0 - (wrap64 ((wrap64 (a1_0 - 1)) * a1_2)))) < 0) = true := decide_eq_true c28
                    clear c28
                    simp only [Option.some.injEq, Prod.mk.injEq] at H
                    obtain ⟨rfl, rfl, rfl⟩ := H
                    have hcz29_0 : wc.cell? ⟨gb116, 0, none⟩ = some (.int .i64 a1_0) := (blk_cell BK116.out 0).trans rfl
                    have hcz29_1 : wc.cell? ⟨gb116, 1, none⟩ = some (.int .i64 a1_1) := (blk_cell BK116.out 1).trans rfl
                    have hcz29_2 : wc.cell? ⟨gb116, 2, none⟩ = some (.int .i64 a1_2) := (blk_cell BK116.out 2).trans rfl
                    have hcz29_3 : wc.cell? ⟨gb116, 3, none⟩ = some (.int .i64 a1_3) := (blk_cell BK116.out 3).trans rfl
                    have hcz29_4 : wc.cell? ⟨gb116, 4, none⟩ = some (.bool a1_4) := (blk_cell BK116.out 4).trans rfl
                    have hcz29_5 : wc.cell? ⟨gb116, 5, none⟩ = some (.int .i64 a1_5) := (blk_cell BK116.out 5).trans rfl
                    have hcz29_6 : wc.cell? ⟨gb116, 6, none⟩ = some (.int .i64 a1_6) := (blk_cell BK116.out 6).trans rfl
                    have hcz29_7 : wc.cell? ⟨gb116, 7, none⟩ = some (.int .i64 a1_7) := (blk_cell BK116.out 7).trans rfl
                    have hcz29_8 : wc.cell? ⟨gb116, 8, none⟩ = some (.bool a1_8) := (blk_cell BK116.out 8).trans rfl
                    have hcz29_9 : wc.cell? ⟨gb116, 9, none⟩ = some (.int .i64 a1_9) := (blk_cell BK116.out 9).trans rfl
                    have hcz29_10 : wc.cell? ⟨gb116, 10, none⟩ = some (.int .i64 a1_10) := (blk_cell BK116.out 10).trans rfl
                    have hcz29_11 : wc.cell? ⟨gb116, 11, none⟩ = some (.bool a1_11) := (blk_cell BK116.out 11).trans rfl
                    have hcz29_12 : wc.cell? ⟨gb116, 12, none⟩ = some (.int .i64 a1_12) := (blk_cell BK116.out 12).trans rfl
                    have hcz29_13 : wc.cell? ⟨gb116, 13, none⟩ = some (.bool a1_13) := (blk_cell BK116.out 13).trans rfl
                    have hcz29_14 : wc.cell? ⟨gb116, 14, none⟩ = some (.int .i64 a1_14) := (blk_cell BK116.out 14).trans rfl
                    have hcz29_15 : wc.cell? ⟨gb116, 15, none⟩ = some (.int .i64 a1_15) := (blk_cell BK116.out 15).trans rfl
                    have hfz29_0 := blk_frozen BK116.out 0
                    have hfz29_1 := blk_frozen BK116.out 1
                    have hfz29_2 := blk_frozen BK116.out 2
                    have hfz29_3 := blk_frozen BK116.out 3
                    have hfz29_4 := blk_frozen BK116.out 4
                    have hfz29_5 := blk_frozen BK116.out 5
                    have hfz29_6 := blk_frozen BK116.out 6
                    have hfz29_7 := blk_frozen BK116.out 7
                    have hfz29_8 := blk_frozen BK116.out 8
                    have hfz29_9 := blk_frozen BK116.out 9
                    have hfz29_10 := blk_frozen BK116.out 10
                    have hfz29_11 := blk_frozen BK116.out 11
                    have hfz29_12 := blk_frozen BK116.out 12
                    have hfz29_13 := blk_frozen BK116.out 13
                    have hfz29_14 := blk_frozen BK116.out 14
                    have hfz29_15 := blk_frozen BK116.out 15
                    go_wp2
                    repeat (go_quiet (fail); try go_wp2)
                    go_ret3
                    exact ⟨by first | rfl | (simp [errW_none, errW_some] <;> rfl) | (simp [*, errW_none, errW_some] <;> rfl), by repeat (first | (with_reducible first | exact HB.out | apply below_alloc | apply pw_below_drewN | apply below_drew1 | refine below_set ?_ GE116.out) | exact HB.out)⟩
                  · rw [if_neg c28] at H
                    have c28b0 : decide ((wrap64 (a0 - (wrap64 ((wrap64 (a1_0 - 1)) * a1_2)))) < 0) = false := decide_eq_false c28
                    clear c28
                    by_cases c30 : a1_0 = 0
                    · rw [if_pos c30] at H
                      exact absurd H (by simp)
                    · rw [if_neg c30] at H
                      have c30b0 : (a1_0 == 0) = false := beq_eq_false_iff_ne.mpr c30
                      have c30b1 : (a1_0 != 0) = true := bne_iff_ne.mpr c30
                      simp only [Option.some.injEq, Prod.mk.injEq] at H
                      obtain ⟨rfl, rfl, rfl⟩ := H
                      have hcz31_0 : wc.cell? ⟨gb116, 0, none⟩ = some (.int .i64 a1_0) := (blk_cell BK116.out 0).trans rfl
                      have hcz31_1 : wc.cell? ⟨gb116, 1, none⟩ = some (.int .i64 a1_1) := (blk_cell BK116.out 1).trans rfl
                      have hcz31_2 : wc.cell? ⟨gb116, 2, none⟩ = some (.int .i64 a1_2) := (blk_cell BK116.out 2).trans rfl
                      have hcz31_3 : wc.cell? ⟨gb116, 3, none⟩ = some (.int .i64 a1_3) := (blk_cell BK116.out 3).trans rfl
                      have hcz31_4 : wc.cell? ⟨gb116, 4, none⟩ = some (.bool a1_4) := (blk_cell BK116.out 4).trans rfl
                      have hcz31_5 : wc.cell? ⟨gb116, 5, none⟩ = some (.int .i64 a1_5) := (blk_cell BK116.out 5).trans rfl
                      have hcz31_6 : wc.cell? ⟨gb116, 6, none⟩ = some (.int .i64 a1_6) := (blk_cell BK116.out 6).trans rfl
                      have hcz31_7 : wc.cell? ⟨gb116, 7, none⟩ = some (.int .i64 a1_7) := (blk_cell BK116.out 7).trans rfl
                      have hcz31_8 : wc.cell? ⟨gb116, 8, none⟩ = some (.bool a1_8) := (blk_cell BK116.out 8).trans rfl
                      have hcz31_9 : wc.cell? ⟨gb116, 9, none⟩ = some (.int .i64 a1_9) := (blk_cell BK116.out 9).trans rfl
                      have hcz31_10 : wc.cell? ⟨gb116, 10, none⟩ = some (.int .i64 a1_10) := (blk_cell BK116.out 10).trans rfl
                      have hcz31_11 : wc.cell? ⟨gb116, 11, none⟩ = some (.bool a1_11) := (blk_cell BK116.out 11).trans rfl
                      have hcz31_12 : wc.cell? ⟨gb116, 12, none⟩ = some (.int .i64 a1_12) := (blk_cell BK116.out 12).trans rfl
                      have hcz31_13 : wc.cell? ⟨gb116, 13, none⟩ = some (.bool a1_13) := (blk_cell BK116.out 13).trans rfl
                      have hcz31_14 : wc.cell? ⟨gb116, 14, none⟩ = some (.int .i64 a1_14) := (blk_cell BK116.out 14).trans rfl
                      have hcz31_15 : wc.cell? ⟨gb116, 15, none⟩ = some (.int .i64 a1_15) := (blk_cell BK116.out 15).trans rfl
                      have hfz31_0 := blk_frozen BK116.out 0
                      have hfz31_1 := blk_frozen BK116.out 1
                      have hfz31_2 := blk_frozen BK116.out 2
                      have hfz31_3 := blk_frozen BK116.out 3
                      have hfz31_4 := blk_frozen BK116.out 4
                      have hfz31_5 := blk_frozen BK116.out 5
                      have hfz31_6 := blk_frozen BK116.out 6
                      have hfz31_7 := blk_frozen BK116.out 7
                      have hfz31_8 := blk_frozen BK116.out 8
                      have hfz31_9 := blk_frozen BK116.out 9
                      have hfz31_10 := blk_frozen BK116.out 10
                      have hfz31_11 := blk_frozen BK116.out 11
                      have hfz31_12 := blk_frozen BK116.out 12
                      have hfz31_13 := blk_frozen BK116.out 13
                      have hfz31_14 := blk_frozen BK116.out 14
                      have hfz31_15 := blk_frozen BK116.out 15
                      go_wp2
                      repeat (go_quiet (fail); try go_wp2)
                      go_ret3
                      exact ⟨by first | rfl | (simp [errW_none, errW_some] <;> rfl) | (simp [*, errW_none, errW_some] <;> rfl), by repeat (first | (with_reducible first | exact HB.out | apply below_alloc | apply pw_below_drewN | apply below_drew1 | refine below_set ?_ GE116.out) | exact HB.out)⟩
          · rw [if_neg c17] at H
            have c17b0 : decide (0 < a1_1) = false := decide_eq_false c17
            clear c17
            by_cases c32 : (wrap64 (a0 - (wrap64 ((wrap64 (a1_0 - 1)) * a1_2)))) < 0
            · rw [if_pos c32] at H
              have c32b0 : decide ((wrap64 (a0 - (wrap64 ((wrap64 (a1_0 - 1)) * a1_2)))) < 0) = true := decide_eq_true c32
              clear c32
              simp only [Option.some.injEq, Prod.mk.injEq] at H
              obtain ⟨rfl, rfl, rfl⟩ := H
              go_wp2_with (first | (go_at_call 26; (with_reducible refine (gutterref06_size.calls a0 true _ A15.out).mono ?_); rintro e w' ⟨rfl, ⟨nd, rfl⟩⟩; (try first | exact ⟨rfl, _, World.drewN_drewN _ _ _⟩ | exact ⟨rfl, _, Eq.trans (World.drewN_drewN _ _ _) (congrArg (World.drewN _) (Nat.add_assoc _ _ _))⟩); have hcz33_0 : wc.cell? ⟨gb116, 0, none⟩ = some (.int .i64 a1_0) := (blk_cell BK116.out 0).trans rfl; have hcz33_1 : wc.cell? ⟨gb116, 1, none⟩ = some (.int .i64 a1_1) := (blk_cell BK116.out 1).trans rfl; have hcz33_2 : wc.cell? ⟨gb116, 2, none⟩ = some (.int .i64 a1_2) := (blk_cell BK116.out 2).trans rfl; have hcz33_3 : wc.cell? ⟨gb116, 3, none⟩ = some (.int .i64 a1_3) := (blk_cell BK116.out 3).trans rfl; have hcz33_4 : wc.cell? ⟨gb116, 4, none⟩ = some (.bool a1_4) := (blk_cell BK116.out 4).trans rfl; have hcz33_5 : wc.cell? ⟨gb116, 5, none⟩ = some (.int .i64 a1_5) := (blk_cell BK116.out 5).trans rfl; have hcz33_6 : wc.cell? ⟨gb116, 6, none⟩ = some (.int .i64 a1_6) := (blk_cell BK116.out 6).trans rfl; have hcz33_7 : wc.cell? ⟨gb116, 7, none⟩ = some (.int .i64 a1_7) := (blk_cell BK116.out 7).trans rfl; have hcz33_8 : wc.cell? ⟨gb116, 8, none⟩ = some (.bool a1_8) := (blk_cell BK116.out 8).trans rfl; have hcz33_9 : wc.cell? ⟨gb116, 9, none⟩ = some (.int .i64 a1_9) := (blk_cell BK116.out 9).trans rfl; have hcz33_10 : wc.cell? ⟨gb116, 10, none⟩ = some (.int .i64 a1_10) := (blk_cell BK116.out 10).trans rfl; have hcz33_11 : wc.cell? ⟨gb116, 11, none⟩ = some (.bool a1_11) := (blk_cell BK116.out 11).trans rfl; have hcz33_12 : wc.cell? ⟨gb116, 12, none⟩ = some (.int .i64 a1_12) := (blk_cell BK116.out 12).trans rfl; have hcz33_13 : wc.cell? ⟨gb116, 13, none⟩ = some (.bool a1_13) := (blk_cell BK116.out 13).trans rfl; have hcz33_14 : wc.cell? ⟨gb116, 14, none⟩ = some (.int .i64 a1_14) := (blk_cell BK116.out 14).trans rfl; have hcz33_15 : wc.cell? ⟨gb116, 15, none⟩ = some (.int .i64 a1_15) := (blk_cell BK116.out 15).trans rfl; have hfz33_0 := blk_frozen BK116.out 0; have hfz33_1 := blk_frozen BK116.out 1; have hfz33_2 := blk_frozen BK116.out 2; have hfz33_3 := blk_frozen BK116.out 3; have hfz33_4 := blk_frozen BK116.out 4; have hfz33_5 := blk_frozen BK116.out 5; have hfz33_6 := blk_frozen BK116.out 6; have hfz33_7 := blk_frozen BK116.out 7; have hfz33_8 := blk_frozen BK116.out 8; have hfz33_9 := blk_frozen BK116.out 9; have hfz33_10 := blk_frozen BK116.out 10; have hfz33_11 := blk_frozen BK116.out 11; have hfz33_12 := blk_frozen BK116.out 12; have hfz33_13 := blk_frozen BK116.out 13; have hfz33_14 := blk_frozen BK116.out 14; have hfz33_15 := blk_frozen BK116.out 15))
              repeat (go_quiet (first | (go_at_call 26; (with_reducible refine (gutterref06_size.calls a0 true _ A15.out).mono ?_); rintro e w' ⟨rfl, ⟨nd, rfl⟩⟩; (try first | exact ⟨rfl, _, World.drewN_drewN _ _ _⟩ | exact ⟨rfl, _, Eq.trans (World.drewN_drewN _ _ _) (congrArg (World.drewN _) (Nat.add_assoc _ _ _))⟩); have hcz33_0 : wc.cell? ⟨gb116, 0, none⟩ = some (.int .i64 a1_0) := (blk_cell BK116.out 0).trans rfl; have hcz33_1 : wc.cell? ⟨gb116, 1, none⟩ = some (.int .i64 a1_1) := (blk_cell BK116.out 1).trans rfl; have hcz33_2 : wc.cell? ⟨gb116, 2, none⟩ = some (.int .i64 a1_2) := (blk_cell BK116.out 2).trans rfl; have hcz33_3 : wc.cell? ⟨gb116, 3, none⟩ = some (.int .i64 a1_3) := (blk_cell BK116.out 3).trans rfl; have hcz33_4 : wc.cell? ⟨gb116, 4, none⟩ = some (.bool a1_4) := (blk_cell BK116.out 4).trans rfl; have hcz33_5 : wc.cell? ⟨gb116, 5, none⟩ = some (.int .i64 a1_5) := (blk_cell BK116.out 5).trans rfl; have hcz33_6 : wc.cell? ⟨gb116, 6, none⟩ = some (.int .i64 a1_6) := (blk_cell BK116.out 6).trans rfl; have hcz33_7 : wc.cell? ⟨gb116, 7, none⟩ = some (.int .i64 a1_7) := (blk_cell BK116.out 7).trans rfl; have hcz33_8 : wc.cell? ⟨gb116, 8, none⟩ = some (.bool a1_8) := (blk_cell BK116.out 8).trans rfl; have hcz33_9 : wc.cell? ⟨gb116, 9, none⟩ = some (.int .i64 a1_9) := (blk_cell BK116.out 9).trans rfl; have hcz33_10 : wc.cell? ⟨gb116, 10, none⟩ = some (.int .i64 a1_10) := (blk_cell BK116.out 10).trans rfl; have hcz33_11 : wc.cell? ⟨gb116, 11, none⟩ = some (.bool a1_11) := (blk_cell BK116.out 11).trans rfl; have hcz33_12 : wc.cell? ⟨gb116, 12, none⟩ = some (.int .i64 a1_12) := (blk_cell BK116.out 12).trans rfl; have hcz33_13 : wc.cell? ⟨gb116, 13, none⟩ = some (.bool a1_13) := (blk_cell BK116.out 13).trans rfl; have hcz33_14 : wc.cell? ⟨gb116, 14, none⟩ = some (.int .i64 a1_14) := (blk_cell BK116.out 14).trans rfl; have hcz33_15 : wc.cell? ⟨gb116, 15, none⟩ = some (.int .i64 a1_15) := (blk_cell BK116.out 15).trans rfl; have hfz33_0 := blk_frozen BK116.out 0; have hfz33_1 := blk_frozen BK116.out 1; have hfz33_2 := blk_frozen BK116.out 2; have hfz33_3 := blk_frozen BK116.out 3; have hfz33_4 := blk_frozen BK116.out 4; have hfz33_5 := blk_frozen BK116.out 5; have hfz33_6 := blk_frozen BK116.out 6; have hfz33_7 := blk_frozen BK116.out 7; have hfz33_8 := blk_frozen BK116.out 8; have hfz33_9 := blk_frozen BK116.out 9; have hfz33_10 := blk_frozen BK116.out 10; have hfz33_11 := blk_frozen BK116.out 11; have hfz33_12 := blk_frozen BK116.out 12; have hfz33_13 := blk_frozen BK116.out 13; have hfz33_14 := blk_frozen BK116.out 14; have hfz33_15 := blk_frozen BK116.out 15)); try go_wp2_with (first | (go_at_call 26; (with_reducible refine (gutterref06_size.calls a0 true _ A15.out).mono ?_); rintro e w' ⟨rfl, ⟨nd, rfl⟩⟩; (try first | exact ⟨rfl, _, World.drewN_drewN _ _ _⟩ | exact ⟨rfl, _, Eq.trans (World.drewN_drewN _ _ _) (congrArg (World.drewN _) (Nat.add_assoc _ _ _))⟩); have hcz33_0 : wc.cell? ⟨gb116, 0, none⟩ = some (.int .i64 a1_0) := (blk_cell BK116.out 0).trans rfl; have hcz33_1 : wc.cell? ⟨gb116, 1, none⟩ = some (.int .i64 a1_1) := (blk_cell BK116.out 1).trans rfl; have hcz33_2 : wc.cell? ⟨gb116, 2, none⟩ = some (.int .i64 a1_2) := (blk_cell BK116.out 2).trans rfl; have hcz33_3 : wc.cell? ⟨gb116, 3, none⟩ = some (.int .i64 a1_3) := (blk_cell BK116.out 3).trans rfl; have hcz33_4 : wc.cell? ⟨gb116, 4, none⟩ = some (.bool a1_4) := (blk_cell BK116.out 4).trans rfl; have hcz33_5 : wc.cell? ⟨gb116, 5, none⟩ = some (.int .i64 a1_5) := (blk_cell BK116.out 5).trans rfl; have hcz33_6 : wc.cell? ⟨gb116, 6, none⟩ = some (.int .i64 a1_6) := (blk_cell BK116.out 6).trans rfl; have hcz33_7 : wc.cell? ⟨gb116, 7, none⟩ = some (.int .i64 a1_7) := (blk_cell BK116.out 7).trans rfl; have hcz33_8 : wc.cell? ⟨gb116, 8, none⟩ = some (.bool a1_8) := (blk_cell BK116.out 8).trans rfl; have hcz33_9 : wc.cell? ⟨gb116, 9, none⟩ = some (.int .i64 a1_9) := (blk_cell BK116.out 9).trans rfl; have hcz33_10 : wc.cell? ⟨gb116, 10, none⟩ = some (.int .i64 a1_10) := (blk_cell BK116.out 10).trans rfl; have hcz33_11 : wc.cell? ⟨gb116, 11, none⟩ = some (.bool a1_11) := (blk_cell BK116.out 11).trans rfl; have hcz33_12 : wc.cell? ⟨gb116, 12, none⟩ = some (.int .i64 a1_12) := (blk_cell BK116.out 12).trans rfl; have hcz33_13 : wc.cell? ⟨gb116, 13, none⟩ = some (.bool a1_13) := (blk_cell BK116.out 13).trans rfl; have hcz33_14 : wc.cell? ⟨gb116, 14, none⟩ = some (.int .i64 a1_14) := (blk_cell BK116.out 14).trans rfl; have hcz33_15 : wc.cell? ⟨gb116, 15, none⟩ = some (.int .i64 a1_15) := (blk_cell BK116.out 15).trans rfl; have hfz33_0 := blk_frozen BK116.out 0; have hfz33_1 := blk_frozen BK116.out 1; have hfz33_2 := blk_frozen BK116.out 2; have hfz33_3 := blk_frozen BK116.out 3; have hfz33_4 := blk_frozen BK116.out 4; have hfz33_5 := blk_frozen BK116.out 5; have hfz33_6 := blk_frozen BK116.out 6; have hfz33_7 := blk_frozen BK116.out 7; have hfz33_8 := blk_frozen BK116.out 8; have hfz33_9 := blk_frozen BK116.out 9; have hfz33_10 := blk_frozen BK116.out 10; have hfz33_11 := blk_frozen BK116.out 11; have hfz33_12 := blk_frozen BK116.out 12; have hfz33_13 := blk_frozen BK116.out 13; have hfz33_14 := blk_frozen BK116.out 14; have hfz33_15 := blk_frozen BK116.out 15)))
              go_ret3
              exact ⟨by first | rfl | (simp [errW_none, errW_some] <;> rfl) | (simp [*, errW_none, errW_some] <;> rfl), by repeat (first | (with_reducible first | exact HB.out | apply below_alloc | apply pw_below_drewN | apply below_drew1 | refine below_set ?_ GE116.out) | exact HB.out)⟩
            · rw [if_neg c32] at H
              have c32b0 : decide ((wrap64 (a0 - (wrap64 ((wrap64 (a1_0 - 1)) * a1_2)))) < 0) = false := decide_eq_false c32
              clear c32
              by_cases c34 : a1_0 = 0
              · rw [if_pos c34] at H
                exact absurd H (by simp)
              · rw [if_neg c34] at H
                have c34b0 : (a1_0 == 0) = false := beq_eq_false_iff_ne.mpr c34
                have c34b1 : (a1_0 != 0) = true := bne_iff_ne.mpr c34
                simp only [Option.some.injEq, Prod.mk.injEq] at H
                obtain ⟨rfl, rfl, rfl⟩ := H
                go_wp2_with (first | (go_at_call 26; (with_reducible refine (gutterref06_size.calls a0 true _ A15.out).mono ?_); rintro e w' ⟨rfl, ⟨nd, rfl⟩⟩; (try first | exact ⟨rfl, _, World.drewN_drewN _ _ _⟩ | exact ⟨rfl, _, Eq.trans (World.drewN_drewN _ _ _) (congrArg (World.drewN _) (Nat.add_assoc _ _ _))⟩); have hcz35_0 : wc.cell? ⟨gb116, 0, none⟩ = some (.int .i64 a1_0) := (blk_cell BK116.out 0).trans rfl; have hcz35_1 : wc.cell? ⟨gb116, 1, none⟩ = some (.int .i64 a1_1) := (blk_cell BK116.out 1).trans rfl; have hcz35_2 : wc.cell? ⟨gb116, 2, none⟩ = some (.int .i64 a1_2) := (blk_cell BK116.out 2).trans rfl; have hcz35_3 : wc.cell? ⟨gb116, 3, none⟩ = some (.int .i64 a1_3) := (blk_cell BK116.out 3).trans rfl; have hcz35_4 : wc.cell? ⟨gb116, 4, none⟩ = some (.bool a1_4) := (blk_cell BK116.out 4).trans rfl; have hcz35_5 : wc.cell? ⟨gb116, 5, none⟩ = some (.int .i64 a1_5) := (blk_cell BK116.out 5).trans rfl; have hcz35_6 : wc.cell? ⟨gb116, 6, none⟩ = some (.int .i64 a1_6) := (blk_cell BK116.out 6).trans rfl; have hcz35_7 : wc.cell? ⟨gb116, 7, none⟩ = some (.int .i64 a1_7) := (blk_cell BK116.out 7).trans rfl; have hcz35_8 : wc.cell? ⟨gb116, 8, none⟩ = some (.bool a1_8) := (blk_cell BK116.out 8).trans rfl; have hcz35_9 : wc.cell? ⟨gb116, 9, none⟩ = some (.int .i64 a1_9) := (blk_cell BK116.out 9).trans rfl; have hcz35_10 : wc.cell? ⟨gb116, 10, none⟩ = some (.int .i64 a1_10) := (blk_cell BK116.out 10).trans rfl; have hcz35_11 : wc.cell? ⟨gb116, 11, none⟩ = some (.bool a1_11) := (blk_cell BK116.out 11).trans rfl; have hcz35_12 : wc.cell? ⟨gb116, 12, none⟩ = some (.int .i64 a1_12) := (blk_cell BK116.out 12).trans rfl; have hcz35_13 : wc.cell? ⟨gb116, 13, none⟩ = some (.bool a1_13) := (blk_cell BK116.out 13).trans rfl; have hcz35_14 : wc.cell? ⟨gb116, 14, none⟩ = some (.int .i64 a1_14) := (blk_cell BK116.out 14).trans rfl; have hcz35_15 : wc.cell? ⟨gb116, 15, none⟩ = some (.int .i64 a1_15) := (blk_cell BK116.out 15).trans rfl; have hfz35_0 := blk_frozen BK116.out 0; have hfz35_1 := blk_frozen BK116.out 1; have hfz35_2 := blk_frozen BK116.out 2; have hfz35_3 := blk_frozen BK116.out 3; have hfz35_4 := blk_frozen BK116.out 4; have hfz35_5 := blk_frozen BK116.out 5; have hfz35_6 := blk_frozen BK116.out 6; have hfz35_7 := blk_frozen BK116.out 7; have hfz35_8 := blk_frozen BK116.out 8; have hfz35_9 := blk_frozen BK116.out 9; have hfz35_10 := blk_frozen BK116.out 10; have hfz35_11 := blk_frozen BK116.out 11; have hfz35_12 := blk_frozen BK116.out 12; have hfz35_13 := blk_frozen BK116.out 13; have hfz35_14 := blk_frozen BK116.out 14; have hfz35_15 := blk_frozen BK116.out 15))
                repeat (go_quiet (first | (go_at_call 26; (with_reducible refine (gutterref06_size.calls a0 true _ A15.out).mono ?_); rintro e w' ⟨rfl, ⟨nd, rfl⟩⟩; (try first | exact ⟨rfl, _, World.drewN_drewN _ _ _⟩ | exact ⟨rfl, _, Eq.trans (World.drewN_drewN _ _ _) (congrArg (World.drewN _) (Nat.add_assoc _ _ _))⟩); have hcz35_0 : wc.cell? ⟨gb116, 0, none⟩ = some (.int .i64 a1_0) := (blk_cell BK116.out 0).trans rfl; have hcz35_1 : wc.cell? ⟨gb116, 1, none⟩ = some (.int .i64 a1_1) := (blk_cell BK116.out 1).trans rfl; have hcz35_2 : wc.cell? ⟨gb116, 2, none⟩ = some (.int .i64 a1_2) := (blk_cell BK116.out 2).trans rfl; have hcz35_3 : wc.cell? ⟨gb116, 3, none⟩ = some (.int .i64 a1_3) := (blk_cell BK116.out 3).trans rfl; have hcz35_4 : wc.cell? ⟨gb116, 4, none⟩ = some (.bool a1_4) := (blk_cell BK116.out 4).trans rfl; have hcz35_5 : wc.cell? ⟨gb116, 5, none⟩ = some (.int .i64 a1_5) := (blk_cell BK116.out 5).trans rfl; have hcz35_6 : wc.cell? ⟨gb116, 6, none⟩ = some (.int .i64 a1_6) := (blk_cell BK116.out 6).trans rfl; have hcz35_7 : wc.cell? ⟨gb116, 7, none⟩ = some (.int .i64 a1_7) := (blk_cell BK116.out 7).trans rfl; have hcz35_8 : wc.cell? ⟨gb116, 8, none⟩ = some (.bool a1_8) := (blk_cell BK116.out 8).trans rfl; have hcz35_9 : wc.cell? ⟨gb116, 9, none⟩ = some (.int .i64 a1_9) := (blk_cell BK116.out 9).trans rfl; have hcz35_10 : wc.cell? ⟨gb116, 10, none⟩ = some (.int .i64 a1_10) := (blk_cell BK116.out 10).trans rfl; have hcz35_11 : wc.cell? ⟨gb116, 11, none⟩ = some (.bool a1_11) := (blk_cell BK116.out 11).trans rfl; have hcz35_12 : wc.cell? ⟨gb116, 12, none⟩ = some (.int .i64 a1_12) := (blk_cell BK116.out 12).trans rfl; have hcz35_13 : wc.cell? ⟨gb116, 13, none⟩ = some (.bool a1_13) := (blk_cell BK116.out 13).trans rfl; have hcz35_14 : wc.cell? ⟨gb116, 14, none⟩ = some (.int .i64 a1_14) := (blk_cell BK116.out 14).trans rfl; have hcz35_15 : wc.cell? ⟨gb116, 15, none⟩ = some (.int .i64 a1_15) := (blk_cell BK116.out 15).trans rfl; have hfz35_0 := blk_frozen BK116.out 0; have hfz35_1 := blk_frozen BK116.out 1; have hfz35_2 := blk_frozen BK116.out 2; have hfz35_3 := blk_frozen BK116.out 3; have hfz35_4 := blk_frozen BK116.out 4; have hfz35_5 := blk_frozen BK116.out 5; have hfz35_6 := blk_frozen BK116.out 6; have hfz35_7 := blk_frozen BK116.out 7; have hfz35_8 := blk_frozen BK116.out 8; have hfz35_9 := blk_frozen BK116.out 9; have hfz35_10 := blk_frozen BK116.out 10; have hfz35_11 := blk_frozen BK116.out 11; have hfz35_12 := blk_frozen BK116.out 12; have hfz35_13 := blk_frozen BK116.out 13; have hfz35_14 := blk_frozen BK116.out 14; have hfz35_15 := blk_frozen BK116.out 15)); try go_wp2_with (first | (go_at_call 26; (with_reducible refine (gutterref06_size.calls a0 true _ A15.out).mono ?_); rintro e w' ⟨rfl, ⟨nd, rfl⟩⟩; (try first | exact ⟨rfl, _, World.drewN_drewN _ _ _⟩ | exact ⟨rfl, _, Eq.trans (World.drewN_drewN _ _ _) (congrArg (World.drewN _) (Nat.add_assoc _ _ _))⟩); have hcz35_0 : wc.cell? ⟨gb116, 0, none⟩ = some (.int .i64 a1_0) := (blk_cell BK116.out 0).trans rfl; have hcz35_1 : wc.cell? ⟨gb116, 1, none⟩ = some (.int .i64 a1_1) := (blk_cell BK116.out 1).trans rfl; have hcz35_2 : wc.cell? ⟨gb116, 2, none⟩ = some (.int .i64 a1_2) := (blk_cell BK116.out 2).trans rfl; have hcz35_3 : wc.cell? ⟨gb116, 3, none⟩ = some (.int .i64 a1_3) := (blk_cell BK116.out 3).trans rfl; have hcz35_4 : wc.cell? ⟨gb116, 4, none⟩ = some (.bool a1_4) := (blk_cell BK116.out 4).trans rfl; have hcz35_5 : wc.cell? ⟨gb116, 5, none⟩ = some (.int .i64 a1_5) := (blk_cell BK116.out 5).trans rfl; have hcz35_6 : wc.cell? ⟨gb116, 6, none⟩ = some (.int .i64 a1_6) := (blk_cell BK116.out 6).trans rfl; have hcz35_7 : wc.cell? ⟨gb116, 7, none⟩ = some (.int .i64 a1_7) := (blk_cell BK116.out 7).trans rfl; have hcz35_8 : wc.cell? ⟨gb116, 8, none⟩ = some (.bool a1_8) := (blk_cell BK116.out 8).trans rfl; have hcz35_9 : wc.cell? ⟨gb116, 9, none⟩ = some (.int .i64 a1_9) := (blk_cell BK116.out 9).trans rfl; have hcz35_10 : wc.cell? ⟨gb116, 10, none⟩ = some (.int .i64 a1_10) := (blk_cell BK116.out 10).trans rfl; have hcz35_11 : wc.cell? ⟨gb116, 11, none⟩ = some (.bool a1_11) := (blk_cell BK116.out 11).trans rfl; have hcz35_12 : wc.cell? ⟨gb116, 12, none⟩ = some (.int .i64 a1_12) := (blk_cell BK116.out 12).trans rfl; have hcz35_13 : wc.cell? ⟨gb116, 13, none⟩ = some (.bool a1_13) := (blk_cell BK116.out 13).trans rfl; have hcz35_14 : wc.cell? ⟨gb116, 14, none⟩ = some (.int .i64 a1_14) := (blk_cell BK116.out 14).trans rfl; have hcz35_15 : wc.cell? ⟨gb116, 15, none⟩ = some (.int .i64 a1_15) := (blk_cell BK116.out 15).trans rfl; have hfz35_0 := blk_frozen BK116.out 0; have hfz35_1 := blk_frozen BK116.out 1; have hfz35_2 := blk_frozen BK116.out 2; have hfz35_3 := blk_frozen BK116.out 3; have hfz35_4 := blk_frozen BK116.out 4; have hfz35_5 := blk_frozen BK116.out 5; have hfz35_6 := blk_frozen BK116.out 6; have hfz35_7 := blk_frozen BK116.out 7; have hfz35_8 := blk_frozen BK116.out 8; have hfz35_9 := blk_frozen BK116.out 9; have hfz35_10 := blk_frozen BK116.out 10; have hfz35_11 := blk_frozen BK116.out 11; have hfz35_12 := blk_frozen BK116.out 12; have hfz35_13 := blk_frozen BK116.out 13; have hfz35_14 := blk_frozen BK116.out 14; have hfz35_15 := blk_frozen BK116.out 15)))
                go_ret3
                exact ⟨by first | rfl | (simp [errW_none, errW_some] <;> rfl) | (simp [*, errW_none, errW_some] <;> rfl), by repeat (first | (with_reducible first | exact HB.out | apply below_alloc | apply pw_below_drewN | apply below_drew1 | refine below_set ?_ GE116.out) | exact HB.out)⟩
        · replace c16 := Bool.eq_false_iff.mpr c16
          subst c16
          have H1 : (some (0, 0, 60)) = some (r1, r2, r3) := by rw [if_neg (show ¬ (false = true) by decide)] at H; exact H
          clear H
          have H := H1
          clear H1
          simp only [Option.some.injEq, Prod.mk.injEq] at H
          obtain ⟨rfl, rfl, rfl⟩ := H
          go_wp2_with (first | (go_at_call 26; (with_reducible refine (gutterref06_size.calls a0 false _ A15.out).mono ?_); rintro e w' ⟨rfl, ⟨nd, rfl⟩⟩; (try first | exact ⟨rfl, _, World.drewN_drewN _ _ _⟩ | exact ⟨rfl, _, Eq.trans (World.drewN_drewN _ _ _) (congrArg (World.drewN _) (Nat.add_assoc _ _ _))⟩)))
          repeat (go_quiet (first | (go_at_call 26; (with_reducible refine (gutterref06_size.calls a0 false _ A15.out).mono ?_); rintro e w' ⟨rfl, ⟨nd, rfl⟩⟩; (try first | exact ⟨rfl, _, World.drewN_drewN _ _ _⟩ | exact ⟨rfl, _, Eq.trans (World.drewN_drewN _ _ _) (congrArg (World.drewN _) (Nat.add_assoc _ _ _))⟩))); try go_wp2_with (first | (go_at_call 26; (with_reducible refine (gutterref06_size.calls a0 false _ A15.out).mono ?_); rintro e w' ⟨rfl, ⟨nd, rfl⟩⟩; (try first | exact ⟨rfl, _, World.drewN_drewN _ _ _⟩ | exact ⟨rfl, _, Eq.trans (World.drewN_drewN _ _ _) (congrArg (World.drewN _) (Nat.add_assoc _ _ _))⟩))))
          go_ret3
          exact ⟨by first | rfl | (simp [errW_none, errW_some] <;> rfl) | (simp [*, errW_none, errW_some] <;> rfl), by repeat (first | (with_reducible first | exact HB.out | apply below_alloc | apply pw_below_drewN | apply below_drew1 | refine below_set ?_ GE116.out) | exact HB.out)⟩

end Go.Proofs.YtjaoaakljcnmeaaDoor.G
