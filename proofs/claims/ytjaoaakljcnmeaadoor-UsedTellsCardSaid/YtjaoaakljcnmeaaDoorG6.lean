/- Functions of the law and of what it calls as plain Lean functions, and that the calls come to their answers: written by fprint.py. -/
import Derived.Test.YtjaoaakljcnmeaaDoorF14
import Derived.Test.YtjaoaakljcnmeaaDoorG0
import Derived.Test.YtjaoaakljcnmeaaDoorG5
namespace Go.Proofs.YtjaoaakljcnmeaaDoor.G
open Go.RowKit Go.Proofs.YtjaoaakljcnmeaaDoorW.PrintWords Go.Proofs.YtjaoaakljcnmeaaDoorW.PrintLast Go.Proofs.YtjaoaakljcnmeaaDoorW.PrintMore
attribute [local go_sem] max2_int min2_int max_two min_two max_three min_three max_four min_four   -- for this text's walks alone
set_option linter.unusedVariables false
set_option linter.unusedSimpArgs false

/-! ### gutterref06_Left: function 17 -/
def gutterref06_Left.f (k : Nat) (a0 : Int) (a1_0 : Int) (a1_1 : Int) (a1_2 : Int) (a1_3 : Int) (a1_4 : Bool) (a1_5 : Int) (a1_6 : Int) (a1_7 : Int) (a1_8 : Bool) (a1_9 : Int) (a1_10 : Int) (a1_11 : Bool) (a1_12 : Int) (a1_13 : Bool) (a1_14 : Int) (a1_15 : Int) (a2 : Int) : Option (Int × Int) := (gutterref06_Used.f k a0 a1_0 a1_1 a1_2 a1_3 a1_4 a1_5 a1_6 a1_7 a1_8 a1_9 a1_10 a1_11 a1_12 a1_13 a1_14 a1_15).bind fun bt123 => (if bt123.2.2 = 0 then (if a2 < 0 then (some (0, 2)) else (if a2 > 1000 then (some (0, 2)) else (some (wrap64 (a2 * (wrap64 (bt123.2.1 + a1_2))), 0)))) else (some (0, bt123.2.2)))
theorem gutterref06_Left.mono : ∀ a0 a1 a2 a3 a4 a5 a6 a7 a8 a9 a10 a11 a12 a13 a14 a15 a16 a17 k, LeO (gutterref06_Left.f k a0 a1 a2 a3 a4 a5 a6 a7 a8 a9 a10 a11 a12 a13 a14 a15 a16 a17) (gutterref06_Left.f (k + 1) a0 a1 a2 a3 a4 a5 a6 a7 a8 a9 a10 a11 a12 a13 a14 a15 a16 a17) := by
  intro a0 a1 a2 a3 a4 a5 a6 a7 a8 a9 a10 a11 a12 a13 a14 a15 a16 a17 k
  unfold gutterref06_Left.f
  repeat' first
      | (with_reducible exact gutterref06_Used.mono _ _ _ _ _ _ _ _ _ _ _ _ _ _ _ _ _ _)
      | (with_reducible exact LeO.refl _)
      | (with_reducible exact LeO.none _)
      | (with_reducible refine LeO.ite ?_ ?_)
      | (with_reducible refine LeO.bind ?_ (fun _ => ?_))
      | exact gutterref06_Used.mono _ _ _ _ _ _ _ _ _ _ _ _ _ _ _ _ _ _
      | exact LeO.none _
      | refine LeO.ite ?_ ?_
      | refine LeO.bind ?_ (fun _ => ?_)
set_option maxHeartbeats 8000000 in
set_option maxRecDepth 100000 in
theorem gutterref06_Left.calls (k : Nat) (a0 : Int) (a1_0 : Int) (a1_1 : Int) (a1_2 : Int) (a1_3 : Int) (a1_4 : Bool) (a1_5 : Int) (a1_6 : Int) (a1_7 : Int) (a1_8 : Bool) (a1_9 : Int) (a1_10 : Int) (a1_11 : Bool) (a1_12 : Int) (a1_13 : Bool) (a1_14 : Int) (a1_15 : Int) (a2 : Int) (r1 : Int) (r2 : Int) (w : World) (h : gutterref06_Left.f k a0 a1_0 a1_1 a1_2 a1_3 a1_4 a1_5 a1_6 a1_7 a1_8 a1_9 a1_10 a1_11 a1_12 a1_13 a1_14 a1_15 a2 = some (r1, r2)) :
    Calls Tryd.prog 17 #[.int .i64 a0, .agg #[.int .i64 a1_0, .int .i64 a1_1, .int .i64 a1_2, .int .i64 a1_3, .bool a1_4, .int .i64 a1_5, .int .i64 a1_6, .int .i64 a1_7, .bool a1_8, .int .i64 a1_9, .int .i64 a1_10, .bool a1_11, .int .i64 a1_12, .bool a1_13, .int .i64 a1_14, .int .i64 a1_15], .int .i64 a2] w fun e w' => e = .returned (.tuple #[.int .i64 r1, .int .i64 r2]) ∧ Below w.heap.size w w' := by
  have hu23 := Tryd.underlying23
  have HB := Aside0.mk (Below.refl w.heap.size w)
  have H : ((gutterref06_Used.f k a0 a1_0 a1_1 a1_2 a1_3 a1_4 a1_5 a1_6 a1_7 a1_8 a1_9 a1_10 a1_11 a1_12 a1_13 a1_14 a1_15).bind fun bt123 => (if bt123.2.2 = 0 then (if a2 < 0 then (some (0, 2)) else (if a2 > 1000 then (some (0, 2)) else (some (wrap64 (a2 * (wrap64 (bt123.2.1 + a1_2))), 0)))) else (some (0, bt123.2.2)))) = some (r1, r2) := h
  clear h
  replace H := Option.bind_eq_some_iff.mp H
  obtain ⟨⟨t123, t124, t125⟩, A40, H⟩ := H
  replace H : (if t125 = 0 then (if a2 < 0 then (some (0, 2)) else (if a2 > 1000 then (some (0, 2)) else (some (wrap64 (a2 * (wrap64 (t124 + a1_2))), 0)))) else (some (0, t125))) = some (r1, r2) := H
  have A4 := Aside0.mk A40
  clear A40
  by_cases c5 : t125 = 0
  · rw [if_pos c5] at H
    have c5b0 : (t125 == 0) = true := beq_iff_eq.mpr c5
    have c5b1 : (t125 != 0) = false := bne_eq_false_iff_eq.mpr c5
    clear c5
    by_cases c6 : a2 < 0
    · rw [if_pos c6] at H
      have c6b0 : decide (a2 < 0) = true := decide_eq_true c6
      clear c6
      simp only [Option.some.injEq, Prod.mk.injEq] at H
      obtain ⟨rfl, rfl⟩ := H
      go_enter Tryd.func17, Tryd.ntmps17
      go_wp2_with (first | ((with_reducible refine gate_dst (N := 4) rfl ?_); refine box_event ?hg (N := 4) ?hd (cs := #[.int .i64 a1_0, .int .i64 a1_1, .int .i64 a1_2, .int .i64 a1_3, .bool a1_4, .int .i64 a1_5, .int .i64 a1_6, .int .i64 a1_7, .bool a1_8, .int .i64 a1_9, .int .i64 a1_10, .bool a1_11, .int .i64 a1_12, .bool a1_13, .int .i64 a1_14, .int .i64 a1_15]) (t := 23) ?hr ?_; (case hd => rfl); (case hg => rfl); (case hr => first | (go_simp; done) | (go_simp; rfl)); intro gb122 hg w7 hbox hb; have n0_ := Aside0.mk (below_step (by repeat (first | (with_reducible first | exact HB.out | apply below_alloc | apply pw_below_drewN | apply below_drew1) | exact HB.out)) hb); have n1_ := Aside0.mk (hbox); have n2_ := Aside0.mk ((by rw [hg]; exact (below_size (by repeat (first | (with_reducible first | exact HB.out | apply below_alloc | apply pw_below_drewN | apply below_drew1) | exact HB.out))) : w.heap.size ≤ gb122)); have n3_ := Aside0.mk ((by rw [hg]; exact (below_size (by repeat (first | (with_reducible first | exact HB.out | apply below_alloc | apply pw_below_drewN | apply below_drew1) | exact HB.out))) : w.heap.size ≤ gb122)); clear HB; have HB := n0_; have BK122 := n1_; have GW122 := n2_; have GE122 := n3_; clear n0_ n1_ n2_ n3_; clear hb hbox hg; have hcz8_0 : w7.cell? ⟨gb122, 0, none⟩ = some (.int .i64 a1_0) := (blk_cell BK122.out 0).trans rfl; have hcz8_1 : w7.cell? ⟨gb122, 1, none⟩ = some (.int .i64 a1_1) := (blk_cell BK122.out 1).trans rfl; have hcz8_2 : w7.cell? ⟨gb122, 2, none⟩ = some (.int .i64 a1_2) := (blk_cell BK122.out 2).trans rfl; have hcz8_3 : w7.cell? ⟨gb122, 3, none⟩ = some (.int .i64 a1_3) := (blk_cell BK122.out 3).trans rfl; have hcz8_4 : w7.cell? ⟨gb122, 4, none⟩ = some (.bool a1_4) := (blk_cell BK122.out 4).trans rfl; have hcz8_5 : w7.cell? ⟨gb122, 5, none⟩ = some (.int .i64 a1_5) := (blk_cell BK122.out 5).trans rfl; have hcz8_6 : w7.cell? ⟨gb122, 6, none⟩ = some (.int .i64 a1_6) := (blk_cell BK122.out 6).trans rfl; have hcz8_7 : w7.cell? ⟨gb122, 7, none⟩ = some (.int .i64 a1_7) := (blk_cell BK122.out 7).trans rfl; have hcz8_8 : w7.cell? ⟨gb122, 8, none⟩ = some (.bool a1_8) := (blk_cell BK122.out 8).trans rfl; have hcz8_9 : w7.cell? ⟨gb122, 9, none⟩ = some (.int .i64 a1_9) := (blk_cell BK122.out 9).trans rfl; have hcz8_10 : w7.cell? ⟨gb122, 10, none⟩ = some (.int .i64 a1_10) := (blk_cell BK122.out 10).trans rfl; have hcz8_11 : w7.cell? ⟨gb122, 11, none⟩ = some (.bool a1_11) := (blk_cell BK122.out 11).trans rfl; have hcz8_12 : w7.cell? ⟨gb122, 12, none⟩ = some (.int .i64 a1_12) := (blk_cell BK122.out 12).trans rfl; have hcz8_13 : w7.cell? ⟨gb122, 13, none⟩ = some (.bool a1_13) := (blk_cell BK122.out 13).trans rfl; have hcz8_14 : w7.cell? ⟨gb122, 14, none⟩ = some (.int .i64 a1_14) := (blk_cell BK122.out 14).trans rfl; have hcz8_15 : w7.cell? ⟨gb122, 15, none⟩ = some (.int .i64 a1_15) := (blk_cell BK122.out 15).trans rfl; have hfz8_0 := blk_frozen BK122.out 0; have hfz8_1 := blk_frozen BK122.out 1; have hfz8_2 := blk_frozen BK122.out 2; have hfz8_3 := blk_frozen BK122.out 3; have hfz8_4 := blk_frozen BK122.out 4; have hfz8_5 := blk_frozen BK122.out 5; have hfz8_6 := blk_frozen BK122.out 6; have hfz8_7 := blk_frozen BK122.out 7; have hfz8_8 := blk_frozen BK122.out 8; have hfz8_9 := blk_frozen BK122.out 9; have hfz8_10 := blk_frozen BK122.out 10; have hfz8_11 := blk_frozen BK122.out 11; have hfz8_12 := blk_frozen BK122.out 12; have hfz8_13 := blk_frozen BK122.out 13; have hfz8_14 := blk_frozen BK122.out 14; have hfz8_15 := blk_frozen BK122.out 15) | ((with_reducible refine gate_callee (f := 16) rfl ?_); refine goesL_ (some 14) rfl rfl Tryd.func16 (by kernel_rfl) rfl #[.int .i64 a0, .agg #[.int .i64 a1_0, .int .i64 a1_1, .int .i64 a1_2, .int .i64 a1_3, .bool a1_4, .int .i64 a1_5, .int .i64 a1_6, .int .i64 a1_7, .bool a1_8, .int .i64 a1_9, .int .i64 a1_10, .bool a1_11, .int .i64 a1_12, .bool a1_13, .int .i64 a1_14, .int .i64 a1_15]] rfl (by (try simp only [List.map_toArray, List.map_cons, List.map_nil]); first | done | rfl | (simp only [List.length_drop, List.length_take]; rfl)) ?_; (with_reducible refine (gutterref06_Used.calls k a0 a1_0 a1_1 a1_2 a1_3 a1_4 a1_5 a1_6 a1_7 a1_8 a1_9 a1_10 a1_11 a1_12 a1_13 a1_14 a1_15 t123 t124 t125 _ A4.out).mono ?_); rintro e w9 ⟨rfl, hb⟩; refine ⟨_, rfl, ?_⟩; have n0_ := Aside0.mk (blk_below (g := gb122) (o := .cells #[.int .i64 a1_0, .int .i64 a1_1, .int .i64 a1_2, .int .i64 a1_3, .bool a1_4, .int .i64 a1_5, .int .i64 a1_6, .int .i64 a1_7, .bool a1_8, .int .i64 a1_9, .int .i64 a1_10, .bool a1_11, .int .i64 a1_12, .bool a1_13, .int .i64 a1_14, .int .i64 a1_15] 23 (0, 0)) (by (with_reducible repeat (first | refine blk_drewN ?_ _ | refine blk_drew ?_ | refine blk_alloc ?_ _)); exact BK122.out) hb); have n1_ := Aside0.mk (below_step (by repeat (first | (with_reducible first | exact HB.out | apply below_alloc | apply pw_below_drewN | apply below_drew1 | refine below_set ?_ GE122.out) | exact HB.out)) hb); clear BK122; clear HB; have BK122 := n0_; have HB := n1_; clear n0_ n1_; (try clear hb); (try clear hb2); (try clear hk); (try clear hi)))
      go_ret2
      exact ⟨by first | rfl | (simp [errW_none, errW_some] <;> rfl) | (simp [*, errW_none, errW_some] <;> rfl), by repeat (first | (with_reducible first | exact HB.out | apply below_alloc | apply pw_below_drewN | apply below_drew1 | refine below_set ?_ GE122.out) | exact HB.out)⟩
    · rw [if_neg c6] at H
      have c6b0 : decide (a2 < 0) = false := decide_eq_false c6
      clear c6
      by_cases c10 : a2 > 1000
      · rw [if_pos c10] at H
        have c10b0 : decide (1000 < a2) = true := decide_eq_true c10
        clear c10
        simp only [Option.some.injEq, Prod.mk.injEq] at H
        obtain ⟨rfl, rfl⟩ := H
        go_enter Tryd.func17, Tryd.ntmps17
        go_wp2_with (first | ((with_reducible refine gate_dst (N := 4) rfl ?_); refine box_event ?hg (N := 4) ?hd (cs := #[.int .i64 a1_0, .int .i64 a1_1, .int .i64 a1_2, .int .i64 a1_3, .bool a1_4, .int .i64 a1_5, .int .i64 a1_6, .int .i64 a1_7, .bool a1_8, .int .i64 a1_9, .int .i64 a1_10, .bool a1_11, .int .i64 a1_12, .bool a1_13, .int .i64 a1_14, .int .i64 a1_15]) (t := 23) ?hr ?_; (case hd => rfl); (case hg => rfl); (case hr => first | (go_simp; done) | (go_simp; rfl)); intro gb122 hg w11 hbox hb; have n0_ := Aside0.mk (below_step (by repeat (first | (with_reducible first | exact HB.out | apply below_alloc | apply pw_below_drewN | apply below_drew1) | exact HB.out)) hb); have n1_ := Aside0.mk (hbox); have n2_ := Aside0.mk ((by rw [hg]; exact (below_size (by repeat (first | (with_reducible first | exact HB.out | apply below_alloc | apply pw_below_drewN | apply below_drew1) | exact HB.out))) : w.heap.size ≤ gb122)); have n3_ := Aside0.mk ((by rw [hg]; exact (below_size (by repeat (first | (with_reducible first | exact HB.out | apply below_alloc | apply pw_below_drewN | apply below_drew1) | exact HB.out))) : w.heap.size ≤ gb122)); clear HB; have HB := n0_; have BK122 := n1_; have GW122 := n2_; have GE122 := n3_; clear n0_ n1_ n2_ n3_; clear hb hbox hg; have hcz12_0 : w11.cell? ⟨gb122, 0, none⟩ = some (.int .i64 a1_0) := (blk_cell BK122.out 0).trans rfl; have hcz12_1 : w11.cell? ⟨gb122, 1, none⟩ = some (.int .i64 a1_1) := (blk_cell BK122.out 1).trans rfl; have hcz12_2 : w11.cell? ⟨gb122, 2, none⟩ = some (.int .i64 a1_2) := (blk_cell BK122.out 2).trans rfl; have hcz12_3 : w11.cell? ⟨gb122, 3, none⟩ = some (.int .i64 a1_3) := (blk_cell BK122.out 3).trans rfl; have hcz12_4 : w11.cell? ⟨gb122, 4, none⟩ = some (.bool a1_4) := (blk_cell BK122.out 4).trans rfl; have hcz12_5 : w11.cell? ⟨gb122, 5, none⟩ = some (.int .i64 a1_5) := (blk_cell BK122.out 5).trans rfl; have hcz12_6 : w11.cell? ⟨gb122, 6, none⟩ = some (.int .i64 a1_6) := (blk_cell BK122.out 6).trans rfl; have hcz12_7 : w11.cell? ⟨gb122, 7, none⟩ = some (.int .i64 a1_7) := (blk_cell BK122.out 7).trans rfl; have hcz12_8 : w11.cell? ⟨gb122, 8, none⟩ = some (.bool a1_8) := (blk_cell BK122.out 8).trans rfl; have hcz12_9 : w11.cell? ⟨gb122, 9, none⟩ = some (.int .i64 a1_9) := (blk_cell BK122.out 9).trans rfl; have hcz12_10 : w11.cell? ⟨gb122, 10, none⟩ = some (.int .i64 a1_10) := (blk_cell BK122.out 10).trans rfl; have hcz12_11 : w11.cell? ⟨gb122, 11, none⟩ = some (.bool a1_11) := (blk_cell BK122.out 11).trans rfl; have hcz12_12 : w11.cell? ⟨gb122, 12, none⟩ = some (.int .i64 a1_12) := (blk_cell BK122.out 12).trans rfl; have hcz12_13 : w11.cell? ⟨gb122, 13, none⟩ = some (.bool a1_13) := (blk_cell BK122.out 13).trans rfl; have hcz12_14 : w11.cell? ⟨gb122, 14, none⟩ = some (.int .i64 a1_14) := (blk_cell BK122.out 14).trans rfl; have hcz12_15 : w11.cell? ⟨gb122, 15, none⟩ = some (.int .i64 a1_15) := (blk_cell BK122.out 15).trans rfl; have hfz12_0 := blk_frozen BK122.out 0; have hfz12_1 := blk_frozen BK122.out 1; have hfz12_2 := blk_frozen BK122.out 2; have hfz12_3 := blk_frozen BK122.out 3; have hfz12_4 := blk_frozen BK122.out 4; have hfz12_5 := blk_frozen BK122.out 5; have hfz12_6 := blk_frozen BK122.out 6; have hfz12_7 := blk_frozen BK122.out 7; have hfz12_8 := blk_frozen BK122.out 8; have hfz12_9 := blk_frozen BK122.out 9; have hfz12_10 := blk_frozen BK122.out 10; have hfz12_11 := blk_frozen BK122.out 11; have hfz12_12 := blk_frozen BK122.out 12; have hfz12_13 := blk_frozen BK122.out 13; have hfz12_14 := blk_frozen BK122.out 14; have hfz12_15 := blk_frozen BK122.out 15) | ((with_reducible refine gate_callee (f := 16) rfl ?_); refine goesL_ (some 14) rfl rfl Tryd.func16 (by kernel_rfl) rfl #[.int .i64 a0, .agg #[.int .i64 a1_0, .int .i64 a1_1, .int .i64 a1_2, .int .i64 a1_3, .bool a1_4, .int .i64 a1_5, .int .i64 a1_6, .int .i64 a1_7, .bool a1_8, .int .i64 a1_9, .int .i64 a1_10, .bool a1_11, .int .i64 a1_12, .bool a1_13, .int .i64 a1_14, .int .i64 a1_15]] rfl (by (try simp only [List.map_toArray, List.map_cons, List.map_nil]); first | done | rfl | (simp only [List.length_drop, List.length_take]; rfl)) ?_; (with_reducible refine (gutterref06_Used.calls k a0 a1_0 a1_1 a1_2 a1_3 a1_4 a1_5 a1_6 a1_7 a1_8 a1_9 a1_10 a1_11 a1_12 a1_13 a1_14 a1_15 t123 t124 t125 _ A4.out).mono ?_); rintro e w13 ⟨rfl, hb⟩; refine ⟨_, rfl, ?_⟩; have n0_ := Aside0.mk (blk_below (g := gb122) (o := .cells #[.int .i64 a1_0, .int .i64 a1_1, .int .i64 a1_2, .int .i64 a1_3, .bool a1_4, .int .i64 a1_5, .int .i64 a1_6, .int .i64 a1_7, .bool a1_8, .int .i64 a1_9, .int .i64 a1_10, .bool a1_11, .int .i64 a1_12, .bool a1_13, .int .i64 a1_14, .int .i64 a1_15] 23 (0, 0)) (by (with_reducible repeat (first | refine blk_drewN ?_ _ | refine blk_drew ?_ | refine blk_alloc ?_ _)); exact BK122.out) hb); have n1_ := Aside0.mk (below_step (by repeat (first | (with_reducible first | exact HB.out | apply below_alloc | apply pw_below_drewN | apply below_drew1 | refine below_set ?_ GE122.out) | exact HB.out)) hb); clear BK122; clear HB; have BK122 := n0_; have HB := n1_; clear n0_ n1_; (try clear hb); (try clear hb2); (try clear hk); (try clear hi)))
        go_ret2
        exact ⟨by first | rfl | (simp [errW_none, errW_some] <;> rfl) | (simp [*, errW_none, errW_some] <;> rfl), by repeat (first | (with_reducible first | exact HB.out | apply below_alloc | apply pw_below_drewN | apply below_drew1 | refine below_set ?_ GE122.out) | exact HB.out)⟩
      · rw [if_neg c10] at H
        have c10b0 : decide (1000 < a2) = false := decide_eq_false c10
        clear c10
        simp only [Option.some.injEq, Prod.mk.injEq] at H
        obtain ⟨rfl, rfl⟩ := H
        go_enter Tryd.func17, Tryd.ntmps17
        go_wp2_with (first | ((with_reducible refine gate_dst (N := 4) rfl ?_); refine box_event ?hg (N := 4) ?hd (cs := #[.int .i64 a1_0, .int .i64 a1_1, .int .i64 a1_2, .int .i64 a1_3, .bool a1_4, .int .i64 a1_5, .int .i64 a1_6, .int .i64 a1_7, .bool a1_8, .int .i64 a1_9, .int .i64 a1_10, .bool a1_11, .int .i64 a1_12, .bool a1_13, .int .i64 a1_14, .int .i64 a1_15]) (t := 23) ?hr ?_; (case hd => rfl); (case hg => rfl); (case hr => first | (go_simp; done) | (go_simp; rfl)); intro gb122 hg w14 hbox hb; have n0_ := Aside0.mk (below_step (by repeat (first | (with_reducible first | exact HB.out | apply below_alloc | apply pw_below_drewN | apply below_drew1) | exact HB.out)) hb); have n1_ := Aside0.mk (hbox); have n2_ := Aside0.mk ((by rw [hg]; exact (below_size (by repeat (first | (with_reducible first | exact HB.out | apply below_alloc | apply pw_below_drewN | apply below_drew1) | exact HB.out))) : w.heap.size ≤ gb122)); have n3_ := Aside0.mk ((by rw [hg]; exact (below_size (by repeat (first | (with_reducible first | exact HB.out | apply below_alloc | apply pw_below_drewN | apply below_drew1) | exact HB.out))) : w.heap.size ≤ gb122)); clear HB; have HB := n0_; have BK122 := n1_; have GW122 := n2_; have GE122 := n3_; clear n0_ n1_ n2_ n3_; clear hb hbox hg; have hcz15_0 : w14.cell? ⟨gb122, 0, none⟩ = some (.int .i64 a1_0) := (blk_cell BK122.out 0).trans rfl; have hcz15_1 : w14.cell? ⟨gb122, 1, none⟩ = some (.int .i64 a1_1) := (blk_cell BK122.out 1).trans rfl; have hcz15_2 : w14.cell? ⟨gb122, 2, none⟩ = some (.int .i64 a1_2) := (blk_cell BK122.out 2).trans rfl; have hcz15_3 : w14.cell? ⟨gb122, 3, none⟩ = some (.int .i64 a1_3) := (blk_cell BK122.out 3).trans rfl; have hcz15_4 : w14.cell? ⟨gb122, 4, none⟩ = some (.bool a1_4) := (blk_cell BK122.out 4).trans rfl; have hcz15_5 : w14.cell? ⟨gb122, 5, none⟩ = some (.int .i64 a1_5) := (blk_cell BK122.out 5).trans rfl; have hcz15_6 : w14.cell? ⟨gb122, 6, none⟩ = some (.int .i64 a1_6) := (blk_cell BK122.out 6).trans rfl; have hcz15_7 : w14.cell? ⟨gb122, 7, none⟩ = some (.int .i64 a1_7) := (blk_cell BK122.out 7).trans rfl; have hcz15_8 : w14.cell? ⟨gb122, 8, none⟩ = some (.bool a1_8) := (blk_cell BK122.out 8).trans rfl; have hcz15_9 : w14.cell? ⟨gb122, 9, none⟩ = some (.int .i64 a1_9) := (blk_cell BK122.out 9).trans rfl; have hcz15_10 : w14.cell? ⟨gb122, 10, none⟩ = some (.int .i64 a1_10) := (blk_cell BK122.out 10).trans rfl; have hcz15_11 : w14.cell? ⟨gb122, 11, none⟩ = some (.bool a1_11) := (blk_cell BK122.out 11).trans rfl; have hcz15_12 : w14.cell? ⟨gb122, 12, none⟩ = some (.int .i64 a1_12) := (blk_cell BK122.out 12).trans rfl; have hcz15_13 : w14.cell? ⟨gb122, 13, none⟩ = some (.bool a1_13) := (blk_cell BK122.out 13).trans rfl; have hcz15_14 : w14.cell? ⟨gb122, 14, none⟩ = some (.int .i64 a1_14) := (blk_cell BK122.out 14).trans rfl; have hcz15_15 : w14.cell? ⟨gb122, 15, none⟩ = some (.int .i64 a1_15) := (blk_cell BK122.out 15).trans rfl; have hfz15_0 := blk_frozen BK122.out 0; have hfz15_1 := blk_frozen BK122.out 1; have hfz15_2 := blk_frozen BK122.out 2; have hfz15_3 := blk_frozen BK122.out 3; have hfz15_4 := blk_frozen BK122.out 4; have hfz15_5 := blk_frozen BK122.out 5; have hfz15_6 := blk_frozen BK122.out 6; have hfz15_7 := blk_frozen BK122.out 7; have hfz15_8 := blk_frozen BK122.out 8; have hfz15_9 := blk_frozen BK122.out 9; have hfz15_10 := blk_frozen BK122.out 10; have hfz15_11 := blk_frozen BK122.out 11; have hfz15_12 := blk_frozen BK122.out 12; have hfz15_13 := blk_frozen BK122.out 13; have hfz15_14 := blk_frozen BK122.out 14; have hfz15_15 := blk_frozen BK122.out 15) | ((with_reducible refine gate_callee (f := 16) rfl ?_); refine goesL_ (some 14) rfl rfl Tryd.func16 (by kernel_rfl) rfl #[.int .i64 a0, .agg #[.int .i64 a1_0, .int .i64 a1_1, .int .i64 a1_2, .int .i64 a1_3, .bool a1_4, .int .i64 a1_5, .int .i64 a1_6, .int .i64 a1_7, .bool a1_8, .int .i64 a1_9, .int .i64 a1_10, .bool a1_11, .int .i64 a1_12, .bool a1_13, .int .i64 a1_14, .int .i64 a1_15]] rfl (by (try simp only [List.map_toArray, List.map_cons, List.map_nil]); first | done | rfl | (simp only [List.length_drop, List.length_take]; rfl)) ?_; (with_reducible refine (gutterref06_Used.calls k a0 a1_0 a1_1 a1_2 a1_3 a1_4 a1_5 a1_6 a1_7 a1_8 a1_9 a1_10 a1_11 a1_12 a1_13 a1_14 a1_15 t123 t124 t125 _ A4.out).mono ?_); rintro e w16 ⟨rfl, hb⟩; refine ⟨_, rfl, ?_⟩; have n0_ := Aside0.mk (blk_below (g := gb122) (o := .cells #[.int .i64 a1_0, .int .i64 a1_1, .int .i64 a1_2, .int .i64 a1_3, .bool a1_4, .int .i64 a1_5, .int .i64 a1_6, .int .i64 a1_7, .bool a1_8, .int .i64 a1_9, .int .i64 a1_10, .bool a1_11, .int .i64 a1_12, .bool a1_13, .int .i64 a1_14, .int .i64 a1_15] 23 (0, 0)) (by (with_reducible repeat (first | refine blk_drewN ?_ _ | refine blk_drew ?_ | refine blk_alloc ?_ _)); exact BK122.out) hb); have n1_ := Aside0.mk (below_step (by repeat (first | (with_reducible first | exact HB.out | apply below_alloc | apply pw_below_drewN | apply below_drew1 | refine below_set ?_ GE122.out) | exact HB.out)) hb); clear BK122; clear HB; have BK122 := n0_; have HB := n1_; clear n0_ n1_; (try clear hb); (try clear hb2); (try clear hk); (try clear hi); have hcz17_0 : w16.cell? ⟨gb122, 0, none⟩ = some (.int .i64 a1_0) := (blk_cell BK122.out 0).trans rfl; have hcz17_1 : w16.cell? ⟨gb122, 1, none⟩ = some (.int .i64 a1_1) := (blk_cell BK122.out 1).trans rfl; have hcz17_2 : w16.cell? ⟨gb122, 2, none⟩ = some (.int .i64 a1_2) := (blk_cell BK122.out 2).trans rfl; have hcz17_3 : w16.cell? ⟨gb122, 3, none⟩ = some (.int .i64 a1_3) := (blk_cell BK122.out 3).trans rfl; have hcz17_4 : w16.cell? ⟨gb122, 4, none⟩ = some (.bool a1_4) := (blk_cell BK122.out 4).trans rfl; have hcz17_5 : w16.cell? ⟨gb122, 5, none⟩ = some (.int .i64 a1_5) := (blk_cell BK122.out 5).trans rfl; have hcz17_6 : w16.cell? ⟨gb122, 6, none⟩ = some (.int .i64 a1_6) := (blk_cell BK122.out 6).trans rfl; have hcz17_7 : w16.cell? ⟨gb122, 7, none⟩ = some (.int .i64 a1_7) := (blk_cell BK122.out 7).trans rfl; have hcz17_8 : w16.cell? ⟨gb122, 8, none⟩ = some (.bool a1_8) := (blk_cell BK122.out 8).trans rfl; have hcz17_9 : w16.cell? ⟨gb122, 9, none⟩ = some (.int .i64 a1_9) := (blk_cell BK122.out 9).trans rfl; have hcz17_10 : w16.cell? ⟨gb122, 10, none⟩ = some (.int .i64 a1_10) := (blk_cell BK122.out 10).trans rfl; have hcz17_11 : w16.cell? ⟨gb122, 11, none⟩ = some (.bool a1_11) := (blk_cell BK122.out 11).trans rfl; have hcz17_12 : w16.cell? ⟨gb122, 12, none⟩ = some (.int .i64 a1_12) := (blk_cell BK122.out 12).trans rfl; have hcz17_13 : w16.cell? ⟨gb122, 13, none⟩ = some (.bool a1_13) := (blk_cell BK122.out 13).trans rfl; have hcz17_14 : w16.cell? ⟨gb122, 14, none⟩ = some (.int .i64 a1_14) := (blk_cell BK122.out 14).trans rfl; have hcz17_15 : w16.cell? ⟨gb122, 15, none⟩ = some (.int .i64 a1_15) := (blk_cell BK122.out 15).trans rfl; have hfz17_0 := blk_frozen BK122.out 0; have hfz17_1 := blk_frozen BK122.out 1; have hfz17_2 := blk_frozen BK122.out 2; have hfz17_3 := blk_frozen BK122.out 3; have hfz17_4 := blk_frozen BK122.out 4; have hfz17_5 := blk_frozen BK122.out 5; have hfz17_6 := blk_frozen BK122.out 6; have hfz17_7 := blk_frozen BK122.out 7; have hfz17_8 := blk_frozen BK122.out 8; have hfz17_9 := blk_frozen BK122.out 9; have hfz17_10 := blk_frozen BK122.out 10; have hfz17_11 := blk_frozen BK122.out 11; have hfz17_12 := blk_frozen BK122.out 12; have hfz17_13 := blk_frozen BK122.out 13; have hfz17_14 := blk_frozen BK122.out 14; have hfz17_15 := blk_frozen BK122.out 15))
        go_ret2
        exact ⟨by first | rfl | (simp [errW_none, errW_some] <;> rfl) | (simp [*, errW_none, errW_some] <;> rfl), by repeat (first | (with_reducible first | exact HB.out | apply below_alloc | apply pw_below_drewN | apply below_drew1 | refine below_set ?_ GE122.out) | exact HB.out)⟩
  · rw [if_neg c5] at H
    have c5b0 : (t125 == 0) = false := beq_eq_false_iff_ne.mpr c5
    have c5b1 : (t125 != 0) = true := bne_iff_ne.mpr c5
    simp only [Option.some.injEq, Prod.mk.injEq] at H
    obtain ⟨rfl, rfl⟩ := H
    go_enter Tryd.func17, Tryd.ntmps17
    go_wp2_with (first | ((with_reducible refine gate_dst (N := 4) rfl ?_); refine box_event ?hg (N := 4) ?hd (cs := #[.int .i64 a1_0, .int .i64 a1_1, .int .i64 a1_2, .int .i64 a1_3, .bool a1_4, .int .i64 a1_5, .int .i64 a1_6, .int .i64 a1_7, .bool a1_8, .int .i64 a1_9, .int .i64 a1_10, .bool a1_11, .int .i64 a1_12, .bool a1_13, .int .i64 a1_14, .int .i64 a1_15]) (t := 23) ?hr ?_; (case hd => rfl); (case hg => rfl); (case hr => first | (go_simp; done) | (go_simp; rfl)); intro gb122 hg w18 hbox hb; have n0_ := Aside0.mk (below_step (by repeat (first | (with_reducible first | exact HB.out | apply below_alloc | apply pw_below_drewN | apply below_drew1) | exact HB.out)) hb); have n1_ := Aside0.mk (hbox); have n2_ := Aside0.mk ((by rw [hg]; exact (below_size (by repeat (first | (with_reducible first | exact HB.out | apply below_alloc | apply pw_below_drewN | apply below_drew1) | exact HB.out))) : w.heap.size ≤ gb122)); have n3_ := Aside0.mk ((by rw [hg]; exact (below_size (by repeat (first | (with_reducible first | exact HB.out | apply below_alloc | apply pw_below_drewN | apply below_drew1) | exact HB.out))) : w.heap.size ≤ gb122)); clear HB; have HB := n0_; have BK122 := n1_; have GW122 := n2_; have GE122 := n3_; clear n0_ n1_ n2_ n3_; clear hb hbox hg; have hcz19_0 : w18.cell? ⟨gb122, 0, none⟩ = some (.int .i64 a1_0) := (blk_cell BK122.out 0).trans rfl; have hcz19_1 : w18.cell? ⟨gb122, 1, none⟩ = some (.int .i64 a1_1) := (blk_cell BK122.out 1).trans rfl; have hcz19_2 : w18.cell? ⟨gb122, 2, none⟩ = some (.int .i64 a1_2) := (blk_cell BK122.out 2).trans rfl; have hcz19_3 : w18.cell? ⟨gb122, 3, none⟩ = some (.int .i64 a1_3) := (blk_cell BK122.out 3).trans rfl; have hcz19_4 : w18.cell? ⟨gb122, 4, none⟩ = some (.bool a1_4) := (blk_cell BK122.out 4).trans rfl; have hcz19_5 : w18.cell? ⟨gb122, 5, none⟩ = some (.int .i64 a1_5) := (blk_cell BK122.out 5).trans rfl; have hcz19_6 : w18.cell? ⟨gb122, 6, none⟩ = some (.int .i64 a1_6) := (blk_cell BK122.out 6).trans rfl; have hcz19_7 : w18.cell? ⟨gb122, 7, none⟩ = some (.int .i64 a1_7) := (blk_cell BK122.out 7).trans rfl; have hcz19_8 : w18.cell? ⟨gb122, 8, none⟩ = some (.bool a1_8) := (blk_cell BK122.out 8).trans rfl; have hcz19_9 : w18.cell? ⟨gb122, 9, none⟩ = some (.int .i64 a1_9) := (blk_cell BK122.out 9).trans rfl; have hcz19_10 : w18.cell? ⟨gb122, 10, none⟩ = some (.int .i64 a1_10) := (blk_cell BK122.out 10).trans rfl; have hcz19_11 : w18.cell? ⟨gb122, 11, none⟩ = some (.bool a1_11) := (blk_cell BK122.out 11).trans rfl; have hcz19_12 : w18.cell? ⟨gb122, 12, none⟩ = some (.int .i64 a1_12) := (blk_cell BK122.out 12).trans rfl; have hcz19_13 : w18.cell? ⟨gb122, 13, none⟩ = some (.bool a1_13) := (blk_cell BK122.out 13).trans rfl; have hcz19_14 : w18.cell? ⟨gb122, 14, none⟩ = some (.int .i64 a1_14) := (blk_cell BK122.out 14).trans rfl; have hcz19_15 : w18.cell? ⟨gb122, 15, none⟩ = some (.int .i64 a1_15) := (blk_cell BK122.out 15).trans rfl; have hfz19_0 := blk_frozen BK122.out 0; have hfz19_1 := blk_frozen BK122.out 1; have hfz19_2 := blk_frozen BK122.out 2; have hfz19_3 := blk_frozen BK122.out 3; have hfz19_4 := blk_frozen BK122.out 4; have hfz19_5 := blk_frozen BK122.out 5; have hfz19_6 := blk_frozen BK122.out 6; have hfz19_7 := blk_frozen BK122.out 7; have hfz19_8 := blk_frozen BK122.out 8; have hfz19_9 := blk_frozen BK122.out 9; have hfz19_10 := blk_frozen BK122.out 10; have hfz19_11 := blk_frozen BK122.out 11; have hfz19_12 := blk_frozen BK122.out 12; have hfz19_13 := blk_frozen BK122.out 13; have hfz19_14 := blk_frozen BK122.out 14; have hfz19_15 := blk_frozen BK122.out 15) | ((with_reducible refine gate_callee (f := 16) rfl ?_); refine goesL_ (some 14) rfl rfl Tryd.func16 (by kernel_rfl) rfl #[.int .i64 a0, .agg #[.int .i64 a1_0, .int .i64 a1_1, .int .i64 a1_2, .int .i64 a1_3, .bool a1_4, .int .i64 a1_5, .int .i64 a1_6, .int .i64 a1_7, .bool a1_8, .int .i64 a1_9, .int .i64 a1_10, .bool a1_11, .int .i64 a1_12, .bool a1_13, .int .i64 a1_14, .int .i64 a1_15]] rfl (by (try simp only [List.map_toArray, List.map_cons, List.map_nil]); first | done | rfl | (simp only [List.length_drop, List.length_take]; rfl)) ?_; (with_reducible refine (gutterref06_Used.calls k a0 a1_0 a1_1 a1_2 a1_3 a1_4 a1_5 a1_6 a1_7 a1_8 a1_9 a1_10 a1_11 a1_12 a1_13 a1_14 a1_15 t123 t124 t125 _ A4.out).mono ?_); rintro e w20 ⟨rfl, hb⟩; refine ⟨_, rfl, ?_⟩; have n0_ := Aside0.mk (blk_below (g := gb122) (o := .cells #[.int .i64 a1_0, .int .i64 a1_1, .int .i64 a1_2, .int .i64 a1_3, .bool a1_4, .int .i64 a1_5, .int .i64 a1_6, .int .i64 a1_7, .bool a1_8, .int .i64 a1_9, .int .i64 a1_10, .bool a1_11, .int .i64 a1_12, .bool a1_13, .int .i64 a1_14, .int .i64 a1_15] 23 (0, 0)) (by (with_reducible repeat (first | refine blk_drewN ?_ _ | refine blk_drew ?_ | refine blk_alloc ?_ _)); exact BK122.out) hb); have n1_ := Aside0.mk (below_step (by repeat (first | (with_reducible first | exact HB.out | apply below_alloc | apply pw_below_drewN | apply below_drew1 | refine below_set ?_ GE122.out) | exact HB.out)) hb); clear BK122; clear HB; have BK122 := n0_; have HB := n1_; clear n0_ n1_; (try clear hb); (try clear hb2); (try clear hk); (try clear hi)))
    go_ret2
    exact ⟨by first | rfl | (simp [errW_none, errW_some] <;> rfl) | (simp [*, errW_none, errW_some] <;> rfl), by repeat (first | (with_reducible first | exact HB.out | apply below_alloc | apply pw_below_drewN | apply below_drew1 | refine below_set ?_ GE122.out) | exact HB.out)⟩


/-! ### gutterref06_Slack: function 19 -/
def gutterref06_Slack.f (k : Nat) (a0 : Int) (a1_0 : Int) (a1_1 : Int) (a1_2 : Int) (a1_3 : Int) (a1_4 : Bool) (a1_5 : Int) (a1_6 : Int) (a1_7 : Int) (a1_8 : Bool) (a1_9 : Int) (a1_10 : Int) (a1_11 : Bool) (a1_12 : Int) (a1_13 : Bool) (a1_14 : Int) (a1_15 : Int) : Option (Int × Int) := (gutterref06_Used.f k a0 a1_0 a1_1 a1_2 a1_3 a1_4 a1_5 a1_6 a1_7 a1_8 a1_9 a1_10 a1_11 a1_12 a1_13 a1_14 a1_15).bind fun bt127 => (if bt127.2.2 = 0 then (some (wrap64 ((wrap64 (a0 - (wrap64 (bt127.1 * bt127.2.1)))) - (wrap64 ((wrap64 (bt127.1 - 1)) * a1_2))), 0)) else (some (0, bt127.2.2)))
theorem gutterref06_Slack.mono : ∀ a0 a1 a2 a3 a4 a5 a6 a7 a8 a9 a10 a11 a12 a13 a14 a15 a16 k, LeO (gutterref06_Slack.f k a0 a1 a2 a3 a4 a5 a6 a7 a8 a9 a10 a11 a12 a13 a14 a15 a16) (gutterref06_Slack.f (k + 1) a0 a1 a2 a3 a4 a5 a6 a7 a8 a9 a10 a11 a12 a13 a14 a15 a16) := by
  intro a0 a1 a2 a3 a4 a5 a6 a7 a8 a9 a10 a11 a12 a13 a14 a15 a16 k
  unfold gutterref06_Slack.f
  repeat' first
      | (with_reducible exact gutterref06_Used.mono _ _ _ _ _ _ _ _ _ _ _ _ _ _ _ _ _ _)
      | (with_reducible exact LeO.refl _)
      | (with_reducible exact LeO.none _)
      | (with_reducible refine LeO.ite ?_ ?_)
      | (with_reducible refine LeO.bind ?_ (fun _ => ?_))
      | exact gutterref06_Used.mono _ _ _ _ _ _ _ _ _ _ _ _ _ _ _ _ _ _
      | exact LeO.none _
      | refine LeO.ite ?_ ?_
      | refine LeO.bind ?_ (fun _ => ?_)
set_option maxHeartbeats 8000000 in
set_option maxRecDepth 100000 in
theorem gutterref06_Slack.calls (k : Nat) (a0 : Int) (a1_0 : Int) (a1_1 : Int) (a1_2 : Int) (a1_3 : Int) (a1_4 : Bool) (a1_5 : Int) (a1_6 : Int) (a1_7 : Int) (a1_8 : Bool) (a1_9 : Int) (a1_10 : Int) (a1_11 : Bool) (a1_12 : Int) (a1_13 : Bool) (a1_14 : Int) (a1_15 : Int) (r1 : Int) (r2 : Int) (w : World) (h : gutterref06_Slack.f k a0 a1_0 a1_1 a1_2 a1_3 a1_4 a1_5 a1_6 a1_7 a1_8 a1_9 a1_10 a1_11 a1_12 a1_13 a1_14 a1_15 = some (r1, r2)) :
    Calls Tryd.prog 19 #[.int .i64 a0, .agg #[.int .i64 a1_0, .int .i64 a1_1, .int .i64 a1_2, .int .i64 a1_3, .bool a1_4, .int .i64 a1_5, .int .i64 a1_6, .int .i64 a1_7, .bool a1_8, .int .i64 a1_9, .int .i64 a1_10, .bool a1_11, .int .i64 a1_12, .bool a1_13, .int .i64 a1_14, .int .i64 a1_15]] w fun e w' => e = .returned (.tuple #[.int .i64 r1, .int .i64 r2]) ∧ Below w.heap.size w w' := by
  have hu23 := Tryd.underlying23
  have HB := Aside0.mk (Below.refl w.heap.size w)
  have H : ((gutterref06_Used.f k a0 a1_0 a1_1 a1_2 a1_3 a1_4 a1_5 a1_6 a1_7 a1_8 a1_9 a1_10 a1_11 a1_12 a1_13 a1_14 a1_15).bind fun bt127 => (if bt127.2.2 = 0 then (some (wrap64 ((wrap64 (a0 - (wrap64 (bt127.1 * bt127.2.1)))) - (wrap64 ((wrap64 (bt127.1 - 1)) * a1_2))), 0)) else (some (0, bt127.2.2)))) = some (r1, r2) := h
  clear h
  replace H := Option.bind_eq_some_iff.mp H
  obtain ⟨⟨t127, t128, t129⟩, A30, H⟩ := H
  replace H : (if t129 = 0 then (some (wrap64 ((wrap64 (a0 - (wrap64 (t127 * t128)))) - (wrap64 ((wrap64 (t127 - 1)) * a1_2))), 0)) else (some (0, t129))) = some (r1, r2) := H
  have A3 := Aside0.mk A30
  clear A30
  by_cases c4 : t129 = 0
  · rw [if_pos c4] at H
    have c4b0 : (t129 == 0) = true := beq_iff_eq.mpr c4
    have c4b1 : (t129 != 0) = false := bne_eq_false_iff_eq.mpr c4
    clear c4
    simp only [Option.some.injEq, Prod.mk.injEq] at H
    obtain ⟨rfl, rfl⟩ := H
    go_enter Tryd.func19, Tryd.ntmps19
    go_wp2_with (first | ((with_reducible refine gate_dst (N := 3) rfl ?_); refine box_event ?hg (N := 3) ?hd (cs := #[.int .i64 a1_0, .int .i64 a1_1, .int .i64 a1_2, .int .i64 a1_3, .bool a1_4, .int .i64 a1_5, .int .i64 a1_6, .int .i64 a1_7, .bool a1_8, .int .i64 a1_9, .int .i64 a1_10, .bool a1_11, .int .i64 a1_12, .bool a1_13, .int .i64 a1_14, .int .i64 a1_15]) (t := 23) ?hr ?_; (case hd => rfl); (case hg => rfl); (case hr => first | (go_simp; done) | (go_simp; rfl)); intro gb126 hg w5 hbox hb; have n0_ := Aside0.mk (below_step (by repeat (first | (with_reducible first | exact HB.out | apply below_alloc | apply pw_below_drewN | apply below_drew1) | exact HB.out)) hb); have n1_ := Aside0.mk (hbox); have n2_ := Aside0.mk ((by rw [hg]; exact (below_size (by repeat (first | (with_reducible first | exact HB.out | apply below_alloc | apply pw_below_drewN | apply below_drew1) | exact HB.out))) : w.heap.size ≤ gb126)); have n3_ := Aside0.mk ((by rw [hg]; exact (below_size (by repeat (first | (with_reducible first | exact HB.out | apply below_alloc | apply pw_below_drewN | apply below_drew1) | exact HB.out))) : w.heap.size ≤ gb126)); clear HB; have HB := n0_; have BK126 := n1_; have GW126 := n2_; have GE126 := n3_; clear n0_ n1_ n2_ n3_; clear hb hbox hg; have hcz6_0 : w5.cell? ⟨gb126, 0, none⟩ = some (.int .i64 a1_0) := (blk_cell BK126.out 0).trans rfl; have hcz6_1 : w5.cell? ⟨gb126, 1, none⟩ = some (.int .i64 a1_1) := (blk_cell BK126.out 1).trans rfl; have hcz6_2 : w5.cell? ⟨gb126, 2, none⟩ = some (.int .i64 a1_2) := (blk_cell BK126.out 2).trans rfl; have hcz6_3 : w5.cell? ⟨gb126, 3, none⟩ = some (.int .i64 a1_3) := (blk_cell BK126.out 3).trans rfl; have hcz6_4 : w5.cell? ⟨gb126, 4, none⟩ = some (.bool a1_4) := (blk_cell BK126.out 4).trans rfl; have hcz6_5 : w5.cell? ⟨gb126, 5, none⟩ = some (.int .i64 a1_5) := (blk_cell BK126.out 5).trans rfl; have hcz6_6 : w5.cell? ⟨gb126, 6, none⟩ = some (.int .i64 a1_6) := (blk_cell BK126.out 6).trans rfl; have hcz6_7 : w5.cell? ⟨gb126, 7, none⟩ = some (.int .i64 a1_7) := (blk_cell BK126.out 7).trans rfl; have hcz6_8 : w5.cell? ⟨gb126, 8, none⟩ = some (.bool a1_8) := (blk_cell BK126.out 8).trans rfl; have hcz6_9 : w5.cell? ⟨gb126, 9, none⟩ = some (.int .i64 a1_9) := (blk_cell BK126.out 9).trans rfl; have hcz6_10 : w5.cell? ⟨gb126, 10, none⟩ = some (.int .i64 a1_10) := (blk_cell BK126.out 10).trans rfl; have hcz6_11 : w5.cell? ⟨gb126, 11, none⟩ = some (.bool a1_11) := (blk_cell BK126.out 11).trans rfl; have hcz6_12 : w5.cell? ⟨gb126, 12, none⟩ = some (.int .i64 a1_12) := (blk_cell BK126.out 12).trans rfl; have hcz6_13 : w5.cell? ⟨gb126, 13, none⟩ = some (.bool a1_13) := (blk_cell BK126.out 13).trans rfl; have hcz6_14 : w5.cell? ⟨gb126, 14, none⟩ = some (.int .i64 a1_14) := (blk_cell BK126.out 14).trans rfl; have hcz6_15 : w5.cell? ⟨gb126, 15, none⟩ = some (.int .i64 a1_15) := (blk_cell BK126.out 15).trans rfl; have hfz6_0 := blk_frozen BK126.out 0; have hfz6_1 := blk_frozen BK126.out 1; have hfz6_2 := blk_frozen BK126.out 2; have hfz6_3 := blk_frozen BK126.out 3; have hfz6_4 := blk_frozen BK126.out 4; have hfz6_5 := blk_frozen BK126.out 5; have hfz6_6 := blk_frozen BK126.out 6; have hfz6_7 := blk_frozen BK126.out 7; have hfz6_8 := blk_frozen BK126.out 8; have hfz6_9 := blk_frozen BK126.out 9; have hfz6_10 := blk_frozen BK126.out 10; have hfz6_11 := blk_frozen BK126.out 11; have hfz6_12 := blk_frozen BK126.out 12; have hfz6_13 := blk_frozen BK126.out 13; have hfz6_14 := blk_frozen BK126.out 14; have hfz6_15 := blk_frozen BK126.out 15) | ((with_reducible refine gate_callee (f := 16) rfl ?_); refine goesL_ (some 12) rfl rfl Tryd.func16 (by kernel_rfl) rfl #[.int .i64 a0, .agg #[.int .i64 a1_0, .int .i64 a1_1, .int .i64 a1_2, .int .i64 a1_3, .bool a1_4, .int .i64 a1_5, .int .i64 a1_6, .int .i64 a1_7, .bool a1_8, .int .i64 a1_9, .int .i64 a1_10, .bool a1_11, .int .i64 a1_12, .bool a1_13, .int .i64 a1_14, .int .i64 a1_15]] rfl (by (try simp only [List.map_toArray, List.map_cons, List.map_nil]); first | done | rfl | (simp only [List.length_drop, List.length_take]; rfl)) ?_; (with_reducible refine (gutterref06_Used.calls k a0 a1_0 a1_1 a1_2 a1_3 a1_4 a1_5 a1_6 a1_7 a1_8 a1_9 a1_10 a1_11 a1_12 a1_13 a1_14 a1_15 t127 t128 t129 _ A3.out).mono ?_); rintro e w7 ⟨rfl, hb⟩; refine ⟨_, rfl, ?_⟩; have n0_ := Aside0.mk (blk_below (g := gb126) (o := .cells #[.int .i64 a1_0, .int .i64 a1_1, .int .i64 a1_2, .int .i64 a1_3, .bool a1_4, .int .i64 a1_5, .int .i64 a1_6, .int .i64 a1_7, .bool a1_8, .int .i64 a1_9, .int .i64 a1_10, .bool a1_11, .int .i64 a1_12, .bool a1_13, .int .i64 a1_14, .int .i64 a1_15] 23 (0, 0)) (by (with_reducible repeat (first | refine blk_drewN ?_ _ | refine blk_drew ?_ | refine blk_alloc ?_ _)); exact BK126.out) hb); have n1_ := Aside0.mk (below_step (by repeat (first | (with_reducible first | exact HB.out | apply below_alloc | apply pw_below_drewN | apply below_drew1 | refine below_set ?_ GE126.out) | exact HB.out)) hb); clear BK126; clear HB; have BK126 := n0_; have HB := n1_; clear n0_ n1_; (try clear hb); (try clear hb2); (try clear hk); (try clear hi); have hcz8_0 : w7.cell? ⟨gb126, 0, none⟩ = some (.int .i64 a1_0) := (blk_cell BK126.out 0).trans rfl; have hcz8_1 : w7.cell? ⟨gb126, 1, none⟩ = some (.int .i64 a1_1) := (blk_cell BK126.out 1).trans rfl; have hcz8_2 : w7.cell? ⟨gb126, 2, none⟩ = some (.int .i64 a1_2) := (blk_cell BK126.out 2).trans rfl; have hcz8_3 : w7.cell? ⟨gb126, 3, none⟩ = some (.int .i64 a1_3) := (blk_cell BK126.out 3).trans rfl; have hcz8_4 : w7.cell? ⟨gb126, 4, none⟩ = some (.bool a1_4) := (blk_cell BK126.out 4).trans rfl; have hcz8_5 : w7.cell? ⟨gb126, 5, none⟩ = some (.int .i64 a1_5) := (blk_cell BK126.out 5).trans rfl; have hcz8_6 : w7.cell? ⟨gb126, 6, none⟩ = some (.int .i64 a1_6) := (blk_cell BK126.out 6).trans rfl; have hcz8_7 : w7.cell? ⟨gb126, 7, none⟩ = some (.int .i64 a1_7) := (blk_cell BK126.out 7).trans rfl; have hcz8_8 : w7.cell? ⟨gb126, 8, none⟩ = some (.bool a1_8) := (blk_cell BK126.out 8).trans rfl; have hcz8_9 : w7.cell? ⟨gb126, 9, none⟩ = some (.int .i64 a1_9) := (blk_cell BK126.out 9).trans rfl; have hcz8_10 : w7.cell? ⟨gb126, 10, none⟩ = some (.int .i64 a1_10) := (blk_cell BK126.out 10).trans rfl; have hcz8_11 : w7.cell? ⟨gb126, 11, none⟩ = some (.bool a1_11) := (blk_cell BK126.out 11).trans rfl; have hcz8_12 : w7.cell? ⟨gb126, 12, none⟩ = some (.int .i64 a1_12) := (blk_cell BK126.out 12).trans rfl; have hcz8_13 : w7.cell? ⟨gb126, 13, none⟩ = some (.bool a1_13) := (blk_cell BK126.out 13).trans rfl; have hcz8_14 : w7.cell? ⟨gb126, 14, none⟩ = some (.int .i64 a1_14) := (blk_cell BK126.out 14).trans rfl; have hcz8_15 : w7.cell? ⟨gb126, 15, none⟩ = some (.int .i64 a1_15) := (blk_cell BK126.out 15).trans rfl; have hfz8_0 := blk_frozen BK126.out 0; have hfz8_1 := blk_frozen BK126.out 1; have hfz8_2 := blk_frozen BK126.out 2; have hfz8_3 := blk_frozen BK126.out 3; have hfz8_4 := blk_frozen BK126.out 4; have hfz8_5 := blk_frozen BK126.out 5; have hfz8_6 := blk_frozen BK126.out 6; have hfz8_7 := blk_frozen BK126.out 7; have hfz8_8 := blk_frozen BK126.out 8; have hfz8_9 := blk_frozen BK126.out 9; have hfz8_10 := blk_frozen BK126.out 10; have hfz8_11 := blk_frozen BK126.out 11; have hfz8_12 := blk_frozen BK126.out 12; have hfz8_13 := blk_frozen BK126.out 13; have hfz8_14 := blk_frozen BK126.out 14; have hfz8_15 := blk_frozen BK126.out 15))
    go_ret2
    exact ⟨by first | rfl | (simp [errW_none, errW_some] <;> rfl) | (simp [*, errW_none, errW_some] <;> rfl), by repeat (first | (with_reducible first | exact HB.out | apply below_alloc | apply pw_below_drewN | apply below_drew1 | refine below_set ?_ GE126.out) | exact HB.out)⟩
  · rw [if_neg c4] at H
    have c4b0 : (t129 == 0) = false := beq_eq_false_iff_ne.mpr c4
    have c4b1 : (t129 != 0) = true := bne_iff_ne.mpr c4
    simp only [Option.some.injEq, Prod.mk.injEq] at H
    obtain ⟨rfl, rfl⟩ := H
    go_enter Tryd.func19, Tryd.ntmps19
    go_wp2_with (first | ((with_reducible refine gate_dst (N := 3) rfl ?_); refine box_event ?hg (N := 3) ?hd (cs := #[.int .i64 a1_0, .int .i64 a1_1, .int .i64 a1_2, .int .i64 a1_3, .bool a1_4, .int .i64 a1_5, .int .i64 a1_6, .int .i64 a1_7, .bool a1_8, .int .i64 a1_9, .int .i64 a1_10, .bool a1_11, .int .i64 a1_12, .bool a1_13, .int .i64 a1_14, .int .i64 a1_15]) (t := 23) ?hr ?_; (case hd => rfl); (case hg => rfl); (case hr => first | (go_simp; done) | (go_simp; rfl)); intro gb126 hg w9 hbox hb; have n0_ := Aside0.mk (below_step (by repeat (first | (with_reducible first | exact HB.out | apply below_alloc | apply pw_below_drewN | apply below_drew1) | exact HB.out)) hb); have n1_ := Aside0.mk (hbox); have n2_ := Aside0.mk ((by rw [hg]; exact (below_size (by repeat (first | (with_reducible first | exact HB.out | apply below_alloc | apply pw_below_drewN | apply below_drew1) | exact HB.out))) : w.heap.size ≤ gb126)); have n3_ := Aside0.mk ((by rw [hg]; exact (below_size (by repeat (first | (with_reducible first | exact HB.out | apply below_alloc | apply pw_below_drewN | apply below_drew1) | exact HB.out))) : w.heap.size ≤ gb126)); clear HB; have HB := n0_; have BK126 := n1_; have GW126 := n2_; have GE126 := n3_; clear n0_ n1_ n2_ n3_; clear hb hbox hg; have hcz10_0 : w9.cell? ⟨gb126, 0, none⟩ = some (.int .i64 a1_0) := (blk_cell BK126.out 0).trans rfl; have hcz10_1 : w9.cell? ⟨gb126, 1, none⟩ = some (.int .i64 a1_1) := (blk_cell BK126.out 1).trans rfl; have hcz10_2 : w9.cell? ⟨gb126, 2, none⟩ = some (.int .i64 a1_2) := (blk_cell BK126.out 2).trans rfl; have hcz10_3 : w9.cell? ⟨gb126, 3, none⟩ = some (.int .i64 a1_3) := (blk_cell BK126.out 3).trans rfl; have hcz10_4 : w9.cell? ⟨gb126, 4, none⟩ = some (.bool a1_4) := (blk_cell BK126.out 4).trans rfl; have hcz10_5 : w9.cell? ⟨gb126, 5, none⟩ = some (.int .i64 a1_5) := (blk_cell BK126.out 5).trans rfl; have hcz10_6 : w9.cell? ⟨gb126, 6, none⟩ = some (.int .i64 a1_6) := (blk_cell BK126.out 6).trans rfl; have hcz10_7 : w9.cell? ⟨gb126, 7, none⟩ = some (.int .i64 a1_7) := (blk_cell BK126.out 7).trans rfl; have hcz10_8 : w9.cell? ⟨gb126, 8, none⟩ = some (.bool a1_8) := (blk_cell BK126.out 8).trans rfl; have hcz10_9 : w9.cell? ⟨gb126, 9, none⟩ = some (.int .i64 a1_9) := (blk_cell BK126.out 9).trans rfl; have hcz10_10 : w9.cell? ⟨gb126, 10, none⟩ = some (.int .i64 a1_10) := (blk_cell BK126.out 10).trans rfl; have hcz10_11 : w9.cell? ⟨gb126, 11, none⟩ = some (.bool a1_11) := (blk_cell BK126.out 11).trans rfl; have hcz10_12 : w9.cell? ⟨gb126, 12, none⟩ = some (.int .i64 a1_12) := (blk_cell BK126.out 12).trans rfl; have hcz10_13 : w9.cell? ⟨gb126, 13, none⟩ = some (.bool a1_13) := (blk_cell BK126.out 13).trans rfl; have hcz10_14 : w9.cell? ⟨gb126, 14, none⟩ = some (.int .i64 a1_14) := (blk_cell BK126.out 14).trans rfl; have hcz10_15 : w9.cell? ⟨gb126, 15, none⟩ = some (.int .i64 a1_15) := (blk_cell BK126.out 15).trans rfl; have hfz10_0 := blk_frozen BK126.out 0; have hfz10_1 := blk_frozen BK126.out 1; have hfz10_2 := blk_frozen BK126.out 2; have hfz10_3 := blk_frozen BK126.out 3; have hfz10_4 := blk_frozen BK126.out 4; have hfz10_5 := blk_frozen BK126.out 5; have hfz10_6 := blk_frozen BK126.out 6; have hfz10_7 := blk_frozen BK126.out 7; have hfz10_8 := blk_frozen BK126.out 8; have hfz10_9 := blk_frozen BK126.out 9; have hfz10_10 := blk_frozen BK126.out 10; have hfz10_11 := blk_frozen BK126.out 11; have hfz10_12 := blk_frozen BK126.out 12; have hfz10_13 := blk_frozen BK126.out 13; have hfz10_14 := blk_frozen BK126.out 14; have hfz10_15 := blk_frozen BK126.out 15) | ((with_reducible refine gate_callee (f := 16) rfl ?_); refine goesL_ (some 12) rfl rfl Tryd.func16 (by kernel_rfl) rfl #[.int .i64 a0, .agg #[.int .i64 a1_0, .int .i64 a1_1, .int .i64 a1_2, .int .i64 a1_3, .bool a1_4, .int .i64 a1_5, .int .i64 a1_6, .int .i64 a1_7, .bool a1_8, .int .i64 a1_9, .int .i64 a1_10, .bool a1_11, .int .i64 a1_12, .bool a1_13, .int .i64 a1_14, .int .i64 a1_15]] rfl (by (try simp only [List.map_toArray, List.map_cons, List.map_nil]); first | done | rfl | (simp only [List.length_drop, List.length_take]; rfl)) ?_; (with_reducible refine (gutterref06_Used.calls k a0 a1_0 a1_1 a1_2 a1_3 a1_4 a1_5 a1_6 a1_7 a1_8 a1_9 a1_10 a1_11 a1_12 a1_13 a1_14 a1_15 t127 t128 t129 _ A3.out).mono ?_); rintro e w11 ⟨rfl, hb⟩; refine ⟨_, rfl, ?_⟩; have n0_ := Aside0.mk (blk_below (g := gb126) (o := .cells #[.int .i64 a1_0, .int .i64 a1_1, .int .i64 a1_2, .int .i64 a1_3, .bool a1_4, .int .i64 a1_5, .int .i64 a1_6, .int .i64 a1_7, .bool a1_8, .int .i64 a1_9, .int .i64 a1_10, .bool a1_11, .int .i64 a1_12, .bool a1_13, .int .i64 a1_14, .int .i64 a1_15] 23 (0, 0)) (by (with_reducible repeat (first | refine blk_drewN ?_ _ | refine blk_drew ?_ | refine blk_alloc ?_ _)); exact BK126.out) hb); have n1_ := Aside0.mk (below_step (by repeat (first | (with_reducible first | exact HB.out | apply below_alloc | apply pw_below_drewN | apply below_drew1 | refine below_set ?_ GE126.out) | exact HB.out)) hb); clear BK126; clear HB; have BK126 := n0_; have HB := n1_; clear n0_ n1_; (try clear hb); (try clear hb2); (try clear hk); (try clear hi)))
    go_ret2
    exact ⟨by first | rfl | (simp [errW_none, errW_some] <;> rfl) | (simp [*, errW_none, errW_some] <;> rfl), by repeat (first | (with_reducible first | exact HB.out | apply below_alloc | apply pw_below_drewN | apply below_drew1 | refine below_set ?_ GE126.out) | exact HB.out)⟩


/-! ### gutterref06_At: function 20 -/
def gutterref06_At.l0 : Nat → Int → Int → Int → Int → Int → Int → Int → Int → Bool → Int → Int → Int → Bool → Int → Int → Bool → Int → Bool → Int → Int → Option (Int × Bool × Int)
  | 0, _, _, _, _, _, _, _, _, _, _, _, _, _, _, _, _, _, _, _, _ => none
  | k + 1, x2, x9, x10, x12, x131000, x131001, x131002, x131003, x131004, x131005, x131006, x131007, x131008, x131009, x131010, x131011, x131012, x131013, x131014, x131015 => if x12 < x9 then (if x2 ≥ (wrap64 (x12 * (wrap64 (x10 + x131002)))) then (if x2 < (wrap64 ((wrap64 (x12 * (wrap64 (x10 + x131002)))) + x10)) then (some (x12, true, 0)) else (gutterref06_At.l0 k x2 x9 x10 (wrap64 (x12 + 1)) x131000 x131001 x131002 x131003 x131004 x131005 x131006 x131007 x131008 x131009 x131010 x131011 x131012 x131013 x131014 x131015)) else (gutterref06_At.l0 k x2 x9 x10 (wrap64 (x12 + 1)) x131000 x131001 x131002 x131003 x131004 x131005 x131006 x131007 x131008 x131009 x131010 x131011 x131012 x131013 x131014 x131015)) else (some (0, false, 0))
def gutterref06_At.f (k : Nat) (a0 : Int) (a1_0 : Int) (a1_1 : Int) (a1_2 : Int) (a1_3 : Int) (a1_4 : Bool) (a1_5 : Int) (a1_6 : Int) (a1_7 : Int) (a1_8 : Bool) (a1_9 : Int) (a1_10 : Int) (a1_11 : Bool) (a1_12 : Int) (a1_13 : Bool) (a1_14 : Int) (a1_15 : Int) (a2 : Int) : Option (Int × Bool × Int) := (gutterref06_Used.f k a0 a1_0 a1_1 a1_2 a1_3 a1_4 a1_5 a1_6 a1_7 a1_8 a1_9 a1_10 a1_11 a1_12 a1_13 a1_14 a1_15).bind fun bt131 => (if bt131.2.2 = 0 then (gutterref06_At.l0 k a2 bt131.1 bt131.2.1 0 a1_0 a1_1 a1_2 a1_3 a1_4 a1_5 a1_6 a1_7 a1_8 a1_9 a1_10 a1_11 a1_12 a1_13 a1_14 a1_15) else (some (0, false, bt131.2.2)))
theorem gutterref06_At.mono_l : ∀ k, (∀ y0 y1 y2 y3 y4 y5 y6 y7 y8 y9 y10 y11 y12 y13 y14 y15 y16 y17 y18 y19, LeO (gutterref06_At.l0 k y0 y1 y2 y3 y4 y5 y6 y7 y8 y9 y10 y11 y12 y13 y14 y15 y16 y17 y18 y19) (gutterref06_At.l0 (k + 1) y0 y1 y2 y3 y4 y5 y6 y7 y8 y9 y10 y11 y12 y13 y14 y15 y16 y17 y18 y19))
  | 0 => fun _ _ _ _ _ _ _ _ _ _ _ _ _ _ _ _ _ _ _ _ r h => by simp [gutterref06_At.l0] at h
  | k + 1 => by
    have ih0 := gutterref06_At.mono_l k
    · intro y0 y1 y2 y3 y4 y5 y6 y7 y8 y9 y10 y11 y12 y13 y14 y15 y16 y17 y18 y19
      unfold gutterref06_At.l0
      repeat' first
      | (with_reducible exact ih0 _ _ _ _ _ _ _ _ _ _ _ _ _ _ _ _ _ _ _ _)
      | (with_reducible exact gutterref06_Used.mono _ _ _ _ _ _ _ _ _ _ _ _ _ _ _ _ _ _)
      | (with_reducible exact LeO.refl _)
      | (with_reducible exact LeO.none _)
      | (with_reducible refine LeO.ite ?_ ?_)
      | (with_reducible refine LeO.bind ?_ (fun _ => ?_))
      | exact ih0 _ _ _ _ _ _ _ _ _ _ _ _ _ _ _ _ _ _ _ _
      | exact gutterref06_Used.mono _ _ _ _ _ _ _ _ _ _ _ _ _ _ _ _ _ _
      | exact LeO.none _
      | refine LeO.ite ?_ ?_
      | refine LeO.bind ?_ (fun _ => ?_)
theorem gutterref06_At.mono : ∀ a0 a1 a2 a3 a4 a5 a6 a7 a8 a9 a10 a11 a12 a13 a14 a15 a16 a17 k, LeO (gutterref06_At.f k a0 a1 a2 a3 a4 a5 a6 a7 a8 a9 a10 a11 a12 a13 a14 a15 a16 a17) (gutterref06_At.f (k + 1) a0 a1 a2 a3 a4 a5 a6 a7 a8 a9 a10 a11 a12 a13 a14 a15 a16 a17) := by
  intro a0 a1 a2 a3 a4 a5 a6 a7 a8 a9 a10 a11 a12 a13 a14 a15 a16 a17 k
  have ih0 := gutterref06_At.mono_l k
  unfold gutterref06_At.f
  repeat' first
      | (with_reducible exact ih0 _ _ _ _ _ _ _ _ _ _ _ _ _ _ _ _ _ _ _ _)
      | (with_reducible exact gutterref06_Used.mono _ _ _ _ _ _ _ _ _ _ _ _ _ _ _ _ _ _)
      | (with_reducible exact LeO.refl _)
      | (with_reducible exact LeO.none _)
      | (with_reducible refine LeO.ite ?_ ?_)
      | (with_reducible refine LeO.bind ?_ (fun _ => ?_))
      | exact ih0 _ _ _ _ _ _ _ _ _ _ _ _ _ _ _ _ _ _ _ _
      | exact gutterref06_Used.mono _ _ _ _ _ _ _ _ _ _ _ _ _ _ _ _ _ _
      | exact LeO.none _
      | refine LeO.ite ?_ ?_
      | refine LeO.bind ?_ (fun _ => ?_)
set_option maxHeartbeats 8000000 in
set_option maxRecDepth 100000 in
theorem gutterref06_At.calls (k : Nat) (a0 : Int) (a1_0 : Int) (a1_1 : Int) (a1_2 : Int) (a1_3 : Int) (a1_4 : Bool) (a1_5 : Int) (a1_6 : Int) (a1_7 : Int) (a1_8 : Bool) (a1_9 : Int) (a1_10 : Int) (a1_11 : Bool) (a1_12 : Int) (a1_13 : Bool) (a1_14 : Int) (a1_15 : Int) (a2 : Int) (r1 : Int) (r2 : Bool) (r3 : Int) (w : World) (h : gutterref06_At.f k a0 a1_0 a1_1 a1_2 a1_3 a1_4 a1_5 a1_6 a1_7 a1_8 a1_9 a1_10 a1_11 a1_12 a1_13 a1_14 a1_15 a2 = some (r1, r2, r3)) :
    Calls Tryd.prog 20 #[.int .i64 a0, .agg #[.int .i64 a1_0, .int .i64 a1_1, .int .i64 a1_2, .int .i64 a1_3, .bool a1_4, .int .i64 a1_5, .int .i64 a1_6, .int .i64 a1_7, .bool a1_8, .int .i64 a1_9, .int .i64 a1_10, .bool a1_11, .int .i64 a1_12, .bool a1_13, .int .i64 a1_14, .int .i64 a1_15], .int .i64 a2] w fun e w' => e = .returned (.tuple #[.int .i64 r1, .bool r2, .int .i64 r3]) ∧ Below w.heap.size w w' := by
  have hu23 := Tryd.underlying23
  have HB := Aside0.mk (Below.refl w.heap.size w)
  have H : ((gutterref06_Used.f k a0 a1_0 a1_1 a1_2 a1_3 a1_4 a1_5 a1_6 a1_7 a1_8 a1_9 a1_10 a1_11 a1_12 a1_13 a1_14 a1_15).bind fun bt131 => (if bt131.2.2 = 0 then (gutterref06_At.l0 k a2 bt131.1 bt131.2.1 0 a1_0 a1_1 a1_2 a1_3 a1_4 a1_5 a1_6 a1_7 a1_8 a1_9 a1_10 a1_11 a1_12 a1_13 a1_14 a1_15) else (some (0, false, bt131.2.2)))) = some (r1, r2, r3) := h
  clear h
  replace H := Option.bind_eq_some_iff.mp H
  obtain ⟨⟨t131, t132, t133⟩, A40, H⟩ := H
  replace H : (if t133 = 0 then (gutterref06_At.l0 k a2 t131 t132 0 a1_0 a1_1 a1_2 a1_3 a1_4 a1_5 a1_6 a1_7 a1_8 a1_9 a1_10 a1_11 a1_12 a1_13 a1_14 a1_15) else (some (0, false, t133))) = some (r1, r2, r3) := H
  have A4 := Aside0.mk A40
  clear A40
  by_cases c5 : t133 = 0
  · rw [if_pos c5] at H
    have c5b0 : (t133 == 0) = true := beq_iff_eq.mpr c5
    have c5b1 : (t133 != 0) = false := bne_eq_false_iff_eq.mpr c5
    clear c5
    have H' := Aside0.mk H
    clear H
    go_enter Tryd.func20, Tryd.ntmps20
    go_wp2_with (first | ((with_reducible refine gate_dst (N := 4) rfl ?_); refine box_event ?hg (N := 4) ?hd (cs := #[.int .i64 a1_0, .int .i64 a1_1, .int .i64 a1_2, .int .i64 a1_3, .bool a1_4, .int .i64 a1_5, .int .i64 a1_6, .int .i64 a1_7, .bool a1_8, .int .i64 a1_9, .int .i64 a1_10, .bool a1_11, .int .i64 a1_12, .bool a1_13, .int .i64 a1_14, .int .i64 a1_15]) (t := 23) ?hr ?_; (case hd => rfl); (case hg => rfl); (case hr => first | (go_simp; done) | (go_simp; rfl)); intro gb130 hg w6 hbox hb; have n0_ := Aside0.mk (below_step (by repeat (first | (with_reducible first | exact HB.out | apply below_alloc | apply pw_below_drewN | apply below_drew1) | exact HB.out)) hb); have n1_ := Aside0.mk (hbox); have n2_ := Aside0.mk ((by rw [hg]; exact (below_size (by repeat (first | (with_reducible first | exact HB.out | apply below_alloc | apply pw_below_drewN | apply below_drew1) | exact HB.out))) : w.heap.size ≤ gb130)); have n3_ := Aside0.mk ((by rw [hg]; exact (below_size (by repeat (first | (with_reducible first | exact HB.out | apply below_alloc | apply pw_below_drewN | apply below_drew1) | exact HB.out))) : w.heap.size ≤ gb130)); clear HB; have HB := n0_; have BK130 := n1_; have GW130 := n2_; have GE130 := n3_; clear n0_ n1_ n2_ n3_; clear hb hbox hg; have hcz7_0 : w6.cell? ⟨gb130, 0, none⟩ = some (.int .i64 a1_0) := (blk_cell BK130.out 0).trans rfl; have hcz7_1 : w6.cell? ⟨gb130, 1, none⟩ = some (.int .i64 a1_1) := (blk_cell BK130.out 1).trans rfl; have hcz7_2 : w6.cell? ⟨gb130, 2, none⟩ = some (.int .i64 a1_2) := (blk_cell BK130.out 2).trans rfl; have hcz7_3 : w6.cell? ⟨gb130, 3, none⟩ = some (.int .i64 a1_3) := (blk_cell BK130.out 3).trans rfl; have hcz7_4 : w6.cell? ⟨gb130, 4, none⟩ = some (.bool a1_4) := (blk_cell BK130.out 4).trans rfl; have hcz7_5 : w6.cell? ⟨gb130, 5, none⟩ = some (.int .i64 a1_5) := (blk_cell BK130.out 5).trans rfl; have hcz7_6 : w6.cell? ⟨gb130, 6, none⟩ = some (.int .i64 a1_6) := (blk_cell BK130.out 6).trans rfl; have hcz7_7 : w6.cell? ⟨gb130, 7, none⟩ = some (.int .i64 a1_7) := (blk_cell BK130.out 7).trans rfl; have hcz7_8 : w6.cell? ⟨gb130, 8, none⟩ = some (.bool a1_8) := (blk_cell BK130.out 8).trans rfl; have hcz7_9 : w6.cell? ⟨gb130, 9, none⟩ = some (.int .i64 a1_9) := (blk_cell BK130.out 9).trans rfl; have hcz7_10 : w6.cell? ⟨gb130, 10, none⟩ = some (.int .i64 a1_10) := (blk_cell BK130.out 10).trans rfl; have hcz7_11 : w6.cell? ⟨gb130, 11, none⟩ = some (.bool a1_11) := (blk_cell BK130.out 11).trans rfl; have hcz7_12 : w6.cell? ⟨gb130, 12, none⟩ = some (.int .i64 a1_12) := (blk_cell BK130.out 12).trans rfl; have hcz7_13 : w6.cell? ⟨gb130, 13, none⟩ = some (.bool a1_13) := (blk_cell BK130.out 13).trans rfl; have hcz7_14 : w6.cell? ⟨gb130, 14, none⟩ = some (.int .i64 a1_14) := (blk_cell BK130.out 14).trans rfl; have hcz7_15 : w6.cell? ⟨gb130, 15, none⟩ = some (.int .i64 a1_15) := (blk_cell BK130.out 15).trans rfl; have hfz7_0 := blk_frozen BK130.out 0; have hfz7_1 := blk_frozen BK130.out 1; have hfz7_2 := blk_frozen BK130.out 2; have hfz7_3 := blk_frozen BK130.out 3; have hfz7_4 := blk_frozen BK130.out 4; have hfz7_5 := blk_frozen BK130.out 5; have hfz7_6 := blk_frozen BK130.out 6; have hfz7_7 := blk_frozen BK130.out 7; have hfz7_8 := blk_frozen BK130.out 8; have hfz7_9 := blk_frozen BK130.out 9; have hfz7_10 := blk_frozen BK130.out 10; have hfz7_11 := blk_frozen BK130.out 11; have hfz7_12 := blk_frozen BK130.out 12; have hfz7_13 := blk_frozen BK130.out 13; have hfz7_14 := blk_frozen BK130.out 14; have hfz7_15 := blk_frozen BK130.out 15) | ((with_reducible refine gate_callee (f := 16) rfl ?_); refine goesL_ (some 17) rfl rfl Tryd.func16 (by kernel_rfl) rfl #[.int .i64 a0, .agg #[.int .i64 a1_0, .int .i64 a1_1, .int .i64 a1_2, .int .i64 a1_3, .bool a1_4, .int .i64 a1_5, .int .i64 a1_6, .int .i64 a1_7, .bool a1_8, .int .i64 a1_9, .int .i64 a1_10, .bool a1_11, .int .i64 a1_12, .bool a1_13, .int .i64 a1_14, .int .i64 a1_15]] rfl (by (try simp only [List.map_toArray, List.map_cons, List.map_nil]); first | done | rfl | (simp only [List.length_drop, List.length_take]; rfl)) ?_; (with_reducible refine (gutterref06_Used.calls k a0 a1_0 a1_1 a1_2 a1_3 a1_4 a1_5 a1_6 a1_7 a1_8 a1_9 a1_10 a1_11 a1_12 a1_13 a1_14 a1_15 t131 t132 t133 _ A4.out).mono ?_); rintro e w8 ⟨rfl, hb⟩; refine ⟨_, rfl, ?_⟩; have n0_ := Aside0.mk (blk_below (g := gb130) (o := .cells #[.int .i64 a1_0, .int .i64 a1_1, .int .i64 a1_2, .int .i64 a1_3, .bool a1_4, .int .i64 a1_5, .int .i64 a1_6, .int .i64 a1_7, .bool a1_8, .int .i64 a1_9, .int .i64 a1_10, .bool a1_11, .int .i64 a1_12, .bool a1_13, .int .i64 a1_14, .int .i64 a1_15] 23 (0, 0)) (by (with_reducible repeat (first | refine blk_drewN ?_ _ | refine blk_drew ?_ | refine blk_alloc ?_ _)); exact BK130.out) hb); have n1_ := Aside0.mk (below_step (by repeat (first | (with_reducible first | exact HB.out | apply below_alloc | apply pw_below_drewN | apply below_drew1 | refine below_set ?_ GE130.out) | exact HB.out)) hb); clear BK130; clear HB; have BK130 := n0_; have HB := n1_; clear n0_ n1_; (try clear hb); (try clear hb2); (try clear hk); (try clear hi)))
    go_loopg [12] k (fun kq v12 w' => ∃ (x12_1 : Int), v12 = .int .i64 x12_1 ∧ Aside0 (gutterref06_At.l0 kq a2 t131 t132 x12_1 a1_0 a1_1 a1_2 a1_3 a1_4 a1_5 a1_6 a1_7 a1_8 a1_9 a1_10 a1_11 a1_12 a1_13 a1_14 a1_15 = some (r1, r2, r3)) ∧ Aside0 (kq ≤ k) ∧ Aside0 (w'.heap[gb130]? = some (.cells #[.int .i64 a1_0, .int .i64 a1_1, .int .i64 a1_2, .int .i64 a1_3, .bool a1_4, .int .i64 a1_5, .int .i64 a1_6, .int .i64 a1_7, .bool a1_8, .int .i64 a1_9, .int .i64 a1_10, .bool a1_11, .int .i64 a1_12, .bool a1_13, .int .i64 a1_14, .int .i64 a1_15] 23 (0, 0))) ∧ Aside0 (Below w.heap.size w w'))
    case atStart => exact ⟨(0), (by first | rfl | (simp; done) | (simp [*]; done)), H', ⟨Nat.le_refl _⟩, ⟨by (with_reducible repeat (first | refine blk_drewN ?_ _ | refine blk_drew ?_ | refine blk_alloc ?_ _)); exact BK130.out⟩, ⟨by repeat (first | (with_reducible first | exact HB.out | apply below_alloc | apply pw_below_drewN | apply below_drew1 | refine below_set ?_ GE130.out) | exact HB.out)⟩⟩
    case round =>
      clear H'
      try clear c1
      try clear c2
      try clear p2
      try clear c5
      try clear c5b0
      try clear c5b1
      try clear hcz7_0
      try clear hcz7_1
      try clear hcz7_10
      try clear hcz7_11
      try clear hcz7_12
      try clear hcz7_13
      try clear hcz7_14
      try clear hcz7_15
      try clear hcz7_2
      try clear hcz7_3
      try clear hcz7_4
      try clear hcz7_5
      try clear hcz7_6
      try clear hcz7_7
      try clear hcz7_8
      try clear hcz7_9
      try clear hfz7_0
      try clear hfz7_1
      try clear hfz7_10
      try clear hfz7_11
      try clear hfz7_12
      try clear hfz7_13
      try clear hfz7_14
      try clear hfz7_15
      try clear hfz7_2
      try clear hfz7_3
      try clear hfz7_4
      try clear hfz7_5
      try clear hfz7_6
      try clear hfz7_7
      try clear hfz7_8
      try clear hfz7_9
      obtain ⟨x12_1, rfl, HA, HK1, BK130, HB⟩ := hrel
      cases gk with
      | zero => exact absurd HA.out (by simp [gutterref06_At.l0])
      | succ k1 =>
        have H := HA.out
        clear HA
        simp only [gutterref06_At.l0] at H
        by_cases c9 : x12_1 < t131
        · rw [if_pos c9] at H
          have c9b0 : decide (x12_1 < t131) = true := decide_eq_true c9
          clear c9
          by_cases c10 : a2 ≥ (wrap64 (x12_1 * (wrap64 (t132 + a1_2))))
          · rw [if_pos c10] at H
            have c10b0 : decide ((wrap64 (x12_1 * (wrap64 (t132 + a1_2)))) ≤ a2) = true := decide_eq_true c10
            clear c10
            by_cases c11 : a2 < (wrap64 ((wrap64 (x12_1 * (wrap64 (t132 + a1_2)))) + t132))
            · rw [if_pos c11] at H
              have c11b0 : decide (a2 < (wrap64 ((wrap64 (x12_1 * (wrap64 (t132 + a1_2)))) + t132))) = true := decide_eq_true c11
              clear c11
              simp only [Option.some.injEq, Prod.mk.injEq] at H
              obtain ⟨rfl, rfl, rfl⟩ := H
              have hcz12_0 : wr.cell? ⟨gb130, 0, none⟩ = some (.int .i64 a1_0) := (blk_cell BK130.out 0).trans rfl
              have hcz12_1 : wr.cell? ⟨gb130, 1, none⟩ = some (.int .i64 a1_1) := (blk_cell BK130.out 1).trans rfl
              have hcz12_2 : wr.cell? ⟨gb130, 2, none⟩ = some (.int .i64 a1_2) := (blk_cell BK130.out 2).trans rfl
              have hcz12_3 : wr.cell? ⟨gb130, 3, none⟩ = some (.int .i64 a1_3) := (blk_cell BK130.out 3).trans rfl
              have hcz12_4 : wr.cell? ⟨gb130, 4, none⟩ = some (.bool a1_4) := (blk_cell BK130.out 4).trans rfl
              have hcz12_5 : wr.cell? ⟨gb130, 5, none⟩ = some (.int .i64 a1_5) := (blk_cell BK130.out 5).trans rfl
              have hcz12_6 : wr.cell? ⟨gb130, 6, none⟩ = some (.int .i64 a1_6) := (blk_cell BK130.out 6).trans rfl
              have hcz12_7 : wr.cell? ⟨gb130, 7, none⟩ = some (.int .i64 a1_7) := (blk_cell BK130.out 7).trans rfl
              have hcz12_8 : wr.cell? ⟨gb130, 8, none⟩ = some (.bool a1_8) := (blk_cell BK130.out 8).trans rfl
              have hcz12_9 : wr.cell? ⟨gb130, 9, none⟩ = some (.int .i64 a1_9) := (blk_cell BK130.out 9).trans rfl
              have hcz12_10 : wr.cell? ⟨gb130, 10, none⟩ = some (.int .i64 a1_10) := (blk_cell BK130.out 10).trans rfl
              have hcz12_11 : wr.cell? ⟨gb130, 11, none⟩ = some (.bool a1_11) := (blk_cell BK130.out 11).trans rfl
              have hcz12_12 : wr.cell? ⟨gb130, 12, none⟩ = some (.int .i64 a1_12) := (blk_cell BK130.out 12).trans rfl
              have hcz12_13 : wr.cell? ⟨gb130, 13, none⟩ = some (.bool a1_13) := (blk_cell BK130.out 13).trans rfl
              have hcz12_14 : wr.cell? ⟨gb130, 14, none⟩ = some (.int .i64 a1_14) := (blk_cell BK130.out 14).trans rfl
              have hcz12_15 : wr.cell? ⟨gb130, 15, none⟩ = some (.int .i64 a1_15) := (blk_cell BK130.out 15).trans rfl
              have hfz12_0 := blk_frozen BK130.out 0
              have hfz12_1 := blk_frozen BK130.out 1
              have hfz12_2 := blk_frozen BK130.out 2
              have hfz12_3 := blk_frozen BK130.out 3
              have hfz12_4 := blk_frozen BK130.out 4
              have hfz12_5 := blk_frozen BK130.out 5
              have hfz12_6 := blk_frozen BK130.out 6
              have hfz12_7 := blk_frozen BK130.out 7
              have hfz12_8 := blk_frozen BK130.out 8
              have hfz12_9 := blk_frozen BK130.out 9
              have hfz12_10 := blk_frozen BK130.out 10
              have hfz12_11 := blk_frozen BK130.out 11
              have hfz12_12 := blk_frozen BK130.out 12
              have hfz12_13 := blk_frozen BK130.out 13
              have hfz12_14 := blk_frozen BK130.out 14
              have hfz12_15 := blk_frozen BK130.out 15
              go_wp2
              go_ret3
              exact ⟨by first | rfl | (simp [errW_none, errW_some] <;> rfl) | (simp [*, errW_none, errW_some] <;> rfl), by repeat (first | (with_reducible first | exact HB.out | apply below_alloc | apply pw_below_drewN | apply below_drew1 | refine below_set ?_ GE130.out) | exact HB.out)⟩
            · rw [if_neg c11] at H
              have c11b0 : decide (a2 < (wrap64 ((wrap64 (x12_1 * (wrap64 (t132 + a1_2)))) + t132))) = false := decide_eq_false c11
              clear c11
              have H' := Aside0.mk H
              clear H
              have hcz13_0 : wr.cell? ⟨gb130, 0, none⟩ = some (.int .i64 a1_0) := (blk_cell BK130.out 0).trans rfl
              have hcz13_1 : wr.cell? ⟨gb130, 1, none⟩ = some (.int .i64 a1_1) := (blk_cell BK130.out 1).trans rfl
              have hcz13_2 : wr.cell? ⟨gb130, 2, none⟩ = some (.int .i64 a1_2) := (blk_cell BK130.out 2).trans rfl
              have hcz13_3 : wr.cell? ⟨gb130, 3, none⟩ = some (.int .i64 a1_3) := (blk_cell BK130.out 3).trans rfl
              have hcz13_4 : wr.cell? ⟨gb130, 4, none⟩ = some (.bool a1_4) := (blk_cell BK130.out 4).trans rfl
              have hcz13_5 : wr.cell? ⟨gb130, 5, none⟩ = some (.int .i64 a1_5) := (blk_cell BK130.out 5).trans rfl
              have hcz13_6 : wr.cell? ⟨gb130, 6, none⟩ = some (.int .i64 a1_6) := (blk_cell BK130.out 6).trans rfl
              have hcz13_7 : wr.cell? ⟨gb130, 7, none⟩ = some (.int .i64 a1_7) := (blk_cell BK130.out 7).trans rfl
              have hcz13_8 : wr.cell? ⟨gb130, 8, none⟩ = some (.bool a1_8) := (blk_cell BK130.out 8).trans rfl
              have hcz13_9 : wr.cell? ⟨gb130, 9, none⟩ = some (.int .i64 a1_9) := (blk_cell BK130.out 9).trans rfl
              have hcz13_10 : wr.cell? ⟨gb130, 10, none⟩ = some (.int .i64 a1_10) := (blk_cell BK130.out 10).trans rfl
              have hcz13_11 : wr.cell? ⟨gb130, 11, none⟩ = some (.bool a1_11) := (blk_cell BK130.out 11).trans rfl
              have hcz13_12 : wr.cell? ⟨gb130, 12, none⟩ = some (.int .i64 a1_12) := (blk_cell BK130.out 12).trans rfl
              have hcz13_13 : wr.cell? ⟨gb130, 13, none⟩ = some (.bool a1_13) := (blk_cell BK130.out 13).trans rfl
              have hcz13_14 : wr.cell? ⟨gb130, 14, none⟩ = some (.int .i64 a1_14) := (blk_cell BK130.out 14).trans rfl
              have hcz13_15 : wr.cell? ⟨gb130, 15, none⟩ = some (.int .i64 a1_15) := (blk_cell BK130.out 15).trans rfl
              have hfz13_0 := blk_frozen BK130.out 0
              have hfz13_1 := blk_frozen BK130.out 1
              have hfz13_2 := blk_frozen BK130.out 2
              have hfz13_3 := blk_frozen BK130.out 3
              have hfz13_4 := blk_frozen BK130.out 4
              have hfz13_5 := blk_frozen BK130.out 5
              have hfz13_6 := blk_frozen BK130.out 6
              have hfz13_7 := blk_frozen BK130.out 7
              have hfz13_8 := blk_frozen BK130.out 8
              have hfz13_9 := blk_frozen BK130.out 9
              have hfz13_10 := blk_frozen BK130.out 10
              have hfz13_11 := blk_frozen BK130.out 11
              have hfz13_12 := blk_frozen BK130.out 12
              have hfz13_13 := blk_frozen BK130.out 13
              have hfz13_14 := blk_frozen BK130.out 14
              have hfz13_15 := blk_frozen BK130.out 15
              go_wp2
              go_roundg k1
              case measure => have := HK1.out; omega
              case rel => exact ⟨(wrap64 (x12_1 + 1)), (by first | rfl | (simp; done) | (simp [*]; done)), H', ⟨by have := HK1.out; omega⟩, ⟨by (with_reducible repeat (first | refine blk_drewN ?_ _ | refine blk_drew ?_ | refine blk_alloc ?_ _)); exact BK130.out⟩, ⟨by repeat (first | (with_reducible first | exact HB.out | apply below_alloc | apply pw_below_drewN | apply below_drew1 | refine below_set ?_ GE130.out) | exact HB.out)⟩⟩
          · rw [if_neg c10] at H
            have c10b0 : decide ((wrap64 (x12_1 * (wrap64 (t132 + a1_2)))) ≤ a2) = false := decide_eq_false c10
            clear c10
            have H' := Aside0.mk H
            clear H
            have hcz14_0 : wr.cell? ⟨gb130, 0, none⟩ = some (.int .i64 a1_0) := (blk_cell BK130.out 0).trans rfl
            have hcz14_1 : wr.cell? ⟨gb130, 1, none⟩ = some (.int .i64 a1_1) := (blk_cell BK130.out 1).trans rfl
            have hcz14_2 : wr.cell? ⟨gb130, 2, none⟩ = some (.int .i64 a1_2) := (blk_cell BK130.out 2).trans rfl
            have hcz14_3 : wr.cell? ⟨gb130, 3, none⟩ = some (.int .i64 a1_3) := (blk_cell BK130.out 3).trans rfl
            have hcz14_4 : wr.cell? ⟨gb130, 4, none⟩ = some (.bool a1_4) := (blk_cell BK130.out 4).trans rfl
            have hcz14_5 : wr.cell? ⟨gb130, 5, none⟩ = some (.int .i64 a1_5) := (blk_cell BK130.out 5).trans rfl
            have hcz14_6 : wr.cell? ⟨gb130, 6, none⟩ = some (.int .i64 a1_6) := (blk_cell BK130.out 6).trans rfl
            have hcz14_7 : wr.cell? ⟨gb130, 7, none⟩ = some (.int .i64 a1_7) := (blk_cell BK130.out 7).trans rfl
            have hcz14_8 : wr.cell? ⟨gb130, 8, none⟩ = some (.bool a1_8) := (blk_cell BK130.out 8).trans rfl
            have hcz14_9 : wr.cell? ⟨gb130, 9, none⟩ = some (.int .i64 a1_9) := (blk_cell BK130.out 9).trans rfl
            have hcz14_10 : wr.cell? ⟨gb130, 10, none⟩ = some (.int .i64 a1_10) := (blk_cell BK130.out 10).trans rfl
            have hcz14_11 : wr.cell? ⟨gb130, 11, none⟩ = some (.bool a1_11) := (blk_cell BK130.out 11).trans rfl
            have hcz14_12 : wr.cell? ⟨gb130, 12, none⟩ = some (.int .i64 a1_12) := (blk_cell BK130.out 12).trans rfl
            have hcz14_13 : wr.cell? ⟨gb130, 13, none⟩ = some (.bool a1_13) := (blk_cell BK130.out 13).trans rfl
            have hcz14_14 : wr.cell? ⟨gb130, 14, none⟩ = some (.int .i64 a1_14) := (blk_cell BK130.out 14).trans rfl
            have hcz14_15 : wr.cell? ⟨gb130, 15, none⟩ = some (.int .i64 a1_15) := (blk_cell BK130.out 15).trans rfl
            have hfz14_0 := blk_frozen BK130.out 0
            have hfz14_1 := blk_frozen BK130.out 1
            have hfz14_2 := blk_frozen BK130.out 2
            have hfz14_3 := blk_frozen BK130.out 3
            have hfz14_4 := blk_frozen BK130.out 4
            have hfz14_5 := blk_frozen BK130.out 5
            have hfz14_6 := blk_frozen BK130.out 6
            have hfz14_7 := blk_frozen BK130.out 7
            have hfz14_8 := blk_frozen BK130.out 8
            have hfz14_9 := blk_frozen BK130.out 9
            have hfz14_10 := blk_frozen BK130.out 10
            have hfz14_11 := blk_frozen BK130.out 11
            have hfz14_12 := blk_frozen BK130.out 12
            have hfz14_13 := blk_frozen BK130.out 13
            have hfz14_14 := blk_frozen BK130.out 14
            have hfz14_15 := blk_frozen BK130.out 15
            go_wp2
            go_roundg k1
            case measure => have := HK1.out; omega
            case rel => exact ⟨(wrap64 (x12_1 + 1)), (by first | rfl | (simp; done) | (simp [*]; done)), H', ⟨by have := HK1.out; omega⟩, ⟨by (with_reducible repeat (first | refine blk_drewN ?_ _ | refine blk_drew ?_ | refine blk_alloc ?_ _)); exact BK130.out⟩, ⟨by repeat (first | (with_reducible first | exact HB.out | apply below_alloc | apply pw_below_drewN | apply below_drew1 | refine below_set ?_ GE130.out) | exact HB.out)⟩⟩
        · rw [if_neg c9] at H
          have c9b0 : decide (x12_1 < t131) = false := decide_eq_false c9
          clear c9
          simp only [Option.some.injEq, Prod.mk.injEq] at H
          obtain ⟨rfl, rfl, rfl⟩ := H
          go_wp2
          go_ret3
          exact ⟨by first | rfl | (simp [errW_none, errW_some] <;> rfl) | (simp [*, errW_none, errW_some] <;> rfl), by repeat (first | (with_reducible first | exact HB.out | apply below_alloc | apply pw_below_drewN | apply below_drew1 | refine below_set ?_ GE130.out) | exact HB.out)⟩
  · rw [if_neg c5] at H
    have c5b0 : (t133 == 0) = false := beq_eq_false_iff_ne.mpr c5
    have c5b1 : (t133 != 0) = true := bne_iff_ne.mpr c5
    simp only [Option.some.injEq, Prod.mk.injEq] at H
    obtain ⟨rfl, rfl, rfl⟩ := H
    go_enter Tryd.func20, Tryd.ntmps20
    go_wp2_with (first | ((with_reducible refine gate_dst (N := 4) rfl ?_); refine box_event ?hg (N := 4) ?hd (cs := #[.int .i64 a1_0, .int .i64 a1_1, .int .i64 a1_2, .int .i64 a1_3, .bool a1_4, .int .i64 a1_5, .int .i64 a1_6, .int .i64 a1_7, .bool a1_8, .int .i64 a1_9, .int .i64 a1_10, .bool a1_11, .int .i64 a1_12, .bool a1_13, .int .i64 a1_14, .int .i64 a1_15]) (t := 23) ?hr ?_; (case hd => rfl); (case hg => rfl); (case hr => first | (go_simp; done) | (go_simp; rfl)); intro gb130 hg w15 hbox hb; have n0_ := Aside0.mk (below_step (by repeat (first | (with_reducible first | exact HB.out | apply below_alloc | apply pw_below_drewN | apply below_drew1) | exact HB.out)) hb); have n1_ := Aside0.mk (hbox); have n2_ := Aside0.mk ((by rw [hg]; exact (below_size (by repeat (first | (with_reducible first | exact HB.out | apply below_alloc | apply pw_below_drewN | apply below_drew1) | exact HB.out))) : w.heap.size ≤ gb130)); have n3_ := Aside0.mk ((by rw [hg]; exact (below_size (by repeat (first | (with_reducible first | exact HB.out | apply below_alloc | apply pw_below_drewN | apply below_drew1) | exact HB.out))) : w.heap.size ≤ gb130)); clear HB; have HB := n0_; have BK130 := n1_; have GW130 := n2_; have GE130 := n3_; clear n0_ n1_ n2_ n3_; clear hb hbox hg; have hcz16_0 : w15.cell? ⟨gb130, 0, none⟩ = some (.int .i64 a1_0) := (blk_cell BK130.out 0).trans rfl; have hcz16_1 : w15.cell? ⟨gb130, 1, none⟩ = some (.int .i64 a1_1) := (blk_cell BK130.out 1).trans rfl; have hcz16_2 : w15.cell? ⟨gb130, 2, none⟩ = some (.int .i64 a1_2) := (blk_cell BK130.out 2).trans rfl; have hcz16_3 : w15.cell? ⟨gb130, 3, none⟩ = some (.int .i64 a1_3) := (blk_cell BK130.out 3).trans rfl; have hcz16_4 : w15.cell? ⟨gb130, 4, none⟩ = some (.bool a1_4) := (blk_cell BK130.out 4).trans rfl; have hcz16_5 : w15.cell? ⟨gb130, 5, none⟩ = some (.int .i64 a1_5) := (blk_cell BK130.out 5).trans rfl; have hcz16_6 : w15.cell? ⟨gb130, 6, none⟩ = some (.int .i64 a1_6) := (blk_cell BK130.out 6).trans rfl; have hcz16_7 : w15.cell? ⟨gb130, 7, none⟩ = some (.int .i64 a1_7) := (blk_cell BK130.out 7).trans rfl; have hcz16_8 : w15.cell? ⟨gb130, 8, none⟩ = some (.bool a1_8) := (blk_cell BK130.out 8).trans rfl; have hcz16_9 : w15.cell? ⟨gb130, 9, none⟩ = some (.int .i64 a1_9) := (blk_cell BK130.out 9).trans rfl; have hcz16_10 : w15.cell? ⟨gb130, 10, none⟩ = some (.int .i64 a1_10) := (blk_cell BK130.out 10).trans rfl; have hcz16_11 : w15.cell? ⟨gb130, 11, none⟩ = some (.bool a1_11) := (blk_cell BK130.out 11).trans rfl; have hcz16_12 : w15.cell? ⟨gb130, 12, none⟩ = some (.int .i64 a1_12) := (blk_cell BK130.out 12).trans rfl; have hcz16_13 : w15.cell? ⟨gb130, 13, none⟩ = some (.bool a1_13) := (blk_cell BK130.out 13).trans rfl; have hcz16_14 : w15.cell? ⟨gb130, 14, none⟩ = some (.int .i64 a1_14) := (blk_cell BK130.out 14).trans rfl; have hcz16_15 : w15.cell? ⟨gb130, 15, none⟩ = some (.int .i64 a1_15) := (blk_cell BK130.out 15).trans rfl; have hfz16_0 := blk_frozen BK130.out 0; have hfz16_1 := blk_frozen BK130.out 1; have hfz16_2 := blk_frozen BK130.out 2; have hfz16_3 := blk_frozen BK130.out 3; have hfz16_4 := blk_frozen BK130.out 4; have hfz16_5 := blk_frozen BK130.out 5; have hfz16_6 := blk_frozen BK130.out 6; have hfz16_7 := blk_frozen BK130.out 7; have hfz16_8 := blk_frozen BK130.out 8; have hfz16_9 := blk_frozen BK130.out 9; have hfz16_10 := blk_frozen BK130.out 10; have hfz16_11 := blk_frozen BK130.out 11; have hfz16_12 := blk_frozen BK130.out 12; have hfz16_13 := blk_frozen BK130.out 13; have hfz16_14 := blk_frozen BK130.out 14; have hfz16_15 := blk_frozen BK130.out 15) | ((with_reducible refine gate_callee (f := 16) rfl ?_); refine goesL_ (some 17) rfl rfl Tryd.func16 (by kernel_rfl) rfl #[.int .i64 a0, .agg #[.int .i64 a1_0, .int .i64 a1_1, .int .i64 a1_2, .int .i64 a1_3, .bool a1_4, .int .i64 a1_5, .int .i64 a1_6, .int .i64 a1_7, .bool a1_8, .int .i64 a1_9, .int .i64 a1_10, .bool a1_11, .int .i64 a1_12, .bool a1_13, .int .i64 a1_14, .int .i64 a1_15]] rfl (by (try simp only [List.map_toArray, List.map_cons, List.map_nil]); first | done | rfl | (simp only [List.length_drop, List.length_take]; rfl)) ?_; (with_reducible refine (gutterref06_Used.calls k a0 a1_0 a1_1 a1_2 a1_3 a1_4 a1_5 a1_6 a1_7 a1_8 a1_9 a1_10 a1_11 a1_12 a1_13 a1_14 a1_15 t131 t132 t133 _ A4.out).mono ?_); rintro e w17 ⟨rfl, hb⟩; refine ⟨_, rfl, ?_⟩; have n0_ := Aside0.mk (blk_below (g := gb130) (o := .cells #[.int .i64 a1_0, .int .i64 a1_1, .int .i64 a1_2, .int .i64 a1_3, .bool a1_4, .int .i64 a1_5, .int .i64 a1_6, .int .i64 a1_7, .bool a1_8, .int .i64 a1_9, .int .i64 a1_10, .bool a1_11, .int .i64 a1_12, .bool a1_13, .int .i64 a1_14, .int .i64 a1_15] 23 (0, 0)) (by (with_reducible repeat (first | refine blk_drewN ?_ _ | refine blk_drew ?_ | refine blk_alloc ?_ _)); exact BK130.out) hb); have n1_ := Aside0.mk (below_step (by repeat (first | (with_reducible first | exact HB.out | apply below_alloc | apply pw_below_drewN | apply below_drew1 | refine below_set ?_ GE130.out) | exact HB.out)) hb); clear BK130; clear HB; have BK130 := n0_; have HB := n1_; clear n0_ n1_; (try clear hb); (try clear hb2); (try clear hk); (try clear hi)))
    go_ret3
    exact ⟨by first | rfl | (simp [errW_none, errW_some] <;> rfl) | (simp [*, errW_none, errW_some] <;> rfl), by repeat (first | (with_reducible first | exact HB.out | apply below_alloc | apply pw_below_drewN | apply below_drew1 | refine below_set ?_ GE130.out) | exact HB.out)⟩

end Go.Proofs.YtjaoaakljcnmeaaDoor.G
