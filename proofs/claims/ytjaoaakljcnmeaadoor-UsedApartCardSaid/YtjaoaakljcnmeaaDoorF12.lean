/- Chapter 6: the reference's Right, by hand. Written by mkF12.py. -/
import Derived.Test.YtjaoaakljcnmeaaDoorF8
import Derived.Deep.DeepCutAuto
import Derived.Test.YtjaoaakljcnmeaaDoorP7
namespace Go.Proofs.YtjaoaakljcnmeaaDoor.G
open Go.RowKit Go.Proofs.YtjaoaakljcnmeaaDoorW.PrintWords Go.Proofs.YtjaoaakljcnmeaaDoorW.PrintLast Go.Proofs.YtjaoaakljcnmeaaDoorW.PrintMore
set_option linter.unusedVariables false

theorem size_any (a : Int) (w : World) : Calls Tryd.prog 35 #[.int .i64 a] w fun e w' => e = .returned (.bool (sizB a)) ∧ w = w' := by
  unfold sizB
  go_enter Tryd.func35, Tryd.ntmps35
  by_cases h1 : 0 ≤ a
  · by_cases h2 : a ≤ 1048576
    · go_wp2
      go_ret
      simp [h1, h2]
    · go_wp2
      go_ret
      simp [h2]
  · go_wp2
    go_ret
    simp only [and_true, Ending.returned.injEq]
    rw [decide_eq_false (show ¬ 0 ≤ a by omega)]
    rfl
set_option maxRecDepth 1000000 in
set_option maxHeartbeats 4000000 in
theorem Right_any (s0 : Int) (s1 : Int) (s2 : Int) (s3 : Int) (s4 : Bool) (s5 : Int) (s6 : Int) (s7 : Int) (s8 : Bool) (s9 : Int) (s10 : Int) (s11 : Bool) (s12 : Int) (s13 : Bool) (s14 : Int) (s15 : Int) (w : World) : Calls Tryd.prog 27 #[.agg (stV s0 s1 s2 s3 s4 s5 s6 s7 s8 s9 s10 s11 s12 s13 s14 s15)] w fun e w' => e = .returned (.bool ((sizB s1 && sizB s2 && sizB s3 && sizB s5 && decide ((-1048576) ≤ s14) && decide (s14 ≤ 1048576) && decide ((-1048576) ≤ s15) && decide (s15 ≤ 1048576)) && (decide (0 ≤ s0) && decide (s0 ≤ 50) && decide (1 ≤ s6) && decide (s6 ≤ 20) && decide (1 ≤ s7) && decide (s7 ≤ 20)) && (decide (0 ≤ s9) && decide (s9 ≤ 2) && decide (0 ≤ s10) && decide (s10 ≤ 2) && decide (0 ≤ s12) && decide (s12 ≤ 2)))) ∧ Below w.heap.size w w' := by
  have HK := Aside0.mk (blk_new w (.cells (stV s0 s1 s2 s3 s4 s5 s6 s7 s8 s9 s10 s11 s12 s13 s14 s15) 23))
  have HB := Aside0.mk (below_alloc (Below.refl w.heap.size w) (.cells (stV s0 s1 s2 s3 s4 s5 s6 s7 s8 s9 s10 s11 s12 s13 s14 s15) 23))
  have HS : ∃ S, S = stV s0 s1 s2 s3 s4 s5 s6 s7 s8 s9 s10 s11 s12 s13 s14 s15 := ⟨_, rfl⟩
  go_enter Tryd.func27, Tryd.ntmps27
  go_upto_region 1 with fail
  generalize w.alloc (.cells (stV s0 s1 s2 s3 s4 s5 s6 s7 s8 s9 s10 s11 s12 s13 s14 s15) 23) = W at *
  go_cut [3] (fun c wx => c = .bool (sizB s1 && sizB s2 && sizB s3 && sizB s5 && decide ((-1048576) ≤ s14) && decide (s14 ≤ 1048576) && decide ((-1048576) ≤ s15) && decide (s15 ≤ 1048576)) ∧ W = wx)
  case first =>
    have c1 : W.cell? ⟨w.heap.size, 1, none⟩ = some (.int .i64 s1) := (blk_cell HK.out 1).trans rfl
    have c2 : W.cell? ⟨w.heap.size, 2, none⟩ = some (.int .i64 s2) := (blk_cell HK.out 2).trans rfl
    have c3 : W.cell? ⟨w.heap.size, 3, none⟩ = some (.int .i64 s3) := (blk_cell HK.out 3).trans rfl
    have c5 : W.cell? ⟨w.heap.size, 5, none⟩ = some (.int .i64 s5) := (blk_cell HK.out 5).trans rfl
    have c14 : W.cell? ⟨w.heap.size, 14, none⟩ = some (.int .i64 s14) := (blk_cell HK.out 14).trans rfl
    have c15 : W.cell? ⟨w.heap.size, 15, none⟩ = some (.int .i64 s15) := (blk_cell HK.out 15).trans rfl
    clear HK HB
    cases h0 : sizB s1
    · go_wp2_with (first | (go_at_call_of 35 (Value.int .i64 s1); refine (size_any s1 _).mono ?_; rintro e w' ⟨rfl, rfl⟩; rw [h0]))
      go_meet
      exact ⟨by simp [h0], rfl⟩
    · cases h1 : sizB s2
      · go_wp2_with (first | (go_at_call_of 35 (Value.int .i64 s1); refine (size_any s1 _).mono ?_; rintro e w' ⟨rfl, rfl⟩; rw [h0]) | (go_at_call_of 35 (Value.int .i64 s2); refine (size_any s2 _).mono ?_; rintro e w' ⟨rfl, rfl⟩; rw [h1]))
        go_meet
        exact ⟨by simp [h0, h1], rfl⟩
      · cases h2 : sizB s3
        · go_wp2_with (first | (go_at_call_of 35 (Value.int .i64 s1); refine (size_any s1 _).mono ?_; rintro e w' ⟨rfl, rfl⟩; rw [h0]) | (go_at_call_of 35 (Value.int .i64 s2); refine (size_any s2 _).mono ?_; rintro e w' ⟨rfl, rfl⟩; rw [h1]) | (go_at_call_of 35 (Value.int .i64 s3); refine (size_any s3 _).mono ?_; rintro e w' ⟨rfl, rfl⟩; rw [h2]))
          go_meet
          exact ⟨by simp [h0, h1, h2], rfl⟩
        · cases h3 : sizB s5
          · go_wp2_with (first | (go_at_call_of 35 (Value.int .i64 s1); refine (size_any s1 _).mono ?_; rintro e w' ⟨rfl, rfl⟩; rw [h0]) | (go_at_call_of 35 (Value.int .i64 s2); refine (size_any s2 _).mono ?_; rintro e w' ⟨rfl, rfl⟩; rw [h1]) | (go_at_call_of 35 (Value.int .i64 s3); refine (size_any s3 _).mono ?_; rintro e w' ⟨rfl, rfl⟩; rw [h2]) | (go_at_call_of 35 (Value.int .i64 s5); refine (size_any s5 _).mono ?_; rintro e w' ⟨rfl, rfl⟩; rw [h3]))
            go_meet
            exact ⟨by simp [h0, h1, h2, h3], rfl⟩
          · cases h4 : decide ((-1048576) ≤ s14)
            · go_wp2_with (first | (go_at_call_of 35 (Value.int .i64 s1); refine (size_any s1 _).mono ?_; rintro e w' ⟨rfl, rfl⟩; rw [h0]) | (go_at_call_of 35 (Value.int .i64 s2); refine (size_any s2 _).mono ?_; rintro e w' ⟨rfl, rfl⟩; rw [h1]) | (go_at_call_of 35 (Value.int .i64 s3); refine (size_any s3 _).mono ?_; rintro e w' ⟨rfl, rfl⟩; rw [h2]) | (go_at_call_of 35 (Value.int .i64 s5); refine (size_any s5 _).mono ?_; rintro e w' ⟨rfl, rfl⟩; rw [h3]))
              go_meet
              exact ⟨by simp [h0, h1, h2, h3, h4], rfl⟩
            · cases h5 : decide (s14 ≤ 1048576)
              · go_wp2_with (first | (go_at_call_of 35 (Value.int .i64 s1); refine (size_any s1 _).mono ?_; rintro e w' ⟨rfl, rfl⟩; rw [h0]) | (go_at_call_of 35 (Value.int .i64 s2); refine (size_any s2 _).mono ?_; rintro e w' ⟨rfl, rfl⟩; rw [h1]) | (go_at_call_of 35 (Value.int .i64 s3); refine (size_any s3 _).mono ?_; rintro e w' ⟨rfl, rfl⟩; rw [h2]) | (go_at_call_of 35 (Value.int .i64 s5); refine (size_any s5 _).mono ?_; rintro e w' ⟨rfl, rfl⟩; rw [h3]))
                go_meet
                exact ⟨by simp [h0, h1, h2, h3, h4, h5], rfl⟩
              · cases h6 : decide ((-1048576) ≤ s15)
                · go_wp2_with (first | (go_at_call_of 35 (Value.int .i64 s1); refine (size_any s1 _).mono ?_; rintro e w' ⟨rfl, rfl⟩; rw [h0]) | (go_at_call_of 35 (Value.int .i64 s2); refine (size_any s2 _).mono ?_; rintro e w' ⟨rfl, rfl⟩; rw [h1]) | (go_at_call_of 35 (Value.int .i64 s3); refine (size_any s3 _).mono ?_; rintro e w' ⟨rfl, rfl⟩; rw [h2]) | (go_at_call_of 35 (Value.int .i64 s5); refine (size_any s5 _).mono ?_; rintro e w' ⟨rfl, rfl⟩; rw [h3]))
                  go_meet
                  exact ⟨by simp [h0, h1, h2, h3, h4, h5, h6], rfl⟩
                · cases h7 : decide (s15 ≤ 1048576)
                  · go_wp2_with (first | (go_at_call_of 35 (Value.int .i64 s1); refine (size_any s1 _).mono ?_; rintro e w' ⟨rfl, rfl⟩; rw [h0]) | (go_at_call_of 35 (Value.int .i64 s2); refine (size_any s2 _).mono ?_; rintro e w' ⟨rfl, rfl⟩; rw [h1]) | (go_at_call_of 35 (Value.int .i64 s3); refine (size_any s3 _).mono ?_; rintro e w' ⟨rfl, rfl⟩; rw [h2]) | (go_at_call_of 35 (Value.int .i64 s5); refine (size_any s5 _).mono ?_; rintro e w' ⟨rfl, rfl⟩; rw [h3]))
                    go_meet
                    exact ⟨by simp [h0, h1, h2, h3, h4, h5, h6, h7], rfl⟩
                  · go_wp2_with (first | (go_at_call_of 35 (Value.int .i64 s1); refine (size_any s1 _).mono ?_; rintro e w' ⟨rfl, rfl⟩; rw [h0]) | (go_at_call_of 35 (Value.int .i64 s2); refine (size_any s2 _).mono ?_; rintro e w' ⟨rfl, rfl⟩; rw [h1]) | (go_at_call_of 35 (Value.int .i64 s3); refine (size_any s3 _).mono ?_; rintro e w' ⟨rfl, rfl⟩; rw [h2]) | (go_at_call_of 35 (Value.int .i64 s5); refine (size_any s5 _).mono ?_; rintro e w' ⟨rfl, rfl⟩; rw [h3]))
                    go_meet
                    exact ⟨by simp [h0, h1, h2, h3, h4, h5, h6, h7], rfl⟩
  case rest =>
    obtain ⟨rfl, rfl⟩ := hcut
    obtain ⟨b1, e1⟩ : ∃ b, (sizB s1 && sizB s2 && sizB s3 && sizB s5 && decide ((-1048576) ≤ s14) && decide (s14 ≤ 1048576) && decide ((-1048576) ≤ s15) && decide (s15 ≤ 1048576)) = b := ⟨_, rfl⟩
    rw [e1]
    have HX := Aside0.mk e1
    clear e1
    go_upto_region 2 with fail
    go_cut [4] (fun c wx => c = .bool (decide (0 ≤ s0) && decide (s0 ≤ 50) && decide (1 ≤ s6) && decide (s6 ≤ 20) && decide (1 ≤ s7) && decide (s7 ≤ 20)) ∧ W = wx)
    case first =>
      have c0 : W.cell? ⟨w.heap.size, 0, none⟩ = some (.int .i64 s0) := (blk_cell HK.out 0).trans rfl
      have c6 : W.cell? ⟨w.heap.size, 6, none⟩ = some (.int .i64 s6) := (blk_cell HK.out 6).trans rfl
      have c7 : W.cell? ⟨w.heap.size, 7, none⟩ = some (.int .i64 s7) := (blk_cell HK.out 7).trans rfl
      clear HK HB
      cases h0 : decide (0 ≤ s0)
      · go_wp2_with fail
        go_meet
        exact ⟨by simp [h0], rfl⟩
      · cases h1 : decide (s0 ≤ 50)
        · go_wp2_with fail
          go_meet
          exact ⟨by simp [h0, h1], rfl⟩
        · cases h2 : decide (1 ≤ s6)
          · go_wp2_with fail
            go_meet
            exact ⟨by simp [h0, h1, h2], rfl⟩
          · cases h3 : decide (s6 ≤ 20)
            · go_wp2_with fail
              go_meet
              exact ⟨by simp [h0, h1, h2, h3], rfl⟩
            · cases h4 : decide (1 ≤ s7)
              · go_wp2_with fail
                go_meet
                exact ⟨by simp [h0, h1, h2, h3, h4], rfl⟩
              · cases h5 : decide (s7 ≤ 20)
                · go_wp2_with fail
                  go_meet
                  exact ⟨by simp [h0, h1, h2, h3, h4, h5], rfl⟩
                · go_wp2_with fail
                  go_meet
                  exact ⟨by simp [h0, h1, h2, h3, h4, h5], rfl⟩
    case rest =>
      obtain ⟨rfl, rfl⟩ := hcut
      obtain ⟨b2, e2⟩ : ∃ b, (decide (0 ≤ s0) && decide (s0 ≤ 50) && decide (1 ≤ s6) && decide (s6 ≤ 20) && decide (1 ≤ s7) && decide (s7 ≤ 20)) = b := ⟨_, rfl⟩
      rw [e2]
      have HY := Aside0.mk e2
      clear e2
      have c9 : W.cell? ⟨w.heap.size, 9, none⟩ = some (.int .i64 s9) := (blk_cell HK.out 9).trans rfl
      have c10 : W.cell? ⟨w.heap.size, 10, none⟩ = some (.int .i64 s10) := (blk_cell HK.out 10).trans rfl
      have c12 : W.cell? ⟨w.heap.size, 12, none⟩ = some (.int .i64 s12) := (blk_cell HK.out 12).trans rfl
      clear HK
      cases h0 : b1
      · go_wp2
        go_ret
        exact ⟨by rw [HX.out, HY.out]; simp [h0], HB.out⟩
      · cases h1 : b2
        · go_wp2
          go_ret
          exact ⟨by rw [HX.out, HY.out]; simp [h0, h1], HB.out⟩
        · cases h2 : decide (0 ≤ s9)
          · go_wp2
            go_ret
            exact ⟨by rw [HX.out, HY.out]; simp [h0, h1, h2], HB.out⟩
          · cases h3 : decide (s9 ≤ 2)
            · go_wp2
              go_ret
              exact ⟨by rw [HX.out, HY.out]; simp [h0, h1, h2, h3], HB.out⟩
            · cases h4 : decide (0 ≤ s10)
              · go_wp2
                go_ret
                exact ⟨by rw [HX.out, HY.out]; simp [h0, h1, h2, h3, h4], HB.out⟩
              · cases h5 : decide (s10 ≤ 2)
                · go_wp2
                  go_ret
                  exact ⟨by rw [HX.out, HY.out]; simp [h0, h1, h2, h3, h4, h5], HB.out⟩
                · cases h6 : decide (0 ≤ s12)
                  · go_wp2
                    go_ret
                    exact ⟨by rw [HX.out, HY.out]; simp [h0, h1, h2, h3, h4, h5, h6], HB.out⟩
                  · cases h7 : decide (s12 ≤ 2)
                    · go_wp2
                      go_ret
                      exact ⟨by rw [HX.out, HY.out]; simp [h0, h1, h2, h3, h4, h5, h6, h7], HB.out⟩
                    · go_wp2
                      go_ret
                      exact ⟨by rw [HX.out, HY.out]; simp [h0, h1, h2, h3, h4, h5, h6, h7], HB.out⟩
def gutterref04_Right.f (a0_0 : Int) (a0_1 : Int) (a0_2 : Int) (a0_3 : Int) (a0_4 : Bool) (a0_5 : Int) (a0_6 : Int) (a0_7 : Int) (a0_8 : Bool) (a0_9 : Int) (a0_10 : Int) (a0_11 : Bool) (a0_12 : Int) (a0_13 : Bool) (a0_14 : Int) (a0_15 : Int) : Option Bool := some (rightB a0_0 a0_1 a0_2 a0_3 a0_4 a0_5 a0_6 a0_7 a0_8 a0_9 a0_10 a0_11 a0_12 a0_13 a0_14 a0_15)
theorem gutterref04_Right.calls (a0_0 : Int) (a0_1 : Int) (a0_2 : Int) (a0_3 : Int) (a0_4 : Bool) (a0_5 : Int) (a0_6 : Int) (a0_7 : Int) (a0_8 : Bool) (a0_9 : Int) (a0_10 : Int) (a0_11 : Bool) (a0_12 : Int) (a0_13 : Bool) (a0_14 : Int) (a0_15 : Int) (r : Bool) (w : World) (h : gutterref04_Right.f a0_0 a0_1 a0_2 a0_3 a0_4 a0_5 a0_6 a0_7 a0_8 a0_9 a0_10 a0_11 a0_12 a0_13 a0_14 a0_15 = some r) : Calls Tryd.prog 27 #[.agg #[.int .i64 a0_0, .int .i64 a0_1, .int .i64 a0_2, .int .i64 a0_3, .bool a0_4, .int .i64 a0_5, .int .i64 a0_6, .int .i64 a0_7, .bool a0_8, .int .i64 a0_9, .int .i64 a0_10, .bool a0_11, .int .i64 a0_12, .bool a0_13, .int .i64 a0_14, .int .i64 a0_15]] w fun e w' => e = .returned (.bool r) ∧ Below w.heap.size w w' := by
  obtain rfl := Option.some.inj h
  have e : rightB a0_0 a0_1 a0_2 a0_3 a0_4 a0_5 a0_6 a0_7 a0_8 a0_9 a0_10 a0_11 a0_12 a0_13 a0_14 a0_15 = ((sizB a0_1 && sizB a0_2 && sizB a0_3 && sizB a0_5 && decide ((-1048576) ≤ a0_14) && decide (a0_14 ≤ 1048576) && decide ((-1048576) ≤ a0_15) && decide (a0_15 ≤ 1048576)) && (decide (0 ≤ a0_0) && decide (a0_0 ≤ 50) && decide (1 ≤ a0_6) && decide (a0_6 ≤ 20) && decide (1 ≤ a0_7) && decide (a0_7 ≤ 20)) && (decide (0 ≤ a0_9) && decide (a0_9 ≤ 2) && decide (0 ≤ a0_10) && decide (a0_10 ≤ 2) && decide (0 ≤ a0_12) && decide (a0_12 ≤ 2))) := by
    rw [Bool.eq_iff_iff]
    simp only [rightB, List.all_cons, List.all_nil, Bool.and_true, Bool.and_eq_true, inB, decide_eq_true_eq, sizB]
    omega
  rw [e]
  exact Right_any a0_0 a0_1 a0_2 a0_3 a0_4 a0_5 a0_6 a0_7 a0_8 a0_9 a0_10 a0_11 a0_12 a0_13 a0_14 a0_15 w
def gutterref04_IsMulti.f (a0_0 : Int) (a0_1 : Int) (a0_2 : Int) (a0_3 : Int) (a0_4 : Bool) (a0_5 : Int) (a0_6 : Int) (a0_7 : Int) (a0_8 : Bool) (a0_9 : Int) (a0_10 : Int) (a0_11 : Bool) (a0_12 : Int) (a0_13 : Bool) (a0_14 : Int) (a0_15 : Int) : Option Bool := some (multiB a0_0 a0_1)
theorem gutterref04_IsMulti.calls (a0_0 : Int) (a0_1 : Int) (a0_2 : Int) (a0_3 : Int) (a0_4 : Bool) (a0_5 : Int) (a0_6 : Int) (a0_7 : Int) (a0_8 : Bool) (a0_9 : Int) (a0_10 : Int) (a0_11 : Bool) (a0_12 : Int) (a0_13 : Bool) (a0_14 : Int) (a0_15 : Int) (r : Bool) (w : World) (h : gutterref04_IsMulti.f a0_0 a0_1 a0_2 a0_3 a0_4 a0_5 a0_6 a0_7 a0_8 a0_9 a0_10 a0_11 a0_12 a0_13 a0_14 a0_15 = some r) : Calls Tryd.prog 28 #[.agg #[.int .i64 a0_0, .int .i64 a0_1, .int .i64 a0_2, .int .i64 a0_3, .bool a0_4, .int .i64 a0_5, .int .i64 a0_6, .int .i64 a0_7, .bool a0_8, .int .i64 a0_9, .int .i64 a0_10, .bool a0_11, .int .i64 a0_12, .bool a0_13, .int .i64 a0_14, .int .i64 a0_15]] w fun e w' => e = .returned (.bool r) ∧ Below w.heap.size w w' := by
  refine P.gutterref04_IsMulti.calls a0_0 a0_1 a0_2 a0_3 a0_4 a0_5 a0_6 a0_7 a0_8 a0_9 a0_10 a0_11 a0_12 a0_13 a0_14 a0_15 r w ?_
  rw [← h]
  unfold P.gutterref04_IsMulti.f gutterref04_IsMulti.f multiB
  by_cases h : a0_0 > 0
  · rw [if_pos h]; simp [h]
  · rw [if_neg h]; simp [h]
end Go.Proofs.YtjaoaakljcnmeaaDoor.G
