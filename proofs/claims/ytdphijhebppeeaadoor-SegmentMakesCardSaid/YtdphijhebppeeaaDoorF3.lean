/- Chapter 5: right styles, by the program and by the reference (chapter 6's proofs). Written by tmpl.py out of F3.tl. -/
import Derived.Test.YtdphijhebppeeaaDoorF2
import Derived.Deep.DeepCutAuto
import Derived.Test.YtdphijhebppeeaaDoorP2
import Derived.Test.YtdphijhebppeeaaDoorP3
import Derived.Test.YtdphijhebppeeaaDoorP4
namespace Go.Proofs.YtdphijhebppeeaaDoor.G
open Go.RowKit Go.Maps Go.Proofs.YtdphijhebppeeaaDoorW.PrintWords Go.Proofs.YtdphijhebppeeaaDoorW.PrintLast Go.Proofs.YtdphijhebppeeaaDoorW.PrintMore
set_option linter.unusedVariables false

def sizB (a : Int) : Bool := decide (0 ≤ a) && decide (a ≤ 1048576)
theorem i64_in {x : Int} (h1 : -9223372036854775808 ≤ x) (h2 : x ≤ 9223372036854775807) : wrap64 x = x := by unfold wrap64; omega
theorem blk_new (w : World) (o : Obj) : (w.alloc o).heap[w.heap.size]? = some o := heap_alloc_new w o
/-- Is a number within two others? -/
def inB (lo hi x : Int) : Bool := decide (lo ≤ x) && decide (x ≤ hi)
set_option maxHeartbeats 1000000 in
theorem within_all (lo hi : Int) (l : List Int) (hl : l.length ≤ 1000) (d : Nat) : ∀ (k i : Nat), i ≤ l.length → l.length - i = d → d < k → P.style_isWithin.l0 k lo hi l l.length i = some ((l.drop i).all (inB lo hi)) := by
  induction d with
  | zero =>
    intro k i hi' hd hk
    obtain ⟨k, rfl⟩ : ∃ m, k = m + 1 := ⟨k - 1, by omega⟩
    rw [P.style_isWithin.l0, if_neg (by omega), List.drop_of_length_le (by omega)]
    rfl
  | succ d ih =>
    intro k i hi' hd hk
    obtain ⟨k, rfl⟩ : ∃ m, k = m + 1 := ⟨k - 1, by omega⟩
    have e : rd l i = l[i] := by simp [rd, show i < l.length by omega]
    rw [P.style_isWithin.l0, if_pos (by omega), if_pos (by omega), if_pos (by omega), e, List.drop_eq_getElem_cons (by omega), List.all_cons]
    generalize l[i] = x
    by_cases h1 : x < lo
    · rw [if_pos h1]
      have : inB lo hi x = false := by rw [inB, decide_eq_false (by omega)]; rfl
      rw [this]; rfl
    · by_cases h2 : x > hi
      · rw [if_neg h1, if_pos h2]
        have : inB lo hi x = false := by rw [inB, decide_eq_false (p := x ≤ hi) (by omega), Bool.and_false]
        rw [this]; rfl
      · have : inB lo hi x = true := by rw [inB, decide_eq_true (by omega), decide_eq_true (by omega)]; rfl
        have hih := ih k (i + 1) (by omega) (by omega) (by omega)
        have hb : -9223372036854775808 ≤ (i : Int) + 1 ∧ (i : Int) + 1 ≤ 9223372036854775807 := by clear hih; omega
        have ew : wrap64 ((i : Int) + 1) = ((i + 1 : Nat) : Int) := i64_in hb.1 hb.2
        rw [if_neg h1, if_neg h2, this, ew, hih, Bool.true_and]
theorem within_f (lo hi : Int) (l : List Int) (hl : l.length ≤ 4) : P.style_isWithin.f 5 lo hi l = some (l.all (inB lo hi)) :=
  within_all lo hi l (by omega) l.length 5 0 (by omega) (by omega) (by omega)
theorem ite_some (b c : Bool) : (if b = true then some c else some false) = some (b && c) := by cases b <;> rfl
/-- Is a style right? -/
def rightB (s0 : Int) (s1 : Int) (s2 : Int) (s3 : Int) (s4 : Bool) (s5 : Int) (s6 : Int) (s7 : Int) (s8 : Bool) (s9 : Int) (s10 : Int) (s11 : Bool) (s12 : Int) (s13 : Bool) (s14 : Int) (s15 : Int) : Bool := [s0].all (inB 0 50) && [s1, s2, s3, s5].all (inB 0 1048576) && [s14, s15].all (inB (-1048576) 1048576) && [s6, s7].all (inB 1 20) && [s9, s10].all (inB 0 2) && [s12].all (inB 0 2)
theorem right_f (s0 : Int) (s1 : Int) (s2 : Int) (s3 : Int) (s4 : Bool) (s5 : Int) (s6 : Int) (s7 : Int) (s8 : Bool) (s9 : Int) (s10 : Int) (s11 : Bool) (s12 : Int) (s13 : Bool) (s14 : Int) (s15 : Int) : P.style_Right.f 5 s0 s1 s2 s3 s4 s5 s6 s7 s8 s9 s10 s11 s12 s13 s14 s15 = some (rightB s0 s1 s2 s3 s4 s5 s6 s7 s8 s9 s10 s11 s12 s13 s14 s15) := by
  unfold P.style_Right.f rightB
  rw [within_f 0 50 [s0] (by simp), within_f 0 1048576 [s1, s2, s3, s5] (by simp), within_f (-1048576) 1048576 [s14, s15] (by simp), within_f 1 20 [s6, s7] (by simp), within_f 0 2 [s9, s10] (by simp), within_f 0 2 [s12] (by simp)]
  simp only [Option.bind_some]
  simp only [ite_some, Bool.and_assoc]
theorem sright_any (s0 : Int) (s1 : Int) (s2 : Int) (s3 : Int) (s4 : Bool) (s5 : Int) (s6 : Int) (s7 : Int) (s8 : Bool) (s9 : Int) (s10 : Int) (s11 : Bool) (s12 : Int) (s13 : Bool) (s14 : Int) (s15 : Int) (w : World) : Calls Tryd.prog 80 #[.agg #[.int .i64 s0, .int .i64 s1, .int .i64 s2, .int .i64 s3, .bool s4, .int .i64 s5, .int .i64 s6, .int .i64 s7, .bool s8, .int .i64 s9, .int .i64 s10, .bool s11, .int .i64 s12, .bool s13, .int .i64 s14, .int .i64 s15]] w fun e w' => e = .returned (.bool (rightB s0 s1 s2 s3 s4 s5 s6 s7 s8 s9 s10 s11 s12 s13 s14 s15)) ∧ Below w.heap.size w w' :=
  P.style_Right.calls 5 s0 s1 s2 s3 s4 s5 s6 s7 s8 s9 s10 s11 s12 s13 s14 s15 _ w (right_f s0 s1 s2 s3 s4 s5 s6 s7 s8 s9 s10 s11 s12 s13 s14 s15)
/-- Has it columns? -/
def multiB (s0 s1 : Int) : Bool := decide (0 < s0) || decide (0 < s1)
theorem multi_any (s0 : Int) (s1 : Int) (s2 : Int) (s3 : Int) (s4 : Bool) (s5 : Int) (s6 : Int) (s7 : Int) (s8 : Bool) (s9 : Int) (s10 : Int) (s11 : Bool) (s12 : Int) (s13 : Bool) (s14 : Int) (s15 : Int) (w : World) : Calls Tryd.prog 81 #[.agg #[.int .i64 s0, .int .i64 s1, .int .i64 s2, .int .i64 s3, .bool s4, .int .i64 s5, .int .i64 s6, .int .i64 s7, .bool s8, .int .i64 s9, .int .i64 s10, .bool s11, .int .i64 s12, .bool s13, .int .i64 s14, .int .i64 s15]] w fun e w' => e = .returned (.bool (multiB s0 s1)) ∧ Below w.heap.size w w' := by
  refine P.style_IsMulti.calls s0 s1 s2 s3 s4 s5 s6 s7 s8 s9 s10 s11 s12 s13 s14 s15 _ w ?_
  unfold P.style_IsMulti.f multiB
  by_cases h : s0 > 0
  · rw [if_pos h]; simp [h]
  · rw [if_neg h]; simp [h]
def stV (s0 : Int) (s1 : Int) (s2 : Int) (s3 : Int) (s4 : Bool) (s5 : Int) (s6 : Int) (s7 : Int) (s8 : Bool) (s9 : Int) (s10 : Int) (s11 : Bool) (s12 : Int) (s13 : Bool) (s14 : Int) (s15 : Int) : Array Value := #[.int .i64 s0, .int .i64 s1, .int .i64 s2, .int .i64 s3, .bool s4, .int .i64 s5, .int .i64 s6, .int .i64 s7, .bool s8, .int .i64 s9, .int .i64 s10, .bool s11, .int .i64 s12, .bool s13, .int .i64 s14, .int .i64 s15]
theorem size_any (a : Int) (w : World) : Calls Tryd.prog 84 #[.int .i64 a] w fun e w' => e = .returned (.bool (sizB a)) ∧ w = w' := by
  unfold sizB
  go_enter Tryd.func84, Tryd.ntmps84
  by_cases h1 : 0 ≤ a
  · by_cases h2 : a ≤ 1048576
    · go_wp2
      go_ret
      simp [h1, h2]
    · go_wp2
      go_ret
      simp [h2]
  · go_wp2
    go_ret
    simp only [and_true, Ending.returned.injEq]
    rw [decide_eq_false (show ¬ 0 ≤ a by omega)]
    rfl
set_option maxRecDepth 1000000 in
set_option maxHeartbeats 4000000 in
theorem Right_any (s0 : Int) (s1 : Int) (s2 : Int) (s3 : Int) (s4 : Bool) (s5 : Int) (s6 : Int) (s7 : Int) (s8 : Bool) (s9 : Int) (s10 : Int) (s11 : Bool) (s12 : Int) (s13 : Bool) (s14 : Int) (s15 : Int) (w : World) : Calls Tryd.prog 70 #[.agg (stV s0 s1 s2 s3 s4 s5 s6 s7 s8 s9 s10 s11 s12 s13 s14 s15)] w fun e w' => e = .returned (.bool ((sizB s1 && sizB s2 && sizB s3 && sizB s5 && decide ((-1048576) ≤ s14) && decide (s14 ≤ 1048576) && decide ((-1048576) ≤ s15) && decide (s15 ≤ 1048576)) && (decide (0 ≤ s0) && decide (s0 ≤ 50) && decide (1 ≤ s6) && decide (s6 ≤ 20) && decide (1 ≤ s7) && decide (s7 ≤ 20)) && (decide (0 ≤ s9) && decide (s9 ≤ 2) && decide (0 ≤ s10) && decide (s10 ≤ 2) && decide (0 ≤ s12) && decide (s12 ≤ 2)))) ∧ Below w.heap.size w w' := by
  have HK := Aside0.mk (blk_new w (.cells (stV s0 s1 s2 s3 s4 s5 s6 s7 s8 s9 s10 s11 s12 s13 s14 s15) 29))
  have HB := Aside0.mk (below_alloc (Below.refl w.heap.size w) (.cells (stV s0 s1 s2 s3 s4 s5 s6 s7 s8 s9 s10 s11 s12 s13 s14 s15) 29))
  have HS : ∃ S, S = stV s0 s1 s2 s3 s4 s5 s6 s7 s8 s9 s10 s11 s12 s13 s14 s15 := ⟨_, rfl⟩
  go_enter Tryd.func70, Tryd.ntmps70
  go_upto_region 1 with fail
  generalize w.alloc (.cells (stV s0 s1 s2 s3 s4 s5 s6 s7 s8 s9 s10 s11 s12 s13 s14 s15) 29) = W at *
  go_cut [3] (fun c wx => c = .bool (sizB s1 && sizB s2 && sizB s3 && sizB s5 && decide ((-1048576) ≤ s14) && decide (s14 ≤ 1048576) && decide ((-1048576) ≤ s15) && decide (s15 ≤ 1048576)) ∧ W = wx)
  case first =>
    have c1 : W.cell? ⟨w.heap.size, 1, none⟩ = some (.int .i64 s1) := (blk_cell HK.out 1).trans rfl
    have c2 : W.cell? ⟨w.heap.size, 2, none⟩ = some (.int .i64 s2) := (blk_cell HK.out 2).trans rfl
    have c3 : W.cell? ⟨w.heap.size, 3, none⟩ = some (.int .i64 s3) := (blk_cell HK.out 3).trans rfl
    have c5 : W.cell? ⟨w.heap.size, 5, none⟩ = some (.int .i64 s5) := (blk_cell HK.out 5).trans rfl
    have c14 : W.cell? ⟨w.heap.size, 14, none⟩ = some (.int .i64 s14) := (blk_cell HK.out 14).trans rfl
    have c15 : W.cell? ⟨w.heap.size, 15, none⟩ = some (.int .i64 s15) := (blk_cell HK.out 15).trans rfl
    clear HK HB
    cases h0 : sizB s1
    · go_wp2_with (first | (go_at_call_of 84 (Value.int .i64 s1); refine (size_any s1 _).mono ?_; rintro e w' ⟨rfl, rfl⟩; rw [h0]))
      go_meet
      exact ⟨by simp [h0], rfl⟩
    · cases h1 : sizB s2
      · go_wp2_with (first | (go_at_call_of 84 (Value.int .i64 s1); refine (size_any s1 _).mono ?_; rintro e w' ⟨rfl, rfl⟩; rw [h0]) | (go_at_call_of 84 (Value.int .i64 s2); refine (size_any s2 _).mono ?_; rintro e w' ⟨rfl, rfl⟩; rw [h1]))
        go_meet
        exact ⟨by simp [h0, h1], rfl⟩
      · cases h2 : sizB s3
        · go_wp2_with (first | (go_at_call_of 84 (Value.int .i64 s1); refine (size_any s1 _).mono ?_; rintro e w' ⟨rfl, rfl⟩; rw [h0]) | (go_at_call_of 84 (Value.int .i64 s2); refine (size_any s2 _).mono ?_; rintro e w' ⟨rfl, rfl⟩; rw [h1]) | (go_at_call_of 84 (Value.int .i64 s3); refine (size_any s3 _).mono ?_; rintro e w' ⟨rfl, rfl⟩; rw [h2]))
          go_meet
          exact ⟨by simp [h0, h1, h2], rfl⟩
        · cases h3 : sizB s5
          · go_wp2_with (first | (go_at_call_of 84 (Value.int .i64 s1); refine (size_any s1 _).mono ?_; rintro e w' ⟨rfl, rfl⟩; rw [h0]) | (go_at_call_of 84 (Value.int .i64 s2); refine (size_any s2 _).mono ?_; rintro e w' ⟨rfl, rfl⟩; rw [h1]) | (go_at_call_of 84 (Value.int .i64 s3); refine (size_any s3 _).mono ?_; rintro e w' ⟨rfl, rfl⟩; rw [h2]) | (go_at_call_of 84 (Value.int .i64 s5); refine (size_any s5 _).mono ?_; rintro e w' ⟨rfl, rfl⟩; rw [h3]))
            go_meet
            exact ⟨by simp [h0, h1, h2, h3], rfl⟩
          · cases h4 : decide ((-1048576) ≤ s14)
            · go_wp2_with (first | (go_at_call_of 84 (Value.int .i64 s1); refine (size_any s1 _).mono ?_; rintro e w' ⟨rfl, rfl⟩; rw [h0]) | (go_at_call_of 84 (Value.int .i64 s2); refine (size_any s2 _).mono ?_; rintro e w' ⟨rfl, rfl⟩; rw [h1]) | (go_at_call_of 84 (Value.int .i64 s3); refine (size_any s3 _).mono ?_; rintro e w' ⟨rfl, rfl⟩; rw [h2]) | (go_at_call_of 84 (Value.int .i64 s5); refine (size_any s5 _).mono ?_; rintro e w' ⟨rfl, rfl⟩; rw [h3]))
              go_meet
              exact ⟨by simp [h0, h1, h2, h3, h4], rfl⟩
            · cases h5 : decide (s14 ≤ 1048576)
              · go_wp2_with (first | (go_at_call_of 84 (Value.int .i64 s1); refine (size_any s1 _).mono ?_; rintro e w' ⟨rfl, rfl⟩; rw [h0]) | (go_at_call_of 84 (Value.int .i64 s2); refine (size_any s2 _).mono ?_; rintro e w' ⟨rfl, rfl⟩; rw [h1]) | (go_at_call_of 84 (Value.int .i64 s3); refine (size_any s3 _).mono ?_; rintro e w' ⟨rfl, rfl⟩; rw [h2]) | (go_at_call_of 84 (Value.int .i64 s5); refine (size_any s5 _).mono ?_; rintro e w' ⟨rfl, rfl⟩; rw [h3]))
                go_meet
                exact ⟨by simp [h0, h1, h2, h3, h4, h5], rfl⟩
              · cases h6 : decide ((-1048576) ≤ s15)
                · go_wp2_with (first | (go_at_call_of 84 (Value.int .i64 s1); refine (size_any s1 _).mono ?_; rintro e w' ⟨rfl, rfl⟩; rw [h0]) | (go_at_call_of 84 (Value.int .i64 s2); refine (size_any s2 _).mono ?_; rintro e w' ⟨rfl, rfl⟩; rw [h1]) | (go_at_call_of 84 (Value.int .i64 s3); refine (size_any s3 _).mono ?_; rintro e w' ⟨rfl, rfl⟩; rw [h2]) | (go_at_call_of 84 (Value.int .i64 s5); refine (size_any s5 _).mono ?_; rintro e w' ⟨rfl, rfl⟩; rw [h3]))
                  go_meet
                  exact ⟨by simp [h0, h1, h2, h3, h4, h5, h6], rfl⟩
                · cases h7 : decide (s15 ≤ 1048576)
                  · go_wp2_with (first | (go_at_call_of 84 (Value.int .i64 s1); refine (size_any s1 _).mono ?_; rintro e w' ⟨rfl, rfl⟩; rw [h0]) | (go_at_call_of 84 (Value.int .i64 s2); refine (size_any s2 _).mono ?_; rintro e w' ⟨rfl, rfl⟩; rw [h1]) | (go_at_call_of 84 (Value.int .i64 s3); refine (size_any s3 _).mono ?_; rintro e w' ⟨rfl, rfl⟩; rw [h2]) | (go_at_call_of 84 (Value.int .i64 s5); refine (size_any s5 _).mono ?_; rintro e w' ⟨rfl, rfl⟩; rw [h3]))
                    go_meet
                    exact ⟨by simp [h0, h1, h2, h3, h4, h5, h6, h7], rfl⟩
                  · go_wp2_with (first | (go_at_call_of 84 (Value.int .i64 s1); refine (size_any s1 _).mono ?_; rintro e w' ⟨rfl, rfl⟩; rw [h0]) | (go_at_call_of 84 (Value.int .i64 s2); refine (size_any s2 _).mono ?_; rintro e w' ⟨rfl, rfl⟩; rw [h1]) | (go_at_call_of 84 (Value.int .i64 s3); refine (size_any s3 _).mono ?_; rintro e w' ⟨rfl, rfl⟩; rw [h2]) | (go_at_call_of 84 (Value.int .i64 s5); refine (size_any s5 _).mono ?_; rintro e w' ⟨rfl, rfl⟩; rw [h3]))
                    go_meet
                    exact ⟨by simp [h0, h1, h2, h3, h4, h5, h6, h7], rfl⟩
  case rest =>
    obtain ⟨rfl, rfl⟩ := hcut
    obtain ⟨b1, e1⟩ : ∃ b, (sizB s1 && sizB s2 && sizB s3 && sizB s5 && decide ((-1048576) ≤ s14) && decide (s14 ≤ 1048576) && decide ((-1048576) ≤ s15) && decide (s15 ≤ 1048576)) = b := ⟨_, rfl⟩
    rw [e1]
    have HX := Aside0.mk e1
    clear e1
    go_upto_region 2 with fail
    go_cut [4] (fun c wx => c = .bool (decide (0 ≤ s0) && decide (s0 ≤ 50) && decide (1 ≤ s6) && decide (s6 ≤ 20) && decide (1 ≤ s7) && decide (s7 ≤ 20)) ∧ W = wx)
    case first =>
      have c0 : W.cell? ⟨w.heap.size, 0, none⟩ = some (.int .i64 s0) := (blk_cell HK.out 0).trans rfl
      have c6 : W.cell? ⟨w.heap.size, 6, none⟩ = some (.int .i64 s6) := (blk_cell HK.out 6).trans rfl
      have c7 : W.cell? ⟨w.heap.size, 7, none⟩ = some (.int .i64 s7) := (blk_cell HK.out 7).trans rfl
      clear HK HB
      cases h0 : decide (0 ≤ s0)
      · go_wp2_with fail
        go_meet
        exact ⟨by simp [h0], rfl⟩
      · cases h1 : decide (s0 ≤ 50)
        · go_wp2_with fail
          go_meet
          exact ⟨by simp [h0, h1], rfl⟩
        · cases h2 : decide (1 ≤ s6)
          · go_wp2_with fail
            go_meet
            exact ⟨by simp [h0, h1, h2], rfl⟩
          · cases h3 : decide (s6 ≤ 20)
            · go_wp2_with fail
              go_meet
              exact ⟨by simp [h0, h1, h2, h3], rfl⟩
            · cases h4 : decide (1 ≤ s7)
              · go_wp2_with fail
                go_meet
                exact ⟨by simp [h0, h1, h2, h3, h4], rfl⟩
              · cases h5 : decide (s7 ≤ 20)
                · go_wp2_with fail
                  go_meet
                  exact ⟨by simp [h0, h1, h2, h3, h4, h5], rfl⟩
                · go_wp2_with fail
                  go_meet
                  exact ⟨by simp [h0, h1, h2, h3, h4, h5], rfl⟩
    case rest =>
      obtain ⟨rfl, rfl⟩ := hcut
      obtain ⟨b2, e2⟩ : ∃ b, (decide (0 ≤ s0) && decide (s0 ≤ 50) && decide (1 ≤ s6) && decide (s6 ≤ 20) && decide (1 ≤ s7) && decide (s7 ≤ 20)) = b := ⟨_, rfl⟩
      rw [e2]
      have HY := Aside0.mk e2
      clear e2
      have c9 : W.cell? ⟨w.heap.size, 9, none⟩ = some (.int .i64 s9) := (blk_cell HK.out 9).trans rfl
      have c10 : W.cell? ⟨w.heap.size, 10, none⟩ = some (.int .i64 s10) := (blk_cell HK.out 10).trans rfl
      have c12 : W.cell? ⟨w.heap.size, 12, none⟩ = some (.int .i64 s12) := (blk_cell HK.out 12).trans rfl
      clear HK
      cases h0 : b1
      · go_wp2
        go_ret
        exact ⟨by rw [HX.out, HY.out]; simp [h0], HB.out⟩
      · cases h1 : b2
        · go_wp2
          go_ret
          exact ⟨by rw [HX.out, HY.out]; simp [h0, h1], HB.out⟩
        · cases h2 : decide (0 ≤ s9)
          · go_wp2
            go_ret
            exact ⟨by rw [HX.out, HY.out]; simp [h0, h1, h2], HB.out⟩
          · cases h3 : decide (s9 ≤ 2)
            · go_wp2
              go_ret
              exact ⟨by rw [HX.out, HY.out]; simp [h0, h1, h2, h3], HB.out⟩
            · cases h4 : decide (0 ≤ s10)
              · go_wp2
                go_ret
                exact ⟨by rw [HX.out, HY.out]; simp [h0, h1, h2, h3, h4], HB.out⟩
              · cases h5 : decide (s10 ≤ 2)
                · go_wp2
                  go_ret
                  exact ⟨by rw [HX.out, HY.out]; simp [h0, h1, h2, h3, h4, h5], HB.out⟩
                · cases h6 : decide (0 ≤ s12)
                  · go_wp2
                    go_ret
                    exact ⟨by rw [HX.out, HY.out]; simp [h0, h1, h2, h3, h4, h5, h6], HB.out⟩
                  · cases h7 : decide (s12 ≤ 2)
                    · go_wp2
                      go_ret
                      exact ⟨by rw [HX.out, HY.out]; simp [h0, h1, h2, h3, h4, h5, h6, h7], HB.out⟩
                    · go_wp2
                      go_ret
                      exact ⟨by rw [HX.out, HY.out]; simp [h0, h1, h2, h3, h4, h5, h6, h7], HB.out⟩
def gutterref04_Right.f (a0_0 : Int) (a0_1 : Int) (a0_2 : Int) (a0_3 : Int) (a0_4 : Bool) (a0_5 : Int) (a0_6 : Int) (a0_7 : Int) (a0_8 : Bool) (a0_9 : Int) (a0_10 : Int) (a0_11 : Bool) (a0_12 : Int) (a0_13 : Bool) (a0_14 : Int) (a0_15 : Int) : Option Bool := some (rightB a0_0 a0_1 a0_2 a0_3 a0_4 a0_5 a0_6 a0_7 a0_8 a0_9 a0_10 a0_11 a0_12 a0_13 a0_14 a0_15)
theorem gutterref04_Right.calls (a0_0 : Int) (a0_1 : Int) (a0_2 : Int) (a0_3 : Int) (a0_4 : Bool) (a0_5 : Int) (a0_6 : Int) (a0_7 : Int) (a0_8 : Bool) (a0_9 : Int) (a0_10 : Int) (a0_11 : Bool) (a0_12 : Int) (a0_13 : Bool) (a0_14 : Int) (a0_15 : Int) (r : Bool) (w : World) (h : gutterref04_Right.f a0_0 a0_1 a0_2 a0_3 a0_4 a0_5 a0_6 a0_7 a0_8 a0_9 a0_10 a0_11 a0_12 a0_13 a0_14 a0_15 = some r) : Calls Tryd.prog 70 #[.agg #[.int .i64 a0_0, .int .i64 a0_1, .int .i64 a0_2, .int .i64 a0_3, .bool a0_4, .int .i64 a0_5, .int .i64 a0_6, .int .i64 a0_7, .bool a0_8, .int .i64 a0_9, .int .i64 a0_10, .bool a0_11, .int .i64 a0_12, .bool a0_13, .int .i64 a0_14, .int .i64 a0_15]] w fun e w' => e = .returned (.bool r) ∧ Below w.heap.size w w' := by
  obtain rfl := Option.some.inj h
  have e : rightB a0_0 a0_1 a0_2 a0_3 a0_4 a0_5 a0_6 a0_7 a0_8 a0_9 a0_10 a0_11 a0_12 a0_13 a0_14 a0_15 = ((sizB a0_1 && sizB a0_2 && sizB a0_3 && sizB a0_5 && decide ((-1048576) ≤ a0_14) && decide (a0_14 ≤ 1048576) && decide ((-1048576) ≤ a0_15) && decide (a0_15 ≤ 1048576)) && (decide (0 ≤ a0_0) && decide (a0_0 ≤ 50) && decide (1 ≤ a0_6) && decide (a0_6 ≤ 20) && decide (1 ≤ a0_7) && decide (a0_7 ≤ 20)) && (decide (0 ≤ a0_9) && decide (a0_9 ≤ 2) && decide (0 ≤ a0_10) && decide (a0_10 ≤ 2) && decide (0 ≤ a0_12) && decide (a0_12 ≤ 2))) := by
    rw [Bool.eq_iff_iff]
    simp only [rightB, List.all_cons, List.all_nil, Bool.and_true, Bool.and_eq_true, inB, decide_eq_true_eq, sizB]
    omega
  rw [e]
  exact Right_any a0_0 a0_1 a0_2 a0_3 a0_4 a0_5 a0_6 a0_7 a0_8 a0_9 a0_10 a0_11 a0_12 a0_13 a0_14 a0_15 w
def gutterref04_IsMulti.f (a0_0 : Int) (a0_1 : Int) (a0_2 : Int) (a0_3 : Int) (a0_4 : Bool) (a0_5 : Int) (a0_6 : Int) (a0_7 : Int) (a0_8 : Bool) (a0_9 : Int) (a0_10 : Int) (a0_11 : Bool) (a0_12 : Int) (a0_13 : Bool) (a0_14 : Int) (a0_15 : Int) : Option Bool := some (multiB a0_0 a0_1)
theorem gutterref04_IsMulti.calls (a0_0 : Int) (a0_1 : Int) (a0_2 : Int) (a0_3 : Int) (a0_4 : Bool) (a0_5 : Int) (a0_6 : Int) (a0_7 : Int) (a0_8 : Bool) (a0_9 : Int) (a0_10 : Int) (a0_11 : Bool) (a0_12 : Int) (a0_13 : Bool) (a0_14 : Int) (a0_15 : Int) (r : Bool) (w : World) (h : gutterref04_IsMulti.f a0_0 a0_1 a0_2 a0_3 a0_4 a0_5 a0_6 a0_7 a0_8 a0_9 a0_10 a0_11 a0_12 a0_13 a0_14 a0_15 = some r) : Calls Tryd.prog 71 #[.agg #[.int .i64 a0_0, .int .i64 a0_1, .int .i64 a0_2, .int .i64 a0_3, .bool a0_4, .int .i64 a0_5, .int .i64 a0_6, .int .i64 a0_7, .bool a0_8, .int .i64 a0_9, .int .i64 a0_10, .bool a0_11, .int .i64 a0_12, .bool a0_13, .int .i64 a0_14, .int .i64 a0_15]] w fun e w' => e = .returned (.bool r) ∧ Below w.heap.size w w' := by
  refine P.gutterref04_IsMulti.calls a0_0 a0_1 a0_2 a0_3 a0_4 a0_5 a0_6 a0_7 a0_8 a0_9 a0_10 a0_11 a0_12 a0_13 a0_14 a0_15 r w ?_
  rw [← h]
  unfold P.gutterref04_IsMulti.f gutterref04_IsMulti.f multiB
  by_cases h : a0_0 > 0
  · rw [if_pos h]; simp [h]
  · rw [if_neg h]; simp [h]
end Go.Proofs.YtdphijhebppeeaaDoor.G
