/- Functions of the law and of what it calls as plain Lean functions, and that the calls come to their answers: written by fprint.py. -/
import Derived.Test.YtkmddhljfjjglaaDoorF17
import Derived.Test.YtkmddhljfjjglaaDoorG0
namespace Go.Proofs.YtkmddhljfjjglaaDoor.G
open Go.RowKit Go.Proofs.YtkmddhljfjjglaaDoorW.PrintWords Go.Proofs.YtkmddhljfjjglaaDoorW.PrintLast Go.Proofs.YtkmddhljfjjglaaDoorW.PrintMore
attribute [local go_sem] max2_int min2_int max_two min_two max_three min_three max_four min_four   -- for this text's walks alone
set_option linter.unusedVariables false
set_option linter.unusedSimpArgs false

/-! ### gutterref18_all: function 45 -/
def gutterref18_all.l0 : Nat → List (S39) → Int → Option (Bool)
  | 0, _, _ => none
  | k + 1, x0, x3 => if x3 < (x0.length : Int) then (if 0 ≤ x3 then ((gutterref18_Is.f ((rd_T39 x0 x3).f2.f0) ((rd_T39 x0 x3).f2.f1) ((rd_T39 x0 x3).f2.f2) ((rd_T39 x0 x3).f2.f3)).bind fun t216 => (if t216 = true then (gutterref18_all.l0 k x0 (wrap64 (x3 + 1))) else (some false))) else (none)) else (some true)
def gutterref18_all.f (k : Nat) (l0 : List (S39)) : Option (Bool) := gutterref18_all.l0 k l0 0
theorem gutterref18_all.mono_l : ∀ k, (∀ y0 y1, LeO (gutterref18_all.l0 k y0 y1) (gutterref18_all.l0 (k + 1) y0 y1))
  | 0 => fun _ _ r h => by simp [gutterref18_all.l0] at h
  | k + 1 => by
    have ih0 := gutterref18_all.mono_l k
    · intro y0 y1
      unfold gutterref18_all.l0
      repeat' first
      | (with_reducible exact ih0 _ _)
      | (with_reducible exact LeO.refl _)
      | (with_reducible exact LeO.none _)
      | (with_reducible refine LeO.ite ?_ ?_)
      | (with_reducible refine LeO.bind ?_ (fun _ => ?_))
      | exact ih0 _ _
      | exact LeO.none _
      | refine LeO.ite ?_ ?_
      | refine LeO.bind ?_ (fun _ => ?_)
theorem gutterref18_all.mono : ∀ a0 k, LeO (gutterref18_all.f k a0) (gutterref18_all.f (k + 1) a0) := by
  intro a0 k
  have ih0 := gutterref18_all.mono_l k
  unfold gutterref18_all.f
  repeat' first
      | (with_reducible exact ih0 _ _)
      | (with_reducible exact LeO.refl _)
      | (with_reducible exact LeO.none _)
      | (with_reducible refine LeO.ite ?_ ?_)
      | (with_reducible refine LeO.bind ?_ (fun _ => ?_))
      | exact ih0 _ _
      | exact LeO.none _
      | refine LeO.ite ?_ ?_
      | refine LeO.bind ?_ (fun _ => ?_)
set_option maxHeartbeats 8000000 in
set_option maxRecDepth 100000 in
theorem gutterref18_all.calls (k : Nat) (A0 : Option Addr) (c0 : Nat) (l0 : List (S39)) (r : Bool) (w : World) (hr0 : Kd.C k39 w A0 l0.length l0) (hc0 : l0.length ≤ c0) (h : gutterref18_all.f k l0 = some r) :
    Calls Tryd.prog 45 #[.slice A0 l0.length c0] w fun e w' => e = .returned (.bool r) ∧ Below w.heap.size w w' := by
  have hu30 := Tryd.underlying30
  have HR0 := Aside0.mk hr0
  have HC0 := Aside0.mk hc0
  clear hr0 hc0
  have HB := Aside0.mk (Below.refl w.heap.size w)
  have H : (gutterref18_all.l0 k l0 0) = some r := h
  clear h
  have H' := Aside0.mk H
  clear H
  go_enter Tryd.func45, Tryd.ntmps45
  go_wp2
  go_loopg [3] k (fun kq v3 w' => ∃ (x3_1 : Int), v3 = .int .i64 x3_1 ∧ Aside0 (gutterref18_all.l0 kq l0 x3_1 = some r) ∧ Aside0 (kq ≤ k) ∧ Aside0 (Below w.heap.size w w'))
  case atStart => exact ⟨(0), (by first | rfl | (simp; done) | (simp [*]; done)), H', ⟨Nat.le_refl _⟩, ⟨by repeat (first | (with_reducible first | exact HB.out | apply below_alloc | apply pw_below_drewN | apply below_drew1) | exact HB.out)⟩⟩
  case round =>
    clear H'
    obtain ⟨x3_1, rfl, HA, HK1, HB⟩ := hrel
    cases gk with
    | zero => exact absurd HA.out (by simp [gutterref18_all.l0])
    | succ k1 =>
      have H := HA.out
      clear HA
      simp only [gutterref18_all.l0] at H
      by_cases c2 : x3_1 < (l0.length : Int)
      · rw [if_pos c2] at H
        have c2b0 : decide (x3_1 < (l0.length : Int)) = true := decide_eq_true c2
        clear c2
        by_cases c3 : 0 ≤ x3_1
        · rw [if_pos c3] at H
          have c3b0 : decide (0 ≤ x3_1) = true := decide_eq_true c3
          clear c3
          replace H := Option.bind_eq_some_iff.mp H
          obtain ⟨t216, A40, H⟩ := H
          replace H : (if t216 = true then (gutterref18_all.l0 k1 l0 (wrap64 (x3_1 + 1))) else (some false)) = some r := H
          have A4 := Aside0.mk A40
          clear A40
          by_cases c5 : t216 = true
          · subst c5
            have H1 : (gutterref18_all.l0 k1 l0 (wrap64 (x3_1 + 1))) = some r := by rw [if_pos rfl] at H; exact H
            clear H
            have H := H1
            clear H1
            have H' := Aside0.mk H
            clear H
            have p215 : 0 ≤ (x3_1 : Int) := of_decide_eq_true (by first | (with_reducible assumption) | assumption)
            have q215 : x3_1 < (l0.length : Int) := of_decide_eq_true (by first | (with_reducible assumption) | assumption)
            obtain ⟨ad215, e215, hx215_0, hx215_1, hx215_2, hx215_3, hx215_4, hx215_5⟩ := at_T39 HR0.out x3_1 p215 q215
            cases e215
            replace hx215_0 := (HB.out.cell (World.block_lt_of_cell? w _ hx215_0)).trans hx215_0
            replace hx215_1 := (HB.out.cell (World.block_lt_of_cell? w _ hx215_1)).trans hx215_1
            replace hx215_2 := (HB.out.cell (World.block_lt_of_cell? w _ hx215_2)).trans hx215_2
            replace hx215_3 := (HB.out.cell (World.block_lt_of_cell? w _ hx215_3)).trans hx215_3
            replace hx215_4 := (HB.out.cell (World.block_lt_of_cell? w _ hx215_4)).trans hx215_4
            replace hx215_5 := (HB.out.cell (World.block_lt_of_cell? w _ hx215_5)).trans hx215_5
            replace p215 := eq_true p215
            replace q215 := eq_true q215
            go_wp2_with (first | ((with_reducible refine gate_callee (f := 39) rfl ?_); refine goesL_ (some 15) rfl rfl Tryd.func39 (by kernel_rfl) rfl #[.agg #[.int .i64 ((rd_T39 l0 x3_1).f2.f0), .int .i64 ((rd_T39 l0 x3_1).f2.f1), .int .i64 ((rd_T39 l0 x3_1).f2.f2), .int .i64 ((rd_T39 l0 x3_1).f2.f3)]] rfl (by (try simp only [List.map_toArray, List.map_cons, List.map_nil]); first | done | rfl | (simp only [List.length_drop, List.length_take]; rfl)) ?_; (with_reducible refine (gutterref18_Is.calls ((rd_T39 l0 x3_1).f2.f0) ((rd_T39 l0 x3_1).f2.f1) ((rd_T39 l0 x3_1).f2.f2) ((rd_T39 l0 x3_1).f2.f3) true _ A4.out).mono ?_); rintro e w6 ⟨rfl, hb⟩; refine ⟨_, rfl, ?_⟩; have n0_ := Aside0.mk (below_step (by repeat (first | (with_reducible first | exact HB.out | apply below_alloc | apply pw_below_drewN | apply below_drew1) | exact HB.out)) hb); clear HB; have HB := n0_; clear n0_; (try clear hb); (try clear hb2); (try clear hk); (try clear hi)))
            go_roundg k1
            case measure => have := HK1.out; omega
            case rel => exact ⟨(wrap64 (x3_1 + 1)), (by first | rfl | (simp; done) | (simp [*]; done)), H', ⟨by have := HK1.out; omega⟩, ⟨by repeat (first | (with_reducible first | exact HB.out | apply below_alloc | apply pw_below_drewN | apply below_drew1) | exact HB.out)⟩⟩
          · replace c5 := Bool.eq_false_iff.mpr c5
            subst c5
            have H1 : (some false) = some r := by rw [if_neg (show ¬ (false = true) by decide)] at H; exact H
            clear H
            have H := H1
            clear H1
            obtain rfl := Option.some.inj H
            have p215 : 0 ≤ (x3_1 : Int) := of_decide_eq_true (by first | (with_reducible assumption) | assumption)
            have q215 : x3_1 < (l0.length : Int) := of_decide_eq_true (by first | (with_reducible assumption) | assumption)
            obtain ⟨ad215, e215, hx215_0, hx215_1, hx215_2, hx215_3, hx215_4, hx215_5⟩ := at_T39 HR0.out x3_1 p215 q215
            cases e215
            replace hx215_0 := (HB.out.cell (World.block_lt_of_cell? w _ hx215_0)).trans hx215_0
            replace hx215_1 := (HB.out.cell (World.block_lt_of_cell? w _ hx215_1)).trans hx215_1
            replace hx215_2 := (HB.out.cell (World.block_lt_of_cell? w _ hx215_2)).trans hx215_2
            replace hx215_3 := (HB.out.cell (World.block_lt_of_cell? w _ hx215_3)).trans hx215_3
            replace hx215_4 := (HB.out.cell (World.block_lt_of_cell? w _ hx215_4)).trans hx215_4
            replace hx215_5 := (HB.out.cell (World.block_lt_of_cell? w _ hx215_5)).trans hx215_5
            replace p215 := eq_true p215
            replace q215 := eq_true q215
            go_wp2_with (first | ((with_reducible refine gate_callee (f := 39) rfl ?_); refine goesL_ (some 15) rfl rfl Tryd.func39 (by kernel_rfl) rfl #[.agg #[.int .i64 ((rd_T39 l0 x3_1).f2.f0), .int .i64 ((rd_T39 l0 x3_1).f2.f1), .int .i64 ((rd_T39 l0 x3_1).f2.f2), .int .i64 ((rd_T39 l0 x3_1).f2.f3)]] rfl (by (try simp only [List.map_toArray, List.map_cons, List.map_nil]); first | done | rfl | (simp only [List.length_drop, List.length_take]; rfl)) ?_; (with_reducible refine (gutterref18_Is.calls ((rd_T39 l0 x3_1).f2.f0) ((rd_T39 l0 x3_1).f2.f1) ((rd_T39 l0 x3_1).f2.f2) ((rd_T39 l0 x3_1).f2.f3) false _ A4.out).mono ?_); rintro e w7 ⟨rfl, hb⟩; refine ⟨_, rfl, ?_⟩; have n0_ := Aside0.mk (below_step (by repeat (first | (with_reducible first | exact HB.out | apply below_alloc | apply pw_below_drewN | apply below_drew1) | exact HB.out)) hb); clear HB; have HB := n0_; clear n0_; (try clear hb); (try clear hb2); (try clear hk); (try clear hi)))
            go_ret
            exact ⟨by first | rfl | (simp [errW_none, errW_some] <;> rfl) | (simp [*, errW_none, errW_some] <;> rfl), by repeat (first | (with_reducible first | exact HB.out | apply below_alloc | apply pw_below_drewN | apply below_drew1) | exact HB.out)⟩
        · rw [if_neg c3] at H
          exact absurd H (by simp)
      · rw [if_neg c2] at H
        have c2b0 : decide (x3_1 < (l0.length : Int)) = false := decide_eq_false c2
        clear c2
        obtain rfl := Option.some.inj H
        go_wp2
        go_ret
        exact ⟨by first | rfl | (simp [errW_none, errW_some] <;> rfl) | (simp [*, errW_none, errW_some] <;> rfl), by repeat (first | (with_reducible first | exact HB.out | apply below_alloc | apply pw_below_drewN | apply below_drew1) | exact HB.out)⟩

end Go.Proofs.YtkmddhljfjjglaaDoor.G
