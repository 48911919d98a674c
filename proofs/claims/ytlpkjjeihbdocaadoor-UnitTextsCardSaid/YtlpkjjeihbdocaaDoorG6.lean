/- Functions of the law and of what it calls as plain Lean functions, and that the calls come to their answers: written by fprint.py. -/
import Derived.Test.YtlpkjjeihbdocaaDoorF16
import Derived.Test.YtlpkjjeihbdocaaDoorG0
import Derived.Test.YtlpkjjeihbdocaaDoorG4
namespace Go.Proofs.YtlpkjjeihbdocaaDoor.G
open Go.RowKit Go.Proofs.YtlpkjjeihbdocaaDoorW.PrintWords Go.Proofs.YtlpkjjeihbdocaaDoorW.PrintLast Go.Proofs.YtlpkjjeihbdocaaDoorW.PrintMore
attribute [local go_sem] max2_int min2_int max_two min_two max_three min_three max_four min_four   -- for this text's walks alone
set_option linter.unusedVariables false
set_option linter.unusedSimpArgs false

/-! ### gutterref01_Parse: function 16 -/
mutual
def gutterref01_Parse.j0 : Nat → ByteArray → Int → ByteArray → Bool → Option (Int × Int)
  | 0, _, _, _, _ => none
  | k + 1, x0, x4, x5, x23 => if x23 = true then (if 1 ≤ (x5.size : Int) then (gutterref01_Parse.j1 k x0 (-1) (x5.extract 1 x5.size)) else (none)) else (gutterref01_Parse.j1 k x0 x4 x5)
def gutterref01_Parse.j1 : Nat → ByteArray → Int → ByteArray → Option (Int × Int)
  | 0, _, _, _ => none
  | k + 1, x0, x4, x5 => gutterref01_Parse.l0 k x0 x4 x5 0 0
def gutterref01_Parse.j3 : Nat → ByteArray → Int → ByteArray → Int → Int → Option (Int × Int)
  | 0, _, _, _, _, _ => none
  | k + 1, x0, x4, x5, x6, x7 => if x7 < (x5.size : Int) then (if 0 ≤ x7 then (gutterref01_Parse.j4 k x0 x4 x5 x6 x7 0 1000000 ((bt x5 x7) == 46)) else (none)) else (gutterref01_Parse.j4 k x0 x4 x5 x6 x7 0 1000000 false)
def gutterref01_Parse.j4 : Nat → ByteArray → Int → ByteArray → Int → Int → Int → Int → Bool → Option (Int × Int)
  | 0, _, _, _, _, _, _, _, _ => none
  | k + 1, x0, x4, x5, x6, x7, x8, x9, x65 => if x65 = true then (gutterref01_Parse.j5 k x0 x4 x5 x6 (wrap64 (x7 + 1)) x8 x9) else (gutterref01_Parse.j5 k x0 x4 x5 x6 x7 x8 x9)
def gutterref01_Parse.j5 : Nat → ByteArray → Int → ByteArray → Int → Int → Int → Int → Option (Int × Int)
  | 0, _, _, _, _, _, _, _ => none
  | k + 1, x0, x4, x5, x6, x7, x8, x9 => gutterref01_Parse.l1 k x0 x4 x5 x6 x7 x8 x9
def gutterref01_Parse.l1 : Nat → ByteArray → Int → ByteArray → Int → Int → Int → Int → Option (Int × Int)
  | 0, _, _, _, _, _, _, _ => none
  | k + 1, x0, x4, x5, x6, x7, x8, x9 => if x7 < (x5.size : Int) then (if 0 ≤ x7 then (if (bt x5 x7) ≥ 48 then (if (bt x5 x7) ≤ 57 then (if x9 > 1 then (gutterref01_Parse.l1 k x0 x4 x5 x6 (wrap64 (x7 + 1)) (wrap64 (x8 + (wrap64 ((wrap64 (Int.tdiv x9 10)) * (((bt x5 x7) - 48) % 256))))) (wrap64 (Int.tdiv x9 10))) else ((gutterref01_Print.f k (wrap64 (x4 * (wrap64 ((wrap64 (64 * x6)) + (wrap64 (Int.tdiv (wrap64 (x8 * 64)) 1000000))))))).bind fun bt123 => (if bt123.2 = 0 then (if bt123.1.toList = x0.toList then (some (wrap64 (x4 * (wrap64 ((wrap64 (64 * x6)) + (wrap64 (Int.tdiv (wrap64 (x8 * 64)) 1000000))))), 0)) else (some (0, 12))) else (some (0, 12))))) else ((gutterref01_Print.f k (wrap64 (x4 * (wrap64 ((wrap64 (64 * x6)) + (wrap64 (Int.tdiv (wrap64 (x8 * 64)) 1000000))))))).bind fun bt125 => (if bt125.2 = 0 then (if bt125.1.toList = x0.toList then (some (wrap64 (x4 * (wrap64 ((wrap64 (64 * x6)) + (wrap64 (Int.tdiv (wrap64 (x8 * 64)) 1000000))))), 0)) else (some (0, 12))) else (some (0, 12))))) else ((gutterref01_Print.f k (wrap64 (x4 * (wrap64 ((wrap64 (64 * x6)) + (wrap64 (Int.tdiv (wrap64 (x8 * 64)) 1000000))))))).bind fun bt127 => (if bt127.2 = 0 then (if bt127.1.toList = x0.toList then (some (wrap64 (x4 * (wrap64 ((wrap64 (64 * x6)) + (wrap64 (Int.tdiv (wrap64 (x8 * 64)) 1000000))))), 0)) else (some (0, 12))) else (some (0, 12))))) else (none)) else ((gutterref01_Print.f k (wrap64 (x4 * (wrap64 ((wrap64 (64 * x6)) + (wrap64 (Int.tdiv (wrap64 (x8 * 64)) 1000000))))))).bind fun bt129 => (if bt129.2 = 0 then (if bt129.1.toList = x0.toList then (some (wrap64 (x4 * (wrap64 ((wrap64 (64 * x6)) + (wrap64 (Int.tdiv (wrap64 (x8 * 64)) 1000000))))), 0)) else (some (0, 12))) else (some (0, 12))))
def gutterref01_Parse.l0 : Nat → ByteArray → Int → ByteArray → Int → Int → Option (Int × Int)
  | 0, _, _, _, _, _ => none
  | k + 1, x0, x4, x5, x6, x7 => if x7 < (x5.size : Int) then (if 0 ≤ x7 then (if (bt x5 x7) ≥ 48 then (if (bt x5 x7) ≤ 57 then (if x6 ≤ 1073741824 then (gutterref01_Parse.l0 k x0 x4 x5 (wrap64 ((wrap64 (10 * x6)) + (((bt x5 x7) - 48) % 256))) (wrap64 (x7 + 1))) else (gutterref01_Parse.j3 k x0 x4 x5 x6 x7)) else (gutterref01_Parse.j3 k x0 x4 x5 x6 x7)) else (gutterref01_Parse.j3 k x0 x4 x5 x6 x7)) else (none)) else (gutterref01_Parse.j3 k x0 x4 x5 x6 x7)
end
def gutterref01_Parse.f (k : Nat) (a0 : ByteArray) : Option (Int × Int) := if (a0.size : Int) > 20 then (some (0, 12)) else (if a0.toList = ([] : List UInt8) then (gutterref01_Parse.j0 k a0 1 a0 false) else (if 0 < (a0.size : Int) then (gutterref01_Parse.j0 k a0 1 a0 ((bt a0 0) == 45)) else (none)))
theorem gutterref01_Parse.mono_l : ∀ k, (∀ y0 y1 y2 y3, LeO (gutterref01_Parse.j0 k y0 y1 y2 y3) (gutterref01_Parse.j0 (k + 1) y0 y1 y2 y3)) ∧ (∀ y0 y1 y2, LeO (gutterref01_Parse.j1 k y0 y1 y2) (gutterref01_Parse.j1 (k + 1) y0 y1 y2)) ∧ (∀ y0 y1 y2 y3 y4, LeO (gutterref01_Parse.j3 k y0 y1 y2 y3 y4) (gutterref01_Parse.j3 (k + 1) y0 y1 y2 y3 y4)) ∧ (∀ y0 y1 y2 y3 y4 y5 y6 y7, LeO (gutterref01_Parse.j4 k y0 y1 y2 y3 y4 y5 y6 y7) (gutterref01_Parse.j4 (k + 1) y0 y1 y2 y3 y4 y5 y6 y7)) ∧ (∀ y0 y1 y2 y3 y4 y5 y6, LeO (gutterref01_Parse.j5 k y0 y1 y2 y3 y4 y5 y6) (gutterref01_Parse.j5 (k + 1) y0 y1 y2 y3 y4 y5 y6)) ∧ (∀ y0 y1 y2 y3 y4 y5 y6, LeO (gutterref01_Parse.l1 k y0 y1 y2 y3 y4 y5 y6) (gutterref01_Parse.l1 (k + 1) y0 y1 y2 y3 y4 y5 y6)) ∧ (∀ y0 y1 y2 y3 y4, LeO (gutterref01_Parse.l0 k y0 y1 y2 y3 y4) (gutterref01_Parse.l0 (k + 1) y0 y1 y2 y3 y4))
  | 0 => ⟨fun _ _ _ _ r h => by simp [gutterref01_Parse.j0] at h, fun _ _ _ r h => by simp [gutterref01_Parse.j1] at h, fun _ _ _ _ _ r h => by simp [gutterref01_Parse.j3] at h, fun _ _ _ _ _ _ _ _ r h => by simp [gutterref01_Parse.j4] at h, fun _ _ _ _ _ _ _ r h => by simp [gutterref01_Parse.j5] at h, fun _ _ _ _ _ _ _ r h => by simp [gutterref01_Parse.l1] at h, fun _ _ _ _ _ r h => by simp [gutterref01_Parse.l0] at h⟩
  | k + 1 => by
    obtain ⟨ih0, ih1, ih2, ih3, ih4, ih5, ih6⟩ := gutterref01_Parse.mono_l k
    refine ⟨?_, ?_, ?_, ?_, ?_, ?_, ?_⟩
    · intro y0 y1 y2 y3
      unfold gutterref01_Parse.j0
      repeat' first
      | (with_reducible exact ih0 _ _ _ _)
      | (with_reducible exact ih1 _ _ _)
      | (with_reducible exact ih2 _ _ _ _ _)
      | (with_reducible exact ih3 _ _ _ _ _ _ _ _)
      | (with_reducible exact ih4 _ _ _ _ _ _ _)
      | (with_reducible exact ih5 _ _ _ _ _ _ _)
      | (with_reducible exact ih6 _ _ _ _ _)
      | (with_reducible exact gutterref01_Print.mono _ _)
      | (with_reducible exact LeO.refl _)
      | (with_reducible exact LeO.none _)
      | (with_reducible refine LeO.ite ?_ ?_)
      | (with_reducible refine LeO.bind ?_ (fun _ => ?_))
      | exact ih0 _ _ _ _
      | exact ih1 _ _ _
      | exact ih2 _ _ _ _ _
      | exact ih3 _ _ _ _ _ _ _ _
      | exact ih4 _ _ _ _ _ _ _
      | exact ih5 _ _ _ _ _ _ _
      | exact ih6 _ _ _ _ _
      | exact gutterref01_Print.mono _ _
      | exact LeO.none _
      | refine LeO.ite ?_ ?_
      | refine LeO.bind ?_ (fun _ => ?_)
    · intro y0 y1 y2
      unfold gutterref01_Parse.j1
      repeat' first
      | (with_reducible exact ih0 _ _ _ _)
      | (with_reducible exact ih1 _ _ _)
      | (with_reducible exact ih2 _ _ _ _ _)
      | (with_reducible exact ih3 _ _ _ _ _ _ _ _)
      | (with_reducible exact ih4 _ _ _ _ _ _ _)
      | (with_reducible exact ih5 _ _ _ _ _ _ _)
      | (with_reducible exact ih6 _ _ _ _ _)
      | (with_reducible exact gutterref01_Print.mono _ _)
      | (with_reducible exact LeO.refl _)
      | (with_reducible exact LeO.none _)
      | (with_reducible refine LeO.ite ?_ ?_)
      | (with_reducible refine LeO.bind ?_ (fun _ => ?_))
      | exact ih0 _ _ _ _
      | exact ih1 _ _ _
      | exact ih2 _ _ _ _ _
      | exact ih3 _ _ _ _ _ _ _ _
      | exact ih4 _ _ _ _ _ _ _
      | exact ih5 _ _ _ _ _ _ _
      | exact ih6 _ _ _ _ _
      | exact gutterref01_Print.mono _ _
      | exact LeO.none _
      | refine LeO.ite ?_ ?_
      | refine LeO.bind ?_ (fun _ => ?_)
    · intro y0 y1 y2 y3 y4
      unfold gutterref01_Parse.j3
      repeat' first
      | (with_reducible exact ih0 _ _ _ _)
      | (with_reducible exact ih1 _ _ _)
      | (with_reducible exact ih2 _ _ _ _ _)
      | (with_reducible exact ih3 _ _ _ _ _ _ _ _)
      | (with_reducible exact ih4 _ _ _ _ _ _ _)
      | (with_reducible exact ih5 _ _ _ _ _ _ _)
      | (with_reducible exact ih6 _ _ _ _ _)
      | (with_reducible exact gutterref01_Print.mono _ _)
      | (with_reducible exact LeO.refl _)
      | (with_reducible exact LeO.none _)
      | (with_reducible refine LeO.ite ?_ ?_)
      | (with_reducible refine LeO.bind ?_ (fun _ => ?_))
      | exact ih0 _ _ _ _
      | exact ih1 _ _ _
      | exact ih2 _ _ _ _ _
      | exact ih3 _ _ _ _ _ _ _ _
      | exact ih4 _ _ _ _ _ _ _
      | exact ih5 _ _ _ _ _ _ _
      | exact ih6 _ _ _ _ _
      | exact gutterref01_Print.mono _ _
      | exact LeO.none _
      | refine LeO.ite ?_ ?_
      | refine LeO.bind ?_ (fun _ => ?_)
    · intro y0 y1 y2 y3 y4 y5 y6 y7
      unfold gutterref01_Parse.j4
      repeat' first
      | (with_reducible exact ih0 _ _ _ _)
      | (with_reducible exact ih1 _ _ _)
      | (with_reducible exact ih2 _ _ _ _ _)
      | (with_reducible exact ih3 _ _ _ _ _ _ _ _)
      | (with_reducible exact ih4 _ _ _ _ _ _ _)
      | (with_reducible exact ih5 _ _ _ _ _ _ _)
      | (with_reducible exact ih6 _ _ _ _ _)
      | (with_reducible exact gutterref01_Print.mono _ _)
      | (with_reducible exact LeO.refl _)
      | (with_reducible exact LeO.none _)
      | (with_reducible refine LeO.ite ?_ ?_)
      | (with_reducible refine LeO.bind ?_ (fun _ => ?_))
      | exact ih0 _ _ _ _
      | exact ih1 _ _ _
      | exact ih2 _ _ _ _ _
      | exact ih3 _ _ _ _ _ _ _ _
      | exact ih4 _ _ _ _ _ _ _
      | exact ih5 _ _ _ _ _ _ _
      | exact ih6 _ _ _ _ _
      | exact gutterref01_Print.mono _ _
      | exact LeO.none _
      | refine LeO.ite ?_ ?_
      | refine LeO.bind ?_ (fun _ => ?_)
    · intro y0 y1 y2 y3 y4 y5 y6
      unfold gutterref01_Parse.j5
      repeat' first
      | (with_reducible exact ih0 _ _ _ _)
      | (with_reducible exact ih1 _ _ _)
      | (with_reducible exact ih2 _ _ _ _ _)
      | (with_reducible exact ih3 _ _ _ _ _ _ _ _)
      | (with_reducible exact ih4 _ _ _ _ _ _ _)
      | (with_reducible exact ih5 _ _ _ _ _ _ _)
      | (with_reducible exact ih6 _ _ _ _ _)
      | (with_reducible exact gutterref01_Print.mono _ _)
      | (with_reducible exact LeO.refl _)
      | (with_reducible exact LeO.none _)
      | (with_reducible refine LeO.ite ?_ ?_)
      | (with_reducible refine LeO.bind ?_ (fun _ => ?_))
      | exact ih0 _ _ _ _
      | exact ih1 _ _ _
      | exact ih2 _ _ _ _ _
      | exact ih3 _ _ _ _ _ _ _ _
      | exact ih4 _ _ _ _ _ _ _
      | exact ih5 _ _ _ _ _ _ _
      | exact ih6 _ _ _ _ _
      | exact gutterref01_Print.mono _ _
      | exact LeO.none _
      | refine LeO.ite ?_ ?_
      | refine LeO.bind ?_ (fun _ => ?_)
    · intro y0 y1 y2 y3 y4 y5 y6
      unfold gutterref01_Parse.l1
      repeat' first
      | (with_reducible exact ih0 _ _ _ _)
      | (with_reducible exact ih1 _ _ _)
      | (with_reducible exact ih2 _ _ _ _ _)
      | (with_reducible exact ih3 _ _ _ _ _ _ _ _)
      | (with_reducible exact ih4 _ _ _ _ _ _ _)
      | (with_reducible exact ih5 _ _ _ _ _ _ _)
      | (with_reducible exact ih6 _ _ _ _ _)
      | (with_reducible exact gutterref01_Print.mono _ _)
      | (with_reducible exact LeO.refl _)
      | (with_reducible exact LeO.none _)
      | (with_reducible refine LeO.ite ?_ ?_)
      | (with_reducible refine LeO.bind ?_ (fun _ => ?_))
      | exact ih0 _ _ _ _
      | exact ih1 _ _ _
      | exact ih2 _ _ _ _ _
      | exact ih3 _ _ _ _ _ _ _ _
      | exact ih4 _ _ _ _ _ _ _
      | exact ih5 _ _ _ _ _ _ _
      | exact ih6 _ _ _ _ _
      | exact gutterref01_Print.mono _ _
      | exact LeO.none _
      | refine LeO.ite ?_ ?_
      | refine LeO.bind ?_ (fun _ => ?_)
    · intro y0 y1 y2 y3 y4
      unfold gutterref01_Parse.l0
      repeat' first
      | (with_reducible exact ih0 _ _ _ _)
      | (with_reducible exact ih1 _ _ _)
      | (with_reducible exact ih2 _ _ _ _ _)
      | (with_reducible exact ih3 _ _ _ _ _ _ _ _)
      | (with_reducible exact ih4 _ _ _ _ _ _ _)
      | (with_reducible exact ih5 _ _ _ _ _ _ _)
      | (with_reducible exact ih6 _ _ _ _ _)
      | (with_reducible exact gutterref01_Print.mono _ _)
      | (with_reducible exact LeO.refl _)
      | (with_reducible exact LeO.none _)
      | (with_reducible refine LeO.ite ?_ ?_)
      | (with_reducible refine LeO.bind ?_ (fun _ => ?_))
      | exact ih0 _ _ _ _
      | exact ih1 _ _ _
      | exact ih2 _ _ _ _ _
      | exact ih3 _ _ _ _ _ _ _ _
      | exact ih4 _ _ _ _ _ _ _
      | exact ih5 _ _ _ _ _ _ _
      | exact ih6 _ _ _ _ _
      | exact gutterref01_Print.mono _ _
      | exact LeO.none _
      | refine LeO.ite ?_ ?_
      | refine LeO.bind ?_ (fun _ => ?_)
theorem gutterref01_Parse.mono : ∀ a0 k, LeO (gutterref01_Parse.f k a0) (gutterref01_Parse.f (k + 1) a0) := by
  intro a0 k
  obtain ⟨ih0, ih1, ih2, ih3, ih4, ih5, ih6⟩ := gutterref01_Parse.mono_l k
  unfold gutterref01_Parse.f
  repeat' first
      | (with_reducible exact ih0 _ _ _ _)
      | (with_reducible exact ih1 _ _ _)
      | (with_reducible exact ih2 _ _ _ _ _)
      | (with_reducible exact ih3 _ _ _ _ _ _ _ _)
      | (with_reducible exact ih4 _ _ _ _ _ _ _)
      | (with_reducible exact ih5 _ _ _ _ _ _ _)
      | (with_reducible exact ih6 _ _ _ _ _)
      | (with_reducible exact gutterref01_Print.mono _ _)
      | (with_reducible exact LeO.refl _)
      | (with_reducible exact LeO.none _)
      | (with_reducible refine LeO.ite ?_ ?_)
      | (with_reducible refine LeO.bind ?_ (fun _ => ?_))
      | exact ih0 _ _ _ _
      | exact ih1 _ _ _
      | exact ih2 _ _ _ _ _
      | exact ih3 _ _ _ _ _ _ _ _
      | exact ih4 _ _ _ _ _ _ _
      | exact ih5 _ _ _ _ _ _ _
      | exact ih6 _ _ _ _ _
      | exact gutterref01_Print.mono _ _
      | exact LeO.none _
      | refine LeO.ite ?_ ?_
      | refine LeO.bind ?_ (fun _ => ?_)
set_option maxHeartbeats 8000000 in
set_option maxRecDepth 100000 in
theorem gutterref01_Parse.calls (k : Nat) (a0 : ByteArray) (r1 : Int) (r2 : Int) (w : World) (h : gutterref01_Parse.f k a0 = some (r1, r2)) :
    Calls Tryd.prog 16 #[.string a0] w fun e w' => e = .returned (.tuple #[.int .i64 r1, .int .i64 r2]) ∧ Below w.heap.size w w' := by
  have HB := Aside0.mk (Below.refl w.heap.size w)
  have H : (if (a0.size : Int) > 20 then (some (0, 12)) else (if a0.toList = ([] : List UInt8) then (gutterref01_Parse.j0 k a0 1 a0 false) else (if 0 < (a0.size : Int) then (gutterref01_Parse.j0 k a0 1 a0 ((bt a0 0) == 45)) else (none)))) = some (r1, r2) := h
  clear h
  by_cases c2 : (a0.size : Int) > 20
  · rw [if_pos c2] at H
    have c2b0 : decide (20 < (a0.size : Int)) = true := decide_eq_true c2
    have c2b1 : decide (20 < a0.size) = true := decide_eq_true (by omega)
    clear c2
    simp only [Option.some.injEq, Prod.mk.injEq] at H
    obtain ⟨rfl, rfl⟩ := H
    go_enter Tryd.func16, Tryd.ntmps16
    go_wp2
    go_ret2
    exact ⟨by first | rfl | (simp [errW_none, errW_some] <;> rfl) | (simp [*, errW_none, errW_some] <;> rfl), by repeat (first | (with_reducible first | exact HB.out | apply below_alloc | apply pw_below_drewN | apply below_drew1) | exact HB.out)⟩
  · rw [if_neg c2] at H
    have c2b0 : decide (20 < (a0.size : Int)) = false := decide_eq_false c2
    have c2b1 : decide (20 < a0.size) = false := decide_eq_false (by omega)
    clear c2
    have HC3 := Aside0.mk H
    clear H
    go_enter Tryd.func16, Tryd.ntmps16
    go_upto_region 5 with (fail)
    go_cut [23] (fun v23 wc => ∃ (kq : Nat) (x23_2 : Bool), v23 = .bool x23_2 ∧ Aside0 (gutterref01_Parse.j0 kq a0 1 a0 x23_2 = some (r1, r2)) ∧ Aside0 (kq ≤ k) ∧ Aside0 (Below w.heap.size w wc))
    case first =>
      have H := HC3.out
      clear HC3
      by_cases c4 : a0.toList = ([] : List UInt8)
      · rw [if_pos c4] at H
        have c4b0 : (a0.toList == ([] : List UInt8)) = true := beq_iff_eq.mpr c4
        have c4b1 : (a0.toList != ([] : List UInt8)) = false := bne_eq_false_iff_eq.mpr c4
        clear c4
        (first | rw [c4b0] | (simp only [i64_w, i32_w]; rw [c4b0]) | skip)
        have H' := Aside0.mk H
        clear H
        go_wp2
        go_meet
        case rel => exact ⟨_, (false), (by first | rfl | (simp; done) | (simp [*]; done)), H', ⟨by first | omega | exact Nat.le_refl _⟩, ⟨by repeat (first | (with_reducible first | exact HB.out | apply below_alloc | apply pw_below_drewN | apply below_drew1) | exact HB.out)⟩⟩
      · rw [if_neg c4] at H
        have c4b0 : (a0.toList == ([] : List UInt8)) = false := beq_eq_false_iff_ne.mpr c4
        have c4b1 : (a0.toList != ([] : List UInt8)) = true := bne_iff_ne.mpr c4
        (first | rw [c4b0] | (simp only [i64_w, i32_w]; rw [c4b0]) | skip)
        by_cases c5 : 0 < (a0.size : Int)
        · rw [if_pos c5] at H
          have c5b0 : decide (0 < (a0.size : Int)) = true := decide_eq_true c5
          have c5b1 : decide (0 < a0.size) = true := decide_eq_true (by omega)
          clear c5
          have H' := Aside0.mk H
          clear H
          have p6 : 0 ≤ (0 : Int) := (by omega)
          have q6 : 0 < a0.size := (by have : (0 : Int) < (a0.size : Int) := of_decide_eq_true (by first | (with_reducible assumption) | assumption); omega)
          have hx6 : ∀ h : 0 < a0.size, ((a0[0]'h).toNat : Int) = bt a0 0 := bt_at a0 0
          clear p6
          have qi6 : (0 < (a0.size : Int)) = True := eq_true (of_decide_eq_true (by first | (with_reducible assumption) | assumption))
          replace q6 := eq_true q6
          go_wp2
          go_meet
          case rel => exact ⟨_, (((bt a0 0) == 45)), (by first | rfl | (simp; done) | (simp [*]; done)), H', ⟨by first | omega | exact Nat.le_refl _⟩, ⟨by repeat (first | (with_reducible first | exact HB.out | apply below_alloc | apply pw_below_drewN | apply below_drew1) | exact HB.out)⟩⟩
        · rw [if_neg c5] at H
          exact absurd H (by simp)
    case rest =>
      clear HC3
      try clear c1
      try clear c2
      try clear c2b0
      try clear c2b1
      try clear p2
      try clear c4
      try clear c4b0
      try clear c4b1
      try clear c5
      try clear c5b0
      try clear c5b1
      try clear p6
      try clear q6
      try clear hx6
      try clear qi6
      try clear p6
      try clear q6
      obtain ⟨kq, x23_2, rfl, HA, HJ2, HB⟩ := hcut
      cases kq with
      | zero => exact absurd HA.out (by simp [gutterref01_Parse.j0])
      | succ kj2 =>
        have H := HA.out
        clear HA
        simp only [gutterref01_Parse.j0] at H
        have HC7 := Aside0.mk H
        clear H
        go_upto_if 23 with (fail)
        go_cut [4, 5] (fun v4 v5 wc => ∃ (kq : Nat) (x4_6 : Int) (x5_6 : ByteArray), v4 = .int .i64 x4_6 ∧ v5 = .string x5_6 ∧ Aside0 (gutterref01_Parse.j1 kq a0 x4_6 x5_6 = some (r1, r2)) ∧ Aside0 (kq ≤ kj2) ∧ Aside0 (Below w.heap.size w wc))
        case first =>
          have H := HC7.out
          clear HC7
          by_cases c8 : x23_2 = true
          · subst c8
            have H1 : (if 1 ≤ (a0.size : Int) then (gutterref01_Parse.j1 kj2 a0 (-1) (a0.extract 1 a0.size)) else (none)) = some (r1, r2) := by rw [if_pos rfl] at H; exact H
            clear H
            have H := H1
            clear H1
            by_cases c9 : 1 ≤ (a0.size : Int)
            · rw [if_pos c9] at H
              have c9b0 := eq_true c9
              have c9b1 : decide (1 ≤ (a0.size : Int)) = true := decide_eq_true c9
              clear c9
              have H' := Aside0.mk H
              clear H
              go_wp2
              go_meet
              case rel => exact ⟨_, ((-1)), (a0.extract 1 a0.size), (by first | rfl | (simp; done) | (simp [*]; done)), (by first | rfl | (simp; done) | (simp [*]; done)), H', ⟨by have := HJ2.out; first | omega | exact Nat.le_refl _⟩, ⟨by repeat (first | (with_reducible first | exact HB.out | apply below_alloc | apply pw_below_drewN | apply below_drew1) | exact HB.out)⟩⟩
            · rw [if_neg c9] at H
              exact absurd H (by simp)
          · replace c8 := Bool.eq_false_iff.mpr c8
            subst c8
            have H1 : (gutterref01_Parse.j1 kj2 a0 1 a0) = some (r1, r2) := by rw [if_neg (show ¬ (false = true) by decide)] at H; exact H
            clear H
            have H := H1
            clear H1
            have H' := Aside0.mk H
            clear H
            go_wp2
            go_meet
            case rel => exact ⟨_, (1), (a0), (by first | rfl | (simp; done) | (simp [*]; done)), (by first | rfl | (simp; done) | (simp [*]; done)), H', ⟨by have := HJ2.out; first | omega | exact Nat.le_refl _⟩, ⟨by repeat (first | (with_reducible first | exact HB.out | apply below_alloc | apply pw_below_drewN | apply below_drew1) | exact HB.out)⟩⟩
        case rest =>
          clear HC7
          try clear c1
          try clear c2
          try clear c2b0
          try clear c2b1
          try clear p2
          try clear c4
          try clear c4b0
          try clear c4b1
          try clear c5
          try clear c5b0
          try clear c5b1
          try clear p6
          try clear q6
          try clear hx6
          try clear qi6
          try clear c8
          try clear c9
          try clear c9b0
          try clear c9b1
          try clear p2
          try clear p6
          try clear q6
          obtain ⟨kq, x4_6, x5_6, rfl, rfl, HA, HJ6, HB⟩ := hcut
          cases kq with
          | zero => exact absurd HA.out (by simp [gutterref01_Parse.j1])
          | succ kj6 =>
            have H := HA.out
            clear HA
            simp only [gutterref01_Parse.j1] at H
            have HC10 := Aside0.mk H
            clear H
            go_upto_block 0 with (fail)
            go_cut [6, 7] (fun v6 v7 wc => ∃ (kq : Nat) (x6_9 : Int) (x7_9 : Int), v6 = .int .i64 x6_9 ∧ v7 = .int .i64 x7_9 ∧ Aside0 (gutterref01_Parse.j3 kq a0 x4_6 x5_6 x6_9 x7_9 = some (r1, r2)) ∧ Aside0 (kq ≤ kj6) ∧ Aside0 (Below w.heap.size w wc))
            case first =>
              have H := HC10.out
              clear HC10
              have H' := Aside0.mk H
              clear H
              go_wp2
              go_loopg [6, 7] kj6 (fun kq v6 v7 w' => ∃ (x6_3 : Int) (x7_3 : Int), v6 = .int .i64 x6_3 ∧ v7 = .int .i64 x7_3 ∧ Aside0 (gutterref01_Parse.l0 kq a0 x4_6 x5_6 x6_3 x7_3 = some (r1, r2)) ∧ Aside0 (kq ≤ kj6) ∧ Aside0 (Below w.heap.size w w'))
              case atStart => exact ⟨(0), (0), (by first | rfl | (simp; done) | (simp [*]; done)), (by first | rfl | (simp; done) | (simp [*]; done)), H', ⟨Nat.le_refl _⟩, ⟨by repeat (first | (with_reducible first | exact HB.out | apply below_alloc | apply pw_below_drewN | apply below_drew1) | exact HB.out)⟩⟩
              case round =>
                clear H'
                try clear c1
                try clear c2
                try clear c2b0
                try clear c2b1
                try clear p2
                try clear c4
                try clear c4b0
                try clear c4b1
                try clear c5
                try clear c5b0
                try clear c5b1
                try clear p6
                try clear q6
                try clear hx6
                try clear qi6
                try clear c8
                try clear c9
                try clear c9b0
                try clear c9b1
                try clear p2
                try clear p6
                try clear q6
                obtain ⟨x6_3, x7_3, rfl, rfl, HA, HK3, HB⟩ := hrel
                cases gk with
                | zero => exact absurd HA.out (by simp [gutterref01_Parse.l0])
                | succ k3 =>
                  have H := HA.out
                  clear HA
                  simp only [gutterref01_Parse.l0] at H
                  by_cases c11 : x7_3 < (x5_6.size : Int)
                  · rw [if_pos c11] at H
                    have c11b0 : decide (x7_3 < (x5_6.size : Int)) = true := decide_eq_true c11
                    clear c11
                    (first | rw [c11b0] | (simp only [i64_w, i32_w]; rw [c11b0]) | skip)
                    by_cases c12 : 0 ≤ x7_3
                    · rw [if_pos c12] at H
                      have c12b0 : decide (0 ≤ x7_3) = true := decide_eq_true c12
                      clear c12
                      by_cases c14 : (bt x5_6 x7_3) ≥ 48
                      · rw [if_pos c14] at H
                        have c14b0 : decide (48 ≤ (bt x5_6 x7_3)) = true := decide_eq_true c14
                        clear c14
                        by_cases c16 : (bt x5_6 x7_3) ≤ 57
                        · rw [if_pos c16] at H
                          have c16b0 : decide ((bt x5_6 x7_3) ≤ 57) = true := decide_eq_true c16
                          clear c16
                          by_cases c17 : x6_3 ≤ 1073741824
                          · rw [if_pos c17] at H
                            have c17b0 : decide (x6_3 ≤ 1073741824) = true := decide_eq_true c17
                            clear c17
                            have H' := Aside0.mk H
                            clear H
                            have p13 : 0 ≤ (x7_3 : Int) := of_decide_eq_true (by first | (with_reducible assumption) | assumption)
                            have q13 : x7_3 < (x5_6.size : Int) := of_decide_eq_true (by first | (with_reducible assumption) | assumption)
                            have hx13 := bt_at x5_6 x7_3
                            replace p13 := eq_true p13
                            replace q13 := eq_true q13
                            have p15 : 0 ≤ (x7_3 : Int) := of_decide_eq_true (by first | (with_reducible assumption) | assumption)
                            have q15 : x7_3 < (x5_6.size : Int) := of_decide_eq_true (by first | (with_reducible assumption) | assumption)
                            have hx15 := bt_at x5_6 x7_3
                            replace p15 := eq_true p15
                            replace q15 := eq_true q15
                            have p18 : 0 ≤ (x7_3 : Int) := of_decide_eq_true (by first | (with_reducible assumption) | assumption)
                            have q18 : x7_3 < (x5_6.size : Int) := of_decide_eq_true (by first | (with_reducible assumption) | assumption)
                            have hx18 := bt_at x5_6 x7_3
                            replace p18 := eq_true p18
                            replace q18 := eq_true q18
                            go_wp2
                            go_roundg k3
                            case measure => have := HJ2.out; have := HJ6.out; have := HK3.out; omega
                            case rel => exact ⟨(wrap64 ((wrap64 (10 * x6_3)) + (((bt x5_6 x7_3) - 48) % 256))), (wrap64 (x7_3 + 1)), (by first | rfl | (simp; done) | (simp [*]; done)), (by first | rfl | (simp; done) | (simp [*]; done)), H', ⟨by have := HJ2.out; have := HJ6.out; have := HK3.out; omega⟩, ⟨by repeat (first | (with_reducible first | exact HB.out | apply below_alloc | apply pw_below_drewN | apply below_drew1) | exact HB.out)⟩⟩
                          · rw [if_neg c17] at H
                            have c17b0 : decide (x6_3 ≤ 1073741824) = false := decide_eq_false c17
                            clear c17
                            have H' := Aside0.mk H
                            clear H
                            have p13 : 0 ≤ (x7_3 : Int) := of_decide_eq_true (by first | (with_reducible assumption) | assumption)
                            have q13 : x7_3 < (x5_6.size : Int) := of_decide_eq_true (by first | (with_reducible assumption) | assumption)
                            have hx13 := bt_at x5_6 x7_3
                            replace p13 := eq_true p13
                            replace q13 := eq_true q13
                            have p15 : 0 ≤ (x7_3 : Int) := of_decide_eq_true (by first | (with_reducible assumption) | assumption)
                            have q15 : x7_3 < (x5_6.size : Int) := of_decide_eq_true (by first | (with_reducible assumption) | assumption)
                            have hx15 := bt_at x5_6 x7_3
                            replace p15 := eq_true p15
                            replace q15 := eq_true q15
                            go_wp2
                            go_meet
                            case rel => exact ⟨_, (x6_3), (x7_3), (by first | rfl | (simp; done) | (simp [*]; done)), (by first | rfl | (simp; done) | (simp [*]; done)), H', ⟨by have := HJ2.out; have := HJ6.out; have := HK3.out; first | omega | exact Nat.le_refl _⟩, ⟨by repeat (first | (with_reducible first | exact HB.out | apply below_alloc | apply pw_below_drewN | apply below_drew1) | exact HB.out)⟩⟩
                        · rw [if_neg c16] at H
                          have c16b0 : decide ((bt x5_6 x7_3) ≤ 57) = false := decide_eq_false c16
                          clear c16
                          have H' := Aside0.mk H
                          clear H
                          have p13 : 0 ≤ (x7_3 : Int) := of_decide_eq_true (by first | (with_reducible assumption) | assumption)
                          have q13 : x7_3 < (x5_6.size : Int) := of_decide_eq_true (by first | (with_reducible assumption) | assumption)
                          have hx13 := bt_at x5_6 x7_3
                          replace p13 := eq_true p13
                          replace q13 := eq_true q13
                          have p15 : 0 ≤ (x7_3 : Int) := of_decide_eq_true (by first | (with_reducible assumption) | assumption)
                          have q15 : x7_3 < (x5_6.size : Int) := of_decide_eq_true (by first | (with_reducible assumption) | assumption)
                          have hx15 := bt_at x5_6 x7_3
                          replace p15 := eq_true p15
                          replace q15 := eq_true q15
                          go_wp2
                          go_meet
                          case rel => exact ⟨_, (x6_3), (x7_3), (by first | rfl | (simp; done) | (simp [*]; done)), (by first | rfl | (simp; done) | (simp [*]; done)), H', ⟨by have := HJ2.out; have := HJ6.out; have := HK3.out; first | omega | exact Nat.le_refl _⟩, ⟨by repeat (first | (with_reducible first | exact HB.out | apply below_alloc | apply pw_below_drewN | apply below_drew1) | exact HB.out)⟩⟩
                      · rw [if_neg c14] at H
                        have c14b0 : decide (48 ≤ (bt x5_6 x7_3)) = false := decide_eq_false c14
                        clear c14
                        have H' := Aside0.mk H
                        clear H
                        have p13 : 0 ≤ (x7_3 : Int) := of_decide_eq_true (by first | (with_reducible assumption) | assumption)
                        have q13 : x7_3 < (x5_6.size : Int) := of_decide_eq_true (by first | (with_reducible assumption) | assumption)
                        have hx13 := bt_at x5_6 x7_3
                        replace p13 := eq_true p13
                        replace q13 := eq_true q13
                        go_wp2
                        go_meet
                        case rel => exact ⟨_, (x6_3), (x7_3), (by first | rfl | (simp; done) | (simp [*]; done)), (by first | rfl | (simp; done) | (simp [*]; done)), H', ⟨by have := HJ2.out; have := HJ6.out; have := HK3.out; first | omega | exact Nat.le_refl _⟩, ⟨by repeat (first | (with_reducible first | exact HB.out | apply below_alloc | apply pw_below_drewN | apply below_drew1) | exact HB.out)⟩⟩
                    · rw [if_neg c12] at H
                      exact absurd H (by simp)
                  · rw [if_neg c11] at H
                    have c11b0 : decide (x7_3 < (x5_6.size : Int)) = false := decide_eq_false c11
                    clear c11
                    (first | rw [c11b0] | (simp only [i64_w, i32_w]; rw [c11b0]) | skip)
                    have H' := Aside0.mk H
                    clear H
                    go_wp2
                    go_meet
                    case rel => exact ⟨_, (x6_3), (x7_3), (by first | rfl | (simp; done) | (simp [*]; done)), (by first | rfl | (simp; done) | (simp [*]; done)), H', ⟨by have := HJ2.out; have := HJ6.out; have := HK3.out; first | omega | exact Nat.le_refl _⟩, ⟨by repeat (first | (with_reducible first | exact HB.out | apply below_alloc | apply pw_below_drewN | apply below_drew1) | exact HB.out)⟩⟩
            case rest =>
              clear HC10
              try clear c1
              try clear p1
              try clear q1
              try clear hx1
              try clear c2
              try clear c2b0
              try clear c2b1
              try clear p2
              try clear c4
              try clear c4b0
              try clear c4b1
              try clear c5
              try clear c5b0
              try clear c5b1
              try clear p6
              try clear q6
              try clear hx6
              try clear qi6
              try clear c8
              try clear c9
              try clear c9b0
              try clear c9b1
              try clear c11
              try clear c11b0
              try clear c12
              try clear c12b0
              try clear p13
              try clear q13
              try clear hx13
              try clear c14
              try clear c14b0
              try clear p15
              try clear q15
              try clear hx15
              try clear c16
              try clear c16b0
              try clear c17
              try clear c17b0
              try clear p18
              try clear q18
              try clear hx18
              try clear p13
              try clear p15
              try clear p18
              try clear p2
              try clear p6
              try clear q13
              try clear q15
              try clear q18
              try clear q6
              obtain ⟨kq, x6_9, x7_9, rfl, rfl, HA, HJ9, HB⟩ := hcut
              cases kq with
              | zero => exact absurd HA.out (by simp [gutterref01_Parse.j3])
              | succ kj9 =>
                have H := HA.out
                clear HA
                simp only [gutterref01_Parse.j3] at H
                have HC19 := Aside0.mk H
                clear H
                go_upto_region 15 with (fail)
                go_cut [65] (fun v65 wc => ∃ (kq : Nat) (x65_18 : Bool), v65 = .bool x65_18 ∧ Aside0 (gutterref01_Parse.j4 kq a0 x4_6 x5_6 x6_9 x7_9 0 1000000 x65_18 = some (r1, r2)) ∧ Aside0 (kq ≤ kj9) ∧ Aside0 (Below w.heap.size w wc))
                case first =>
                  have H := HC19.out
                  clear HC19
                  by_cases c20 : x7_9 < (x5_6.size : Int)
                  · rw [if_pos c20] at H
                    have c20b0 : decide (x7_9 < (x5_6.size : Int)) = true := decide_eq_true c20
                    clear c20
                    (first | rw [c20b0] | (simp only [i64_w, i32_w]; rw [c20b0]) | skip)
                    by_cases c21 : 0 ≤ x7_9
                    · rw [if_pos c21] at H
                      have c21b0 : decide (0 ≤ x7_9) = true := decide_eq_true c21
                      clear c21
                      have H' := Aside0.mk H
                      clear H
                      have p22 : 0 ≤ (x7_9 : Int) := of_decide_eq_true (by first | (with_reducible assumption) | assumption)
                      have q22 : x7_9 < (x5_6.size : Int) := of_decide_eq_true (by first | (with_reducible assumption) | assumption)
                      have hx22 := bt_at x5_6 x7_9
                      replace p22 := eq_true p22
                      replace q22 := eq_true q22
                      go_wp2
                      go_meet
                      case rel => exact ⟨_, (((bt x5_6 x7_9) == 46)), (by first | rfl | (simp; done) | (simp [*]; done)), H', ⟨by have := HJ2.out; have := HJ6.out; have := HJ9.out; first | omega | exact Nat.le_refl _⟩, ⟨by repeat (first | (with_reducible first | exact HB.out | apply below_alloc | apply pw_below_drewN | apply below_drew1) | exact HB.out)⟩⟩
                    · rw [if_neg c21] at H
                      exact absurd H (by simp)
                  · rw [if_neg c20] at H
                    have c20b0 : decide (x7_9 < (x5_6.size : Int)) = false := decide_eq_false c20
                    clear c20
                    (first | rw [c20b0] | (simp only [i64_w, i32_w]; rw [c20b0]) | skip)
                    have H' := Aside0.mk H
                    clear H
                    go_wp2
                    go_meet
                    case rel => exact ⟨_, (false), (by first | rfl | (simp; done) | (simp [*]; done)), H', ⟨by have := HJ2.out; have := HJ6.out; have := HJ9.out; first | omega | exact Nat.le_refl _⟩, ⟨by repeat (first | (with_reducible first | exact HB.out | apply below_alloc | apply pw_below_drewN | apply below_drew1) | exact HB.out)⟩⟩
                case rest =>
                  clear HC19
                  try clear c1
                  try clear p1
                  try clear q1
                  try clear hx1
                  try clear c2
                  try clear c2b0
                  try clear c2b1
                  try clear p2
                  try clear q2
                  try clear hx2
                  try clear c4
                  try clear c4b0
                  try clear c4b1
                  try clear c5
                  try clear c5b0
                  try clear c5b1
                  try clear p6
                  try clear q6
                  try clear hx6
                  try clear qi6
                  try clear c8
                  try clear c9
                  try clear c9b0
                  try clear c9b1
                  try clear c11
                  try clear c11b0
                  try clear c12
                  try clear c12b0
                  try clear p13
                  try clear q13
                  try clear hx13
                  try clear c14
                  try clear c14b0
                  try clear p15
                  try clear q15
                  try clear hx15
                  try clear c16
                  try clear c16b0
                  try clear c17
                  try clear c17b0
                  try clear p18
                  try clear q18
                  try clear hx18
                  try clear c20
                  try clear c20b0
                  try clear c21
                  try clear c21b0
                  try clear p22
                  try clear q22
                  try clear hx22
                  try clear p1
                  try clear p13
                  try clear p15
                  try clear p18
                  try clear p2
                  try clear p22
                  try clear p6
                  try clear q1
                  try clear q13
                  try clear q15
                  try clear q18
                  try clear q22
                  try clear q6
                  obtain ⟨kq, x65_18, rfl, HA, HJ18, HB⟩ := hcut
                  cases kq with
                  | zero => exact absurd HA.out (by simp [gutterref01_Parse.j4])
                  | succ kj18 =>
                    have H := HA.out
                    clear HA
                    simp only [gutterref01_Parse.j4] at H
                    have HC23 := Aside0.mk H
                    clear H
                    go_upto_if 65 with (fail)
                    go_cut [7] (fun v7 wc => ∃ (kq : Nat) (x7_22 : Int), v7 = .int .i64 x7_22 ∧ Aside0 (gutterref01_Parse.j5 kq a0 x4_6 x5_6 x6_9 x7_22 0 1000000 = some (r1, r2)) ∧ Aside0 (kq ≤ kj18) ∧ Aside0 (Below w.heap.size w wc))
                    case first =>
                      have H := HC23.out
                      clear HC23
                      by_cases c24 : x65_18 = true
                      · subst c24
                        have H1 : (gutterref01_Parse.j5 kj18 a0 x4_6 x5_6 x6_9 (wrap64 (x7_9 + 1)) 0 1000000) = some (r1, r2) := by rw [if_pos rfl] at H; exact H
                        clear H
                        have H := H1
                        clear H1
                        have H' := Aside0.mk H
                        clear H
                        go_wp2
                        go_meet
                        case rel => exact ⟨_, (wrap64 (x7_9 + 1)), (by first | rfl | (simp; done) | (simp [*]; done)), H', ⟨by have := HJ2.out; have := HJ6.out; have := HJ9.out; have := HJ18.out; first | omega | exact Nat.le_refl _⟩, ⟨by repeat (first | (with_reducible first | exact HB.out | apply below_alloc | apply pw_below_drewN | apply below_drew1) | exact HB.out)⟩⟩
                      · replace c24 := Bool.eq_false_iff.mpr c24
                        subst c24
                        have H1 : (gutterref01_Parse.j5 kj18 a0 x4_6 x5_6 x6_9 x7_9 0 1000000) = some (r1, r2) := by rw [if_neg (show ¬ (false = true) by decide)] at H; exact H
                        clear H
                        have H := H1
                        clear H1
                        have H' := Aside0.mk H
                        clear H
                        go_wp2
                        go_meet
                        case rel => exact ⟨_, (x7_9), (by first | rfl | (simp; done) | (simp [*]; done)), H', ⟨by have := HJ2.out; have := HJ6.out; have := HJ9.out; have := HJ18.out; first | omega | exact Nat.le_refl _⟩, ⟨by repeat (first | (with_reducible first | exact HB.out | apply below_alloc | apply pw_below_drewN | apply below_drew1) | exact HB.out)⟩⟩
                    case rest =>
                      clear HC23
                      try clear c1
                      try clear p1
                      try clear q1
                      try clear hx1
                      try clear c2
                      try clear c2b0
                      try clear c2b1
                      try clear p2
                      try clear q2
                      try clear hx2
                      try clear c4
                      try clear c4b0
                      try clear c4b1
                      try clear c5
                      try clear c5b0
                      try clear c5b1
                      try clear p6
                      try clear q6
                      try clear hx6
                      try clear qi6
                      try clear c8
                      try clear c9
                      try clear c9b0
                      try clear c9b1
                      try clear c11
                      try clear c11b0
                      try clear c12
                      try clear c12b0
                      try clear p13
                      try clear q13
                      try clear hx13
                      try clear c14
                      try clear c14b0
                      try clear p15
                      try clear q15
                      try clear hx15
                      try clear c16
                      try clear c16b0
                      try clear c17
                      try clear c17b0
                      try clear p18
                      try clear q18
                      try clear hx18
                      try clear c20
                      try clear c20b0
                      try clear c21
                      try clear c21b0
                      try clear p22
                      try clear q22
                      try clear hx22
                      try clear c24
                      try clear p1
                      try clear p13
                      try clear p15
                      try clear p18
                      try clear p2
                      try clear p22
                      try clear p6
                      try clear q1
                      try clear q13
                      try clear q15
                      try clear q18
                      try clear q2
                      try clear q22
                      try clear q6
                      obtain ⟨kq, x7_22, rfl, HA, HJ22, HB⟩ := hcut
                      cases kq with
                      | zero => exact absurd HA.out (by simp [gutterref01_Parse.j5])
                      | succ kj22 =>
                        have H := HA.out
                        clear HA
                        simp only [gutterref01_Parse.j5] at H
                        have H' := Aside0.mk H
                        clear H
                        go_wp2
                        go_loopg [7, 8, 9] kj22 (fun kq v7 v8 v9 w' => ∃ (x7_6 : Int) (x8_6 : Int) (x9_6 : Int), v7 = .int .i64 x7_6 ∧ v8 = .int .i64 x8_6 ∧ v9 = .int .i64 x9_6 ∧ Aside0 (gutterref01_Parse.l1 kq a0 x4_6 x5_6 x6_9 x7_6 x8_6 x9_6 = some (r1, r2)) ∧ Aside0 (kq ≤ kj22) ∧ Aside0 (Below w.heap.size w w'))
                        case atStart => exact ⟨(x7_22), (0), (1000000), (by first | rfl | (simp; done) | (simp [*]; done)), (by first | rfl | (simp; done) | (simp [*]; done)), (by first | rfl | (simp; done) | (simp [*]; done)), H', ⟨Nat.le_refl _⟩, ⟨by repeat (first | (with_reducible first | exact HB.out | apply below_alloc | apply pw_below_drewN | apply below_drew1) | exact HB.out)⟩⟩
                        case round =>
                          clear H'
                          try clear c1
                          try clear p1
                          try clear q1
                          try clear hx1
                          try clear c2
                          try clear c2b0
                          try clear c2b1
                          try clear p2
                          try clear q2
                          try clear hx2
                          try clear c4
                          try clear c4b0
                          try clear c4b1
                          try clear c5
                          try clear c5b0
                          try clear c5b1
                          try clear p6
                          try clear q6
                          try clear hx6
                          try clear qi6
                          try clear c8
                          try clear c9
                          try clear c9b0
                          try clear c9b1
                          try clear c11
                          try clear c11b0
                          try clear c12
                          try clear c12b0
                          try clear p13
                          try clear q13
                          try clear hx13
                          try clear c14
                          try clear c14b0
                          try clear p15
                          try clear q15
                          try clear hx15
                          try clear c16
                          try clear c16b0
                          try clear c17
                          try clear c17b0
                          try clear p18
                          try clear q18
                          try clear hx18
                          try clear c20
                          try clear c20b0
                          try clear c21
                          try clear c21b0
                          try clear p22
                          try clear q22
                          try clear hx22
                          try clear c24
                          try clear p1
                          try clear p13
                          try clear p15
                          try clear p18
                          try clear p2
                          try clear p22
                          try clear p6
                          try clear q1
                          try clear q13
                          try clear q15
                          try clear q18
                          try clear q2
                          try clear q22
                          try clear q6
                          obtain ⟨x7_6, x8_6, x9_6, rfl, rfl, rfl, HA, HK6, HB⟩ := hrel
                          cases gk with
                          | zero => exact absurd HA.out (by simp [gutterref01_Parse.l1])
                          | succ k6 =>
                            have H := HA.out
                            clear HA
                            simp only [gutterref01_Parse.l1] at H
                            by_cases c25 : x7_6 < (x5_6.size : Int)
                            · rw [if_pos c25] at H
                              have c25b0 : decide (x7_6 < (x5_6.size : Int)) = true := decide_eq_true c25
                              clear c25
                              by_cases c26 : 0 ≤ x7_6
                              · rw [if_pos c26] at H
                                have c26b0 : decide (0 ≤ x7_6) = true := decide_eq_true c26
                                clear c26
                                by_cases c28 : (bt x5_6 x7_6) ≥ 48
                                · rw [if_pos c28] at H
                                  have c28b0 : decide (48 ≤ (bt x5_6 x7_6)) = true := decide_eq_true c28
                                  clear c28
                                  by_cases c30 : (bt x5_6 x7_6) ≤ 57
                                  · rw [if_pos c30] at H
                                    have c30b0 : decide ((bt x5_6 x7_6) ≤ 57) = true := decide_eq_true c30
                                    clear c30
                                    by_cases c31 : x9_6 > 1
                                    · rw [if_pos c31] at H
                                      have c31b0 : decide (1 < x9_6) = true := decide_eq_true c31
                                      clear c31
                                      have H' := Aside0.mk H
                                      clear H
                                      have p27 : 0 ≤ (x7_6 : Int) := of_decide_eq_true (by first | (with_reducible assumption) | assumption)
                                      have q27 : x7_6 < (x5_6.size : Int) := of_decide_eq_true (by first | (with_reducible assumption) | assumption)
                                      have hx27 := bt_at x5_6 x7_6
                                      replace p27 := eq_true p27
                                      replace q27 := eq_true q27
                                      have p29 : 0 ≤ (x7_6 : Int) := of_decide_eq_true (by first | (with_reducible assumption) | assumption)
                                      have q29 : x7_6 < (x5_6.size : Int) := of_decide_eq_true (by first | (with_reducible assumption) | assumption)
                                      have hx29 := bt_at x5_6 x7_6
                                      replace p29 := eq_true p29
                                      replace q29 := eq_true q29
                                      have p32 : 0 ≤ (x7_6 : Int) := of_decide_eq_true (by first | (with_reducible assumption) | assumption)
                                      have q32 : x7_6 < (x5_6.size : Int) := of_decide_eq_true (by first | (with_reducible assumption) | assumption)
                                      have hx32 := bt_at x5_6 x7_6
                                      replace p32 := eq_true p32
                                      replace q32 := eq_true q32
                                      go_wp2
                                      go_roundg k6
                                      case measure => have := HJ2.out; have := HJ6.out; have := HJ9.out; have := HJ18.out; have := HJ22.out; have := HK6.out; omega
                                      case rel => exact ⟨(wrap64 (x7_6 + 1)), (wrap64 (x8_6 + (wrap64 ((wrap64 (Int.tdiv x9_6 10)) * (((bt x5_6 x7_6) - 48) % 256))))), (wrap64 (Int.tdiv x9_6 10)), (by first | rfl | (simp; done) | (simp [*]; done)), (by first | rfl | (simp; done) | (simp [*]; done)), (by first | rfl | (simp; done) | (simp [*]; done)), H', ⟨by have := HJ2.out; have := HJ6.out; have := HJ9.out; have := HJ18.out; have := HJ22.out; have := HK6.out; omega⟩, ⟨by repeat (first | (with_reducible first | exact HB.out | apply below_alloc | apply pw_below_drewN | apply below_drew1) | exact HB.out)⟩⟩
                                    · rw [if_neg c31] at H
                                      have c31b0 : decide (1 < x9_6) = false := decide_eq_false c31
                                      clear c31
                                      replace H := Option.bind_eq_some_iff.mp H
                                      obtain ⟨⟨t123, t124⟩, A330, H⟩ := H
                                      replace H : (if t124 = 0 then (if t123.toList = a0.toList then (some (wrap64 (x4_6 * (wrap64 ((wrap64 (64 * x6_9)) + (wrap64 (Int.tdiv (wrap64 (x8_6 * 64)) 1000000))))), 0)) else (some (0, 12))) else (some (0, 12))) = some (r1, r2) := H
                                      have A33 := Aside0.mk A330
                                      clear A330
                                      by_cases c34 : t124 = 0
                                      · rw [if_pos c34] at H
                                        have c34b0 : (t124 == 0) = true := beq_iff_eq.mpr c34
                                        have c34b1 : (t124 != 0) = false := bne_eq_false_iff_eq.mpr c34
                                        clear c34
                                        by_cases c35 : t123.toList = a0.toList
                                        · rw [if_pos c35] at H
                                          have c35b0 : (t123.toList == a0.toList) = true := beq_iff_eq.mpr c35
                                          have c35b1 : (t123.toList != a0.toList) = false := bne_eq_false_iff_eq.mpr c35
                                          clear c35
                                          simp only [Option.some.injEq, Prod.mk.injEq] at H
                                          obtain ⟨rfl, rfl⟩ := H
                                          have p27 : 0 ≤ (x7_6 : Int) := of_decide_eq_true (by first | (with_reducible assumption) | assumption)
                                          have q27 : x7_6 < (x5_6.size : Int) := of_decide_eq_true (by first | (with_reducible assumption) | assumption)
                                          have hx27 := bt_at x5_6 x7_6
                                          replace p27 := eq_true p27
                                          replace q27 := eq_true q27
                                          have p29 : 0 ≤ (x7_6 : Int) := of_decide_eq_true (by first | (with_reducible assumption) | assumption)
                                          have q29 : x7_6 < (x5_6.size : Int) := of_decide_eq_true (by first | (with_reducible assumption) | assumption)
                                          have hx29 := bt_at x5_6 x7_6
                                          replace p29 := eq_true p29
                                          replace q29 := eq_true q29
                                          go_wp2_with (first | ((with_reducible refine gate_callee (f := 13) rfl ?_); refine goesL_ (some 111) rfl rfl Tryd.func13 (by kernel_rfl) rfl #[.int .i64 (wrap64 (x4_6 * (wrap64 ((wrap64 (64 * x6_9)) + (wrap64 (Int.tdiv (wrap64 (x8_6 * 64)) 1000000))))))] rfl (by (try simp only [List.map_toArray, List.map_cons, List.map_nil]); first | done | rfl | (simp only [List.length_drop, List.length_take]; rfl)) ?_; (with_reducible refine (gutterref01_Print.calls k6 (wrap64 (x4_6 * (wrap64 ((wrap64 (64 * x6_9)) + (wrap64 (Int.tdiv (wrap64 (x8_6 * 64)) 1000000)))))) t123 t124 _ A33.out).mono ?_); rintro e w36 ⟨rfl, hb⟩; refine ⟨_, rfl, ?_⟩; have n0_ := Aside0.mk (below_step (by repeat (first | (with_reducible first | exact HB.out | apply below_alloc | apply pw_below_drewN | apply below_drew1) | exact HB.out)) hb); clear HB; have HB := n0_; clear n0_; (try clear hb); (try clear hb2); (try clear hk); (try clear hi)))
                                          go_ret2
                                          exact ⟨by first | rfl | (simp [errW_none, errW_some] <;> rfl) | (simp [*, errW_none, errW_some] <;> rfl), by repeat (first | (with_reducible first | exact HB.out | apply below_alloc | apply pw_below_drewN | apply below_drew1) | exact HB.out)⟩
                                        · rw [if_neg c35] at H
                                          have c35b0 : (t123.toList == a0.toList) = false := beq_eq_false_iff_ne.mpr c35
                                          have c35b1 : (t123.toList != a0.toList) = true := bne_iff_ne.mpr c35
                                          simp only [Option.some.injEq, Prod.mk.injEq] at H
                                          obtain ⟨rfl, rfl⟩ := H
                                          have p27 : 0 ≤ (x7_6 : Int) := of_decide_eq_true (by first | (with_reducible assumption) | assumption)
                                          have q27 : x7_6 < (x5_6.size : Int) := of_decide_eq_true (by first | (with_reducible assumption) | assumption)
                                          have hx27 := bt_at x5_6 x7_6
                                          replace p27 := eq_true p27
                                          replace q27 := eq_true q27
                                          have p29 : 0 ≤ (x7_6 : Int) := of_decide_eq_true (by first | (with_reducible assumption) | assumption)
                                          have q29 : x7_6 < (x5_6.size : Int) := of_decide_eq_true (by first | (with_reducible assumption) | assumption)
                                          have hx29 := bt_at x5_6 x7_6
                                          replace p29 := eq_true p29
                                          replace q29 := eq_true q29
                                          go_wp2_with (first | ((with_reducible refine gate_callee (f := 13) rfl ?_); refine goesL_ (some 111) rfl rfl Tryd.func13 (by kernel_rfl) rfl #[.int .i64 (wrap64 (x4_6 * (wrap64 ((wrap64 (64 * x6_9)) + (wrap64 (Int.tdiv (wrap64 (x8_6 * 64)) 1000000))))))] rfl (by (try simp only [List.map_toArray, List.map_cons, List.map_nil]); first | done | rfl | (simp only [List.length_drop, List.length_take]; rfl)) ?_; (with_reducible refine (gutterref01_Print.calls k6 (wrap64 (x4_6 * (wrap64 ((wrap64 (64 * x6_9)) + (wrap64 (Int.tdiv (wrap64 (x8_6 * 64)) 1000000)))))) t123 t124 _ A33.out).mono ?_); rintro e w37 ⟨rfl, hb⟩; refine ⟨_, rfl, ?_⟩; have n0_ := Aside0.mk (below_step (by repeat (first | (with_reducible first | exact HB.out | apply below_alloc | apply pw_below_drewN | apply below_drew1) | exact HB.out)) hb); clear HB; have HB := n0_; clear n0_; (try clear hb); (try clear hb2); (try clear hk); (try clear hi)))
                                          go_ret2
                                          exact ⟨by first | rfl | (simp [errW_none, errW_some] <;> rfl) | (simp [*, errW_none, errW_some] <;> rfl), by repeat (first | (with_reducible first | exact HB.out | apply below_alloc | apply pw_below_drewN | apply below_drew1) | exact HB.out)⟩
                                      · rw [if_neg c34] at H
                                        have c34b0 : (t124 == 0) = false := beq_eq_false_iff_ne.mpr c34
                                        have c34b1 : (t124 != 0) = true := bne_iff_ne.mpr c34
                                        simp only [Option.some.injEq, Prod.mk.injEq] at H
                                        obtain ⟨rfl, rfl⟩ := H
                                        have p27 : 0 ≤ (x7_6 : Int) := of_decide_eq_true (by first | (with_reducible assumption) | assumption)
                                        have q27 : x7_6 < (x5_6.size : Int) := of_decide_eq_true (by first | (with_reducible assumption) | assumption)
                                        have hx27 := bt_at x5_6 x7_6
                                        replace p27 := eq_true p27
                                        replace q27 := eq_true q27
                                        have p29 : 0 ≤ (x7_6 : Int) := of_decide_eq_true (by first | (with_reducible assumption) | assumption)
                                        have q29 : x7_6 < (x5_6.size : Int) := of_decide_eq_true (by first | (with_reducible assumption) | assumption)
                                        have hx29 := bt_at x5_6 x7_6
                                        replace p29 := eq_true p29
                                        replace q29 := eq_true q29
                                        go_wp2_with (first | ((with_reducible refine gate_callee (f := 13) rfl ?_); refine goesL_ (some 111) rfl rfl Tryd.func13 (by kernel_rfl) rfl #[.int .i64 (wrap64 (x4_6 * (wrap64 ((wrap64 (64 * x6_9)) + (wrap64 (Int.tdiv (wrap64 (x8_6 * 64)) 1000000))))))] rfl (by (try simp only [List.map_toArray, List.map_cons, List.map_nil]); first | done | rfl | (simp only [List.length_drop, List.length_take]; rfl)) ?_; (with_reducible refine (gutterref01_Print.calls k6 (wrap64 (x4_6 * (wrap64 ((wrap64 (64 * x6_9)) + (wrap64 (Int.tdiv (wrap64 (x8_6 * 64)) 1000000)))))) t123 t124 _ A33.out).mono ?_); rintro e w38 ⟨rfl, hb⟩; refine ⟨_, rfl, ?_⟩; have n0_ := Aside0.mk (below_step (by repeat (first | (with_reducible first | exact HB.out | apply below_alloc | apply pw_below_drewN | apply below_drew1) | exact HB.out)) hb); clear HB; have HB := n0_; clear n0_; (try clear hb); (try clear hb2); (try clear hk); (try clear hi)))
                                        go_ret2
                                        exact ⟨by first | rfl | (simp [errW_none, errW_some] <;> rfl) | (simp [*, errW_none, errW_some] <;> rfl), by repeat (first | (with_reducible first | exact HB.out | apply below_alloc | apply pw_below_drewN | apply below_drew1) | exact HB.out)⟩
                                  · rw [if_neg c30] at H
                                    have c30b0 : decide ((bt x5_6 x7_6) ≤ 57) = false := decide_eq_false c30
                                    clear c30
                                    replace H := Option.bind_eq_some_iff.mp H
                                    obtain ⟨⟨t125, t126⟩, A390, H⟩ := H
                                    replace H : (if t126 = 0 then (if t125.toList = a0.toList then (some (wrap64 (x4_6 * (wrap64 ((wrap64 (64 * x6_9)) + (wrap64 (Int.tdiv (wrap64 (x8_6 * 64)) 1000000))))), 0)) else (some (0, 12))) else (some (0, 12))) = some (r1, r2) := H
                                    have A39 := Aside0.mk A390
                                    clear A390
                                    by_cases c40 : t126 = 0
                                    · rw [if_pos c40] at H
                                      have c40b0 : (t126 == 0) = true := beq_iff_eq.mpr c40
                                      have c40b1 : (t126 != 0) = false := bne_eq_false_iff_eq.mpr c40
                                      clear c40
                                      by_cases c41 : t125.toList = a0.toList
                                      · rw [if_pos c41] at H
                                        have c41b0 : (t125.toList == a0.toList) = true := beq_iff_eq.mpr c41
                                        have c41b1 : (t125.toList != a0.toList) = false := bne_eq_false_iff_eq.mpr c41
                                        clear c41
                                        simp only [Option.some.injEq, Prod.mk.injEq] at H
                                        obtain ⟨rfl, rfl⟩ := H
                                        have p27 : 0 ≤ (x7_6 : Int) := of_decide_eq_true (by first | (with_reducible assumption) | assumption)
                                        have q27 : x7_6 < (x5_6.size : Int) := of_decide_eq_true (by first | (with_reducible assumption) | assumption)
                                        have hx27 := bt_at x5_6 x7_6
                                        replace p27 := eq_true p27
                                        replace q27 := eq_true q27
                                        have p29 : 0 ≤ (x7_6 : Int) := of_decide_eq_true (by first | (with_reducible assumption) | assumption)
                                        have q29 : x7_6 < (x5_6.size : Int) := of_decide_eq_true (by first | (with_reducible assumption) | assumption)
                                        have hx29 := bt_at x5_6 x7_6
                                        replace p29 := eq_true p29
                                        replace q29 := eq_true q29
                                        go_wp2_with (first | ((with_reducible refine gate_callee (f := 13) rfl ?_); refine goesL_ (some 111) rfl rfl Tryd.func13 (by kernel_rfl) rfl #[.int .i64 (wrap64 (x4_6 * (wrap64 ((wrap64 (64 * x6_9)) + (wrap64 (Int.tdiv (wrap64 (x8_6 * 64)) 1000000))))))] rfl (by (try simp only [List.map_toArray, List.map_cons, List.map_nil]); first | done | rfl | (simp only [List.length_drop, List.length_take]; rfl)) ?_; (with_reducible refine (gutterref01_Print.calls k6 (wrap64 (x4_6 * (wrap64 ((wrap64 (64 * x6_9)) + (wrap64 (Int.tdiv (wrap64 (x8_6 * 64)) 1000000)))))) t125 t126 _ A39.out).mono ?_); rintro e w42 ⟨rfl, hb⟩; refine ⟨_, rfl, ?_⟩; have n0_ := Aside0.mk (below_step (by repeat (first | (with_reducible first | exact HB.out | apply below_alloc | apply pw_below_drewN | apply below_drew1) | exact HB.out)) hb); clear HB; have HB := n0_; clear n0_; (try clear hb); (try clear hb2); (try clear hk); (try clear hi)))
                                        go_ret2
                                        exact ⟨by first | rfl | (simp [errW_none, errW_some] <;> rfl) | (simp [*, errW_none, errW_some] <;> rfl), by repeat (first | (with_reducible first | exact HB.out | apply below_alloc | apply pw_below_drewN | apply below_drew1) | exact HB.out)⟩
                                      · rw [if_neg c41] at H
                                        have c41b0 : (t125.toList == a0.toList) = false := beq_eq_false_iff_ne.mpr c41
                                        have c41b1 : (t125.toList != a0.toList) = true := bne_iff_ne.mpr c41
                                        simp only [Option.some.injEq, Prod.mk.injEq] at H
                                        obtain ⟨rfl, rfl⟩ := H
                                        have p27 : 0 ≤ (x7_6 : Int) := of_decide_eq_true (by first | (with_reducible assumption) | assumption)
                                        have q27 : x7_6 < (x5_6.size : Int) := of_decide_eq_true (by first | (with_reducible assumption) | assumption)
                                        have hx27 := bt_at x5_6 x7_6
                                        replace p27 := eq_true p27
                                        replace q27 := eq_true q27
                                        have p29 : 0 ≤ (x7_6 : Int) := of_decide_eq_true (by first | (with_reducible assumption) | assumption)
                                        have q29 : x7_6 < (x5_6.size : Int) := of_decide_eq_true (by first | (with_reducible assumption) | assumption)
                                        have hx29 := bt_at x5_6 x7_6
                                        replace p29 := eq_true p29
                                        replace q29 := eq_true q29
                                        go_wp2_with (first | ((with_reducible refine gate_callee (f := 13) rfl ?_); refine goesL_ (some 111) rfl rfl Tryd.func13 (by kernel_rfl) rfl #[.int .i64 (wrap64 (x4_6 * (wrap64 ((wrap64 (64 * x6_9)) + (wrap64 (Int.tdiv (wrap64 (x8_6 * 64)) 1000000))))))] rfl (by (try simp only [List.map_toArray, List.map_cons, List.map_nil]); first | done | rfl | (simp only [List.length_drop, List.length_take]; rfl)) ?_; (with_reducible refine (gutterref01_Print.calls k6 (wrap64 (x4_6 * (wrap64 ((wrap64 (64 * x6_9)) + (wrap64 (Int.tdiv (wrap64 (x8_6 * 64)) 1000000)))))) t125 t126 _ A39.out).mono ?_); rintro e w43 ⟨rfl, hb⟩; refine ⟨_, rfl, ?_⟩; have n0_ := Aside0.mk (below_step (by repeat (first | (with_reducible first | exact HB.out | apply below_alloc | apply pw_below_drewN | apply below_drew1) | exact HB.out)) hb); clear HB; have HB := n0_; clear n0_; (try clear hb); (try clear hb2); (try clear hk); (try clear hi)))
                                        go_ret2
                                        exact ⟨by first | rfl | (simp [errW_none, errW_some] <;> rfl) | (simp [*, errW_none, errW_some] <;> rfl), by repeat (first | (with_reducible first | exact HB.out | apply below_alloc | apply pw_below_drewN | apply below_drew1) | exact HB.out)⟩
                                    · rw [if_neg c40] at H
                                      have c40b0 : (t126 == 0) = false := beq_eq_false_iff_ne.mpr c40
                                      have c40b1 : (t126 != 0) = true := bne_iff_ne.mpr c40
                                      simp only [Option.some.injEq, Prod.mk.injEq] at H
                                      obtain ⟨rfl, rfl⟩ := H
                                      have p27 : 0 ≤ (x7_6 : Int) := of_decide_eq_true (by first | (with_reducible assumption) | assumption)
                                      have q27 : x7_6 < (x5_6.size : Int) := of_decide_eq_true (by first | (with_reducible assumption) | assumption)
                                      have hx27 := bt_at x5_6 x7_6
                                      replace p27 := eq_true p27
                                      replace q27 := eq_true q27
                                      have p29 : 0 ≤ (x7_6 : Int) := of_decide_eq_true (by first | (with_reducible assumption) | assumption)
                                      have q29 : x7_6 < (x5_6.size : Int) := of_decide_eq_true (by first | (with_reducible assumption) | assumption)
                                      have hx29 := bt_at x5_6 x7_6
                                      replace p29 := eq_true p29
                                      replace q29 := eq_true q29
                                      go_wp2_with (first | ((with_reducible refine gate_callee (f := 13) rfl ?_); refine goesL_ (some 111) rfl rfl Tryd.func13 (by kernel_rfl) rfl #[.int .i64 (wrap64 (x4_6 * (wrap64 ((wrap64 (64 * x6_9)) + (wrap64 (Int.tdiv (wrap64 (x8_6 * 64)) 1000000))))))] rfl (by (try simp only [List.map_toArray, List.map_cons, List.map_nil]); first | done | rfl | (simp only [List.length_drop, List.length_take]; rfl)) ?_; (with_reducible refine (gutterref01_Print.calls k6 (wrap64 (x4_6 * (wrap64 ((wrap64 (64 * x6_9)) + (wrap64 (Int.tdiv (wrap64 (x8_6 * 64)) 1000000)))))) t125 t126 _ A39.out).mono ?_); rintro e w44 ⟨rfl, hb⟩; refine ⟨_, rfl, ?_⟩; have n0_ := Aside0.mk (below_step (by repeat (first | (with_reducible first | exact HB.out | apply below_alloc | apply pw_below_drewN | apply below_drew1) | exact HB.out)) hb); clear HB; have HB := n0_; clear n0_; (try clear hb); (try clear hb2); (try clear hk); (try clear hi)))
                                      go_ret2
                                      exact ⟨by first | rfl | (simp [errW_none, errW_some] <;> rfl) | (simp [*, errW_none, errW_some] <;> rfl), by repeat (first | (with_reducible first | exact HB.out | apply below_alloc | apply pw_below_drewN | apply below_drew1) | exact HB.out)⟩
                                · rw [if_neg c28] at H
                                  have c28b0 : decide (48 ≤ (bt x5_6 x7_6)) = false := decide_eq_false c28
                                  clear c28
                                  replace H := Option.bind_eq_some_iff.mp H
                                  obtain ⟨⟨t127, t128⟩, A450, H⟩ := H
                                  replace H : (if t128 = 0 then (if t127.toList = a0.toList then (some (wrap64 (x4_6 * (wrap64 ((wrap64 (64 * x6_9)) + (wrap64 (Int.tdiv (wrap64 (x8_6 * 64)) 1000000))))), 0)) else (some (0, 12))) else (some (0, 12))) = some (r1, r2) := H
                                  have A45 := Aside0.mk A450
                                  clear A450
                                  by_cases c46 : t128 = 0
                                  · rw [if_pos c46] at H
                                    have c46b0 : (t128 == 0) = true := beq_iff_eq.mpr c46
                                    have c46b1 : (t128 != 0) = false := bne_eq_false_iff_eq.mpr c46
                                    clear c46
                                    by_cases c47 : t127.toList = a0.toList
                                    · rw [if_pos c47] at H
                                      have c47b0 : (t127.toList == a0.toList) = true := beq_iff_eq.mpr c47
                                      have c47b1 : (t127.toList != a0.toList) = false := bne_eq_false_iff_eq.mpr c47
                                      clear c47
                                      simp only [Option.some.injEq, Prod.mk.injEq] at H
                                      obtain ⟨rfl, rfl⟩ := H
                                      have p27 : 0 ≤ (x7_6 : Int) := of_decide_eq_true (by first | (with_reducible assumption) | assumption)
                                      have q27 : x7_6 < (x5_6.size : Int) := of_decide_eq_true (by first | (with_reducible assumption) | assumption)
                                      have hx27 := bt_at x5_6 x7_6
                                      replace p27 := eq_true p27
                                      replace q27 := eq_true q27
                                      go_wp2_with (first | ((with_reducible refine gate_callee (f := 13) rfl ?_); refine goesL_ (some 111) rfl rfl Tryd.func13 (by kernel_rfl) rfl #[.int .i64 (wrap64 (x4_6 * (wrap64 ((wrap64 (64 * x6_9)) + (wrap64 (Int.tdiv (wrap64 (x8_6 * 64)) 1000000))))))] rfl (by (try simp only [List.map_toArray, List.map_cons, List.map_nil]); first | done | rfl | (simp only [List.length_drop, List.length_take]; rfl)) ?_; (with_reducible refine (gutterref01_Print.calls k6 (wrap64 (x4_6 * (wrap64 ((wrap64 (64 * x6_9)) + (wrap64 (Int.tdiv (wrap64 (x8_6 * 64)) 1000000)))))) t127 t128 _ A45.out).mono ?_); rintro e w48 ⟨rfl, hb⟩; refine ⟨_, rfl, ?_⟩; have n0_ := Aside0.mk (below_step (by repeat (first | (with_reducible first | exact HB.out | apply below_alloc | apply pw_below_drewN | apply below_drew1) | exact HB.out)) hb); clear HB; have HB := n0_; clear n0_; (try clear hb); (try clear hb2); (try clear hk); (try clear hi)))
                                      go_ret2
                                      exact ⟨by first | rfl | (simp [errW_none, errW_some] <;> rfl) | (simp [*, errW_none, errW_some] <;> rfl), by repeat (first | (with_reducible first | exact HB.out | apply below_alloc | apply pw_below_drewN | apply below_drew1) | exact HB.out)⟩
                                    · rw [if_neg c47] at H
                                      have c47b0 : (t127.toList == a0.toList) = false := beq_eq_false_iff_ne.mpr c47
                                      have c47b1 : (t127.toList != a0.toList) = true := bne_iff_ne.mpr c47
                                      simp only [Option.some.injEq, Prod.mk.injEq] at H
                                      obtain ⟨rfl, rfl⟩ := H
                                      have p27 : 0 ≤ (x7_6 : Int) := of_decide_eq_true (by first | (with_reducible assumption) | assumption)
                                      have q27 : x7_6 < (x5_6.size : Int) := of_decide_eq_true (by first | (with_reducible assumption) | assumption)
                                      have hx27 := bt_at x5_6 x7_6
                                      replace p27 := eq_true p27
                                      replace q27 := eq_true q27
                                      go_wp2_with (first | ((with_reducible refine gate_callee (f := 13) rfl ?_); refine goesL_ (some 111) rfl rfl Tryd.func13 (by kernel_rfl) rfl #[.int .i64 (wrap64 (x4_6 * (wrap64 ((wrap64 (64 * x6_9)) + (wrap64 (Int.tdiv (wrap64 (x8_6 * 64)) 1000000))))))] rfl (by (try simp only [List.map_toArray, List.map_cons, List.map_nil]); first | done | rfl | (simp only [List.length_drop, List.length_take]; rfl)) ?_; (with_reducible refine (gutterref01_Print.calls k6 (wrap64 (x4_6 * (wrap64 ((wrap64 (64 * x6_9)) + (wrap64 (Int.tdiv (wrap64 (x8_6 * 64)) 1000000)))))) t127 t128 _ A45.out).mono ?_); rintro e w49 ⟨rfl, hb⟩; refine ⟨_, rfl, ?_⟩; have n0_ := Aside0.mk (below_step (by repeat (first | (with_reducible first | exact HB.out | apply below_alloc | apply pw_below_drewN | apply below_drew1) | exact HB.out)) hb); clear HB; have HB := n0_; clear n0_; (try clear hb); (try clear hb2); (try clear hk); (try clear hi)))
                                      go_ret2
                                      exact ⟨by first | rfl | (simp [errW_none, errW_some] <;> rfl) | (simp [*, errW_none, errW_some] <;> rfl), by repeat (first | (with_reducible first | exact HB.out | apply below_alloc | apply pw_below_drewN | apply below_drew1) | exact HB.out)⟩
                                  · rw [if_neg c46] at H
                                    have c46b0 : (t128 == 0) = false := beq_eq_false_iff_ne.mpr c46
                                    have c46b1 : (t128 != 0) = true := bne_iff_ne.mpr c46
                                    simp only [Option.some.injEq, Prod.mk.injEq] at H
                                    obtain ⟨rfl, rfl⟩ := H
                                    have p27 : 0 ≤ (x7_6 : Int) := of_decide_eq_true (by first | (with_reducible assumption) | assumption)
                                    have q27 : x7_6 < (x5_6.size : Int) := of_decide_eq_true (by first | (with_reducible assumption) | assumption)
                                    have hx27 := bt_at x5_6 x7_6
                                    replace p27 := eq_true p27
                                    replace q27 := eq_true q27
                                    go_wp2_with (first | ((with_reducible refine gate_callee (f := 13) rfl ?_); refine goesL_ (some 111) rfl rfl Tryd.func13 (by kernel_rfl) rfl #[.int .i64 (wrap64 (x4_6 * (wrap64 ((wrap64 (64 * x6_9)) + (wrap64 (Int.tdiv (wrap64 (x8_6 * 64)) 1000000))))))] rfl (by (try simp only [List.map_toArray, List.map_cons, List.map_nil]); first | done | rfl | (simp only [List.length_drop, List.length_take]; rfl)) ?_; (with_reducible refine (gutterref01_Print.calls k6 (wrap64 (x4_6 * (wrap64 ((wrap64 (64 * x6_9)) + (wrap64 (Int.tdiv (wrap64 (x8_6 * 64)) 1000000)))))) t127 t128 _ A45.out).mono ?_); rintro e w50 ⟨rfl, hb⟩; refine ⟨_, rfl, ?_⟩; have n0_ := Aside0.mk (below_step (by repeat (first | (with_reducible first | exact HB.out | apply below_alloc | apply pw_below_drewN | apply below_drew1) | exact HB.out)) hb); clear HB; have HB := n0_; clear n0_; (try clear hb); (try clear hb2); (try clear hk); (try clear hi)))
                                    go_ret2
                                    exact ⟨by first | rfl | (simp [errW_none, errW_some] <;> rfl) | (simp [*, errW_none, errW_some] <;> rfl), by repeat (first | (with_reducible first | exact HB.out | apply below_alloc | apply pw_below_drewN | apply below_drew1) | exact HB.out)⟩
                              · rw [if_neg c26] at H
                                exact absurd H (by simp)
                            · rw [if_neg c25] at H
                              have c25b0 : decide (x7_6 < (x5_6.size : Int)) = false := decide_eq_false c25
                              clear c25
                              replace H := Option.bind_eq_some_iff.mp H
                              obtain ⟨⟨t129, t130⟩, A510, H⟩ := H
                              replace H : (if t130 = 0 then (if t129.toList = a0.toList then (some (wrap64 (x4_6 * (wrap64 ((wrap64 (64 * x6_9)) + (wrap64 (Int.tdiv (wrap64 (x8_6 * 64)) 1000000))))), 0)) else (some (0, 12))) else (some (0, 12))) = some (r1, r2) := H
                              have A51 := Aside0.mk A510
                              clear A510
                              by_cases c52 : t130 = 0
                              · rw [if_pos c52] at H
                                have c52b0 : (t130 == 0) = true := beq_iff_eq.mpr c52
                                have c52b1 : (t130 != 0) = false := bne_eq_false_iff_eq.mpr c52
                                clear c52
                                by_cases c53 : t129.toList = a0.toList
                                · rw [if_pos c53] at H
                                  have c53b0 : (t129.toList == a0.toList) = true := beq_iff_eq.mpr c53
                                  have c53b1 : (t129.toList != a0.toList) = false := bne_eq_false_iff_eq.mpr c53
                                  clear c53
                                  simp only [Option.some.injEq, Prod.mk.injEq] at H
                                  obtain ⟨rfl, rfl⟩ := H
                                  go_wp2_with (first | ((with_reducible refine gate_callee (f := 13) rfl ?_); refine goesL_ (some 111) rfl rfl Tryd.func13 (by kernel_rfl) rfl #[.int .i64 (wrap64 (x4_6 * (wrap64 ((wrap64 (64 * x6_9)) + (wrap64 (Int.tdiv (wrap64 (x8_6 * 64)) 1000000))))))] rfl (by (try simp only [List.map_toArray, List.map_cons, List.map_nil]); first | done | rfl | (simp only [List.length_drop, List.length_take]; rfl)) ?_; (with_reducible refine (gutterref01_Print.calls k6 (wrap64 (x4_6 * (wrap64 ((wrap64 (64 * x6_9)) + (wrap64 (Int.tdiv (wrap64 (x8_6 * 64)) 1000000)))))) t129 t130 _ A51.out).mono ?_); rintro e w54 ⟨rfl, hb⟩; refine ⟨_, rfl, ?_⟩; have n0_ := Aside0.mk (below_step (by repeat (first | (with_reducible first | exact HB.out | apply below_alloc | apply pw_below_drewN | apply below_drew1) | exact HB.out)) hb); clear HB; have HB := n0_; clear n0_; (try clear hb); (try clear hb2); (try clear hk); (try clear hi)))
                                  go_ret2
                                  exact ⟨by first | rfl | (simp [errW_none, errW_some] <;> rfl) | (simp [*, errW_none, errW_some] <;> rfl), by repeat (first | (with_reducible first | exact HB.out | apply below_alloc | apply pw_below_drewN | apply below_drew1) | exact HB.out)⟩
                                · rw [if_neg c53] at H
                                  have c53b0 : (t129.toList == a0.toList) = false := beq_eq_false_iff_ne.mpr c53
                                  have c53b1 : (t129.toList != a0.toList) = true := bne_iff_ne.mpr c53
                                  simp only [Option.some.injEq, Prod.mk.injEq] at H
                                  obtain ⟨rfl, rfl⟩ := H
                                  go_wp2_with (first | ((with_reducible refine gate_callee (f := 13) rfl ?_); refine goesL_ (some 111) rfl rfl Tryd.func13 (by kernel_rfl) rfl #[.int .i64 (wrap64 (x4_6 * (wrap64 ((wrap64 (64 * x6_9)) + (wrap64 (Int.tdiv (wrap64 (x8_6 * 64)) 1000000))))))] rfl (by (try simp only [List.map_toArray, List.map_cons, List.map_nil]); first | done | rfl | (simp only [List.length_drop, List.length_take]; rfl)) ?_; (with_reducible refine (gutterref01_Print.calls k6 (wrap64 (x4_6 * (wrap64 ((wrap64 (64 * x6_9)) + (wrap64 (Int.tdiv (wrap64 (x8_6 * 64)) 1000000)))))) t129 t130 _ A51.out).mono ?_); rintro e w55 ⟨rfl, hb⟩; refine ⟨_, rfl, ?_⟩; have n0_ := Aside0.mk (below_step (by repeat (first | (with_reducible first | exact HB.out | apply below_alloc | apply pw_below_drewN | apply below_drew1) | exact HB.out)) hb); clear HB; have HB := n0_; clear n0_; (try clear hb); (try clear hb2); (try clear hk); (try clear hi)))
                                  go_ret2
                                  exact ⟨by first | rfl | (simp [errW_none, errW_some] <;> rfl) | (simp [*, errW_none, errW_some] <;> rfl), by repeat (first | (with_reducible first | exact HB.out | apply below_alloc | apply pw_below_drewN | apply below_drew1) | exact HB.out)⟩
                              · rw [if_neg c52] at H
                                have c52b0 : (t130 == 0) = false := beq_eq_false_iff_ne.mpr c52
                                have c52b1 : (t130 != 0) = true := bne_iff_ne.mpr c52
                                simp only [Option.some.injEq, Prod.mk.injEq] at H
                                obtain ⟨rfl, rfl⟩ := H
                                go_wp2_with (first | ((with_reducible refine gate_callee (f := 13) rfl ?_); refine goesL_ (some 111) rfl rfl Tryd.func13 (by kernel_rfl) rfl #[.int .i64 (wrap64 (x4_6 * (wrap64 ((wrap64 (64 * x6_9)) + (wrap64 (Int.tdiv (wrap64 (x8_6 * 64)) 1000000))))))] rfl (by (try simp only [List.map_toArray, List.map_cons, List.map_nil]); first | done | rfl | (simp only [List.length_drop, List.length_take]; rfl)) ?_; (with_reducible refine (gutterref01_Print.calls k6 (wrap64 (x4_6 * (wrap64 ((wrap64 (64 * x6_9)) + (wrap64 (Int.tdiv (wrap64 (x8_6 * 64)) 1000000)))))) t129 t130 _ A51.out).mono ?_); rintro e w56 ⟨rfl, hb⟩; refine ⟨_, rfl, ?_⟩; have n0_ := Aside0.mk (below_step (by repeat (first | (with_reducible first | exact HB.out | apply below_alloc | apply pw_below_drewN | apply below_drew1) | exact HB.out)) hb); clear HB; have HB := n0_; clear n0_; (try clear hb); (try clear hb2); (try clear hk); (try clear hi)))
                                go_ret2
                                exact ⟨by first | rfl | (simp [errW_none, errW_some] <;> rfl) | (simp [*, errW_none, errW_some] <;> rfl), by repeat (first | (with_reducible first | exact HB.out | apply below_alloc | apply pw_below_drewN | apply below_drew1) | exact HB.out)⟩

end Go.Proofs.YtlpkjjeihbdocaaDoor.G
