/- Functions of the law and of what it calls as plain Lean functions, and that the calls come to their answers: written by fprint.py. -/
import Derived.Test.YtiodlbfdfnideaaDoorF12
import Derived.Test.YtiodlbfdfnideaaDoorG0
import Derived.Test.YtiodlbfdfnideaaDoorG1
import Derived.Test.YtiodlbfdfnideaaDoorG2
namespace Go.Proofs.YtiodlbfdfnideaaDoor.G
open Go.RowKit Go.Proofs.YtiodlbfdfnideaaDoorW.PrintWords Go.Proofs.YtiodlbfdfnideaaDoorW.PrintLast Go.Proofs.YtiodlbfdfnideaaDoorW.PrintMore
attribute [local go_sem] max2_int min2_int max_two min_two max_three min_three max_four min_four   -- for this text's walks alone
set_option linter.unusedVariables false
set_option linter.unusedSimpArgs false

/-! ### gutterlaw10_MarginNothing: function 6 -/
def gutterlaw10_MarginNothing.j0 : Nat → Int → Bool → List Int → List Int → Int → Int → Int → Int → Int → Int → Bool → Option (Bool)
 | 0, _, _, _, _, _, _, _, _, _, _, _ => none
 | k + 1, x1, x5, x7, x9, x11, x12, x13, x14, x15, x16, x93 => if x93 = true then (some false) else (if 0 ≤ x1 then (if x1 ≤ (x9.length : Int) then ((some (x9.take (x1 : Int).toNat : List Int)).bind fun y292 => (if ([] : List Int).length + y292.length < 17592186044416 then ((some (([] : List Int) ++ y292 : List Int)).bind fun y296 => (if 0 ≤ (wrap64 (x1 + 1)) then (if (wrap64 (x1 + 1)) ≤ (x9.length : Int) then ((some (x9.drop ((wrap64 (x1 + 1)) : Int).toNat : List Int)).bind fun y299 => (if y296.length + y299.length < 17592186044416 then (if x5 = true then ((gutterref10_Nums.f k x7 (y296 ++ y299)).bind fun t306 => (if t306 = true then (if x13 = 0 then (if x16 = 0 then (if x11 = x14 then (some (x12 == x15)) else (some false)) else (some false)) else (some false)) else (some false))) else (some false)) else (none))) else (none)) else (none))) else (none))) else (none)) else (none))
def gutterlaw10_MarginNothing.f (k : Nat) (l0 : List (S42)) (a1 : Int) : Option (Bool) := (gutterlaw10_shown.f k).bind fun t253 => ((some (l0.take 40 : List (S42))).bind fun y254 => (if 0 ≤ (mn (mx a1 0) (y254.length : Int)) then (if (mn (mx a1 0) (y254.length : Int)) ≤ (y254.length : Int) then ((some (y254.take ((mn (mx a1 0) (y254.length : Int)) : Int).toNat : List (S42))).bind fun y258 => (if ([] : List (S42)).length + y258.length < 5864062014805 then ((some (([] : List (S42)) ++ y258 : List (S42))).bind fun y262 => ((some (([(⟨0, 0, 0⟩ : S42)] : List (S42)) : List (S42))).bind fun y265 => (if y262.length + y265.length < 5864062014805 then ((some (y262 ++ y265 : List (S42))).bind fun y268 => ((some (y254.drop ((mn (mx a1 0) (y254.length : Int)) : Int).toNat : List (S42))).bind fun y271 => (if y268.length + y271.length < 5864062014805 then ((some (y268 ++ y271 : List (S42))).bind fun y275 => ((margin_Tops.f y254).bind fun bt278 => ((margin_Tops.f y275).bind fun bt282 => ((margin_End.f y254).bind fun bt286 => ((margin_End.f y275).bind fun bt289 => (if bt278.2 = 0 then (if bt282.2 = 0 then (if (bt278.1.length : Int) = (y254.length : Int) then (gutterlaw10_MarginNothing.j0 k (mn (mx a1 0) (y254.length : Int)) t253 bt278.1 bt282.1 bt286.1 bt286.2.1 bt286.2.2 bt289.1 bt289.2.1 bt289.2.2 ((bt282.1.length : Int) != (y275.length : Int))) else (gutterlaw10_MarginNothing.j0 k (mn (mx a1 0) (y254.length : Int)) t253 bt278.1 bt282.1 bt286.1 bt286.2.1 bt286.2.2 bt289.1 bt289.2.1 bt289.2.2 true)) else (gutterlaw10_MarginNothing.j0 k (mn (mx a1 0) (y254.length : Int)) t253 bt278.1 bt282.1 bt286.1 bt286.2.1 bt286.2.2 bt289.1 bt289.2.1 bt289.2.2 true)) else (if t253 = true then (if bt282.2 = bt278.2 then (if bt286.2.2 = bt278.2 then (some (bt289.2.2 == bt278.2)) else (some false)) else (some false)) else (some false)))))))) else (none)))) else (none)))) else (none))) else (none)) else (none)))
theorem gutterlaw10_MarginNothing.mono_l : ∀ k, (∀ y0 y1 y2 y3 y4 y5 y6 y7 y8 y9 y10, LeO (gutterlaw10_MarginNothing.j0 k y0 y1 y2 y3 y4 y5 y6 y7 y8 y9 y10) (gutterlaw10_MarginNothing.j0 (k + 1) y0 y1 y2 y3 y4 y5 y6 y7 y8 y9 y10))
 | 0 => fun _ _ _ _ _ _ _ _ _ _ _ r h => by simp [gutterlaw10_MarginNothing.j0] at h
 | k + 1 => by
  have ih0 := gutterlaw10_MarginNothing.mono_l k
  ·
   intro y0 y1 y2 y3 y4 y5 y6 y7 y8 y9 y10
   unfold gutterlaw10_MarginNothing.j0
   repeat' first
   | (with_reducible exact ih0 _ _ _ _ _ _ _ _ _ _ _)
   | (with_reducible exact gutterlaw10_shown.mono _)
   | (with_reducible exact gutterref10_Nums.mono _ _ _)
   | (with_reducible exact LeO.refl _)
   | (with_reducible exact LeO.none _)
   | (with_reducible refine LeO.ite ?_ ?_)
   | (with_reducible refine LeO.bind ?_ (fun _ => ?_))
   | exact ih0 _ _ _ _ _ _ _ _ _ _ _
   | exact gutterlaw10_shown.mono _
   | exact gutterref10_Nums.mono _ _ _
   | exact LeO.none _
   | refine LeO.ite ?_ ?_
   | refine LeO.bind ?_ (fun _ => ?_)
theorem gutterlaw10_MarginNothing.mono : ∀ a0 a1 k, LeO (gutterlaw10_MarginNothing.f k a0 a1) (gutterlaw10_MarginNothing.f (k + 1) a0 a1) := by
 intro a0 a1 k
 have ih0 := gutterlaw10_MarginNothing.mono_l k
 unfold gutterlaw10_MarginNothing.f
 repeat' first
   | (with_reducible exact ih0 _ _ _ _ _ _ _ _ _ _ _)
   | (with_reducible exact gutterlaw10_shown.mono _)
   | (with_reducible exact gutterref10_Nums.mono _ _ _)
   | (with_reducible exact LeO.refl _)
   | (with_reducible exact LeO.none _)
   | (with_reducible refine LeO.ite ?_ ?_)
   | (with_reducible refine LeO.bind ?_ (fun _ => ?_))
   | exact ih0 _ _ _ _ _ _ _ _ _ _ _
   | exact gutterlaw10_shown.mono _
   | exact gutterref10_Nums.mono _ _ _
   | exact LeO.none _
   | refine LeO.ite ?_ ?_
   | refine LeO.bind ?_ (fun _ => ?_)
def gutterlaw10_MarginNothing.T5 : Bool × List (List Nat × List Nat) := (true, [([], []), ([], []), ([], []), ([1, 2], [1, 2]), ([0, 3], [0, 3]), ([], []), ([5], [5]), ([4, 6, 4], [4, 6]), ([], []), ([], []), ([8, 9], [8, 9]), ([7, 10, 7], [7, 10]), ([11, 11, 0, 1, 2, 3, 4, 5, 6, 7, 8, 9, 10, 11], [0, 11])])
def gutterlaw10_MarginNothing.B5 : List Nat := [0, 0, 0, 6, 15, 0, 32, 127, 0, 0, 768, 2047, 4095]
theorem gutterlaw10_MarginNothing.tab5 : rtab .any (opsOf Tryd.f6 5) = gutterlaw10_MarginNothing.T5 := by kernel_rfl
theorem gutterlaw10_MarginNothing.bits5 : waitsOk gutterlaw10_MarginNothing.T5.2 gutterlaw10_MarginNothing.B5 = true := by kernel_rfl
def gutterlaw10_MarginNothing.T15 : Bool × List (List Nat × List Nat) := (true, [([], []), ([], []), ([], []), ([1, 2], [1, 2]), ([0, 3], [0, 3]), ([], []), ([], []), ([6], [6]), ([5, 7], [5, 7]), ([4, 8, 4], [4, 8]), ([9, 9, 0, 1, 2, 3, 4, 5, 6, 7, 8, 9], [0, 9])])
def gutterlaw10_MarginNothing.B15 : List Nat := [0, 0, 0, 6, 15, 0, 0, 64, 224, 511, 1023]
theorem gutterlaw10_MarginNothing.tab15 : rtab .any (opsOf Tryd.f6 15) = gutterlaw10_MarginNothing.T15 := by kernel_rfl
theorem gutterlaw10_MarginNothing.bits15 : waitsOk gutterlaw10_MarginNothing.T15.2 gutterlaw10_MarginNothing.B15 = true := by kernel_rfl
set_option maxHeartbeats 8000000 in
set_option maxRecDepth 100000 in
theorem gutterlaw10_MarginNothing.calls (k : Nat) (A0 : Option Addr) (c0 : Nat) (l0 : List (S42)) (a1 : Int) (r : Bool) (w : World) (hr0 : Kd.C k42 w A0 l0.length l0) (hc0 : l0.length ≤ c0) (h : gutterlaw10_MarginNothing.f k l0 a1 = some r) (hG : GOK w) :
  Calls Tryd.prog 6 #[.slice A0 l0.length c0, .int .i64 a1] w fun e w' => e = .returned (.bool r) ∧ Below w.heap.size w w' := by
 have HG := m0 hG
 clear hG
 have hu42 := Tryd.underlying42
 have HR0 := m0 hr0
 have HC0 := m0 hc0
 clear hr0 hc0
 have HB := m0 (Below.refl w.heap.size w)
 have H : ((gutterlaw10_shown.f k).bind fun t253 => ((some (l0.take 40 : List (S42))).bind fun y254 => (if 0 ≤ (mn (mx a1 0) (y254.length : Int)) then (if (mn (mx a1 0) (y254.length : Int)) ≤ (y254.length : Int) then ((some (y254.take ((mn (mx a1 0) (y254.length : Int)) : Int).toNat : List (S42))).bind fun y258 => (if ([] : List (S42)).length + y258.length < 5864062014805 then ((some (([] : List (S42)) ++ y258 : List (S42))).bind fun y262 => ((some (([(⟨0, 0, 0⟩ : S42)] : List (S42)) : List (S42))).bind fun y265 => (if y262.length + y265.length < 5864062014805 then ((some (y262 ++ y265 : List (S42))).bind fun y268 => ((some (y254.drop ((mn (mx a1 0) (y254.length : Int)) : Int).toNat : List (S42))).bind fun y271 => (if y268.length + y271.length < 5864062014805 then ((some (y268 ++ y271 : List (S42))).bind fun y275 => ((margin_Tops.f y254).bind fun bt278 => ((margin_Tops.f y275).bind fun bt282 => ((margin_End.f y254).bind fun bt286 => ((margin_End.f y275).bind fun bt289 => (if bt278.2 = 0 then (if bt282.2 = 0 then (if (bt278.1.length : Int) = (y254.length : Int) then (gutterlaw10_MarginNothing.j0 k (mn (mx a1 0) (y254.length : Int)) t253 bt278.1 bt282.1 bt286.1 bt286.2.1 bt286.2.2 bt289.1 bt289.2.1 bt289.2.2 ((bt282.1.length : Int) != (y275.length : Int))) else (gutterlaw10_MarginNothing.j0 k (mn (mx a1 0) (y254.length : Int)) t253 bt278.1 bt282.1 bt286.1 bt286.2.1 bt286.2.2 bt289.1 bt289.2.1 bt289.2.2 true)) else (gutterlaw10_MarginNothing.j0 k (mn (mx a1 0) (y254.length : Int)) t253 bt278.1 bt282.1 bt286.1 bt286.2.1 bt286.2.2 bt289.1 bt289.2.1 bt289.2.2 true)) else (if t253 = true then (if bt282.2 = bt278.2 then (if bt286.2.2 = bt278.2 then (some (bt289.2.2 == bt278.2)) else (some false)) else (some false)) else (some false)))))))) else (none)))) else (none)))) else (none))) else (none)) else (none)))) = some r := h
 clear h
 replace H := Option.bind_eq_some_iff.mp H
 obtain ⟨t253, A30, H⟩ := H
 replace H : ((some (l0.take 40 : List (S42))).bind fun y254 => (if 0 ≤ (mn (mx a1 0) (y254.length : Int)) then (if (mn (mx a1 0) (y254.length : Int)) ≤ (y254.length : Int) then ((some (y254.take ((mn (mx a1 0) (y254.length : Int)) : Int).toNat : List (S42))).bind fun y258 => (if ([] : List (S42)).length + y258.length < 5864062014805 then ((some (([] : List (S42)) ++ y258 : List (S42))).bind fun y262 => ((some (([(⟨0, 0, 0⟩ : S42)] : List (S42)) : List (S42))).bind fun y265 => (if y262.length + y265.length < 5864062014805 then ((some (y262 ++ y265 : List (S42))).bind fun y268 => ((some (y254.drop ((mn (mx a1 0) (y254.length : Int)) : Int).toNat : List (S42))).bind fun y271 => (if y268.length + y271.length < 5864062014805 then ((some (y268 ++ y271 : List (S42))).bind fun y275 => ((margin_Tops.f y254).bind fun bt278 => ((margin_Tops.f y275).bind fun bt282 => ((margin_End.f y254).bind fun bt286 => ((margin_End.f y275).bind fun bt289 => (if bt278.2 = 0 then (if bt282.2 = 0 then (if (bt278.1.length : Int) = (y254.length : Int) then (gutterlaw10_MarginNothing.j0 k (mn (mx a1 0) (y254.length : Int)) t253 bt278.1 bt282.1 bt286.1 bt286.2.1 bt286.2.2 bt289.1 bt289.2.1 bt289.2.2 ((bt282.1.length : Int) != (y275.length : Int))) else (gutterlaw10_MarginNothing.j0 k (mn (mx a1 0) (y254.length : Int)) t253 bt278.1 bt282.1 bt286.1 bt286.2.1 bt286.2.2 bt289.1 bt289.2.1 bt289.2.2 true)) else (gutterlaw10_MarginNothing.j0 k (mn (mx a1 0) (y254.length : Int)) t253 bt278.1 bt282.1 bt286.1 bt286.2.1 bt286.2.2 bt289.1 bt289.2.1 bt289.2.2 true)) else (if t253 = true then (if bt282.2 = bt278.2 then (if bt286.2.2 = bt278.2 then (some (bt289.2.2 == bt278.2)) else (some false)) else (some false)) else (some false)))))))) else (none)))) else (none)))) else (none))) else (none)) else (none))) = some r := H
 have A3 := m0 A30
 clear A30
 obtain ⟨y254, hy254⟩ : ∃ y_ : List (S42), y_ = (l0.take 40) := ⟨_, rfl⟩
 replace H : (if 0 ≤ (mn (mx a1 0) (y254.length : Int)) then (if (mn (mx a1 0) (y254.length : Int)) ≤ (y254.length : Int) then ((some (y254.take ((mn (mx a1 0) (y254.length : Int)) : Int).toNat : List (S42))).bind fun y258 => (if ([] : List (S42)).length + y258.length < 5864062014805 then ((some (([] : List (S42)) ++ y258 : List (S42))).bind fun y262 => ((some (([(⟨0, 0, 0⟩ : S42)] : List (S42)) : List (S42))).bind fun y265 => (if y262.length + y265.length < 5864062014805 then ((some (y262 ++ y265 : List (S42))).bind fun y268 => ((some (y254.drop ((mn (mx a1 0) (y254.length : Int)) : Int).toNat : List (S42))).bind fun y271 => (if y268.length + y271.length < 5864062014805 then ((some (y268 ++ y271 : List (S42))).bind fun y275 => ((margin_Tops.f y254).bind fun bt278 => ((margin_Tops.f y275).bind fun bt282 => ((margin_End.f y254).bind fun bt286 => ((margin_End.f y275).bind fun bt289 => (if bt278.2 = 0 then (if bt282.2 = 0 then (if (bt278.1.length : Int) = (y254.length : Int) then (gutterlaw10_MarginNothing.j0 k (mn (mx a1 0) (y254.length : Int)) t253 bt278.1 bt282.1 bt286.1 bt286.2.1 bt286.2.2 bt289.1 bt289.2.1 bt289.2.2 ((bt282.1.length : Int) != (y275.length : Int))) else (gutterlaw10_MarginNothing.j0 k (mn (mx a1 0) (y254.length : Int)) t253 bt278.1 bt282.1 bt286.1 bt286.2.1 bt286.2.2 bt289.1 bt289.2.1 bt289.2.2 true)) else (gutterlaw10_MarginNothing.j0 k (mn (mx a1 0) (y254.length : Int)) t253 bt278.1 bt282.1 bt286.1 bt286.2.1 bt286.2.2 bt289.1 bt289.2.1 bt289.2.2 true)) else (if t253 = true then (if bt282.2 = bt278.2 then (if bt286.2.2 = bt278.2 then (some (bt289.2.2 == bt278.2)) else (some false)) else (some false)) else (some false)))))))) else (none)))) else (none)))) else (none))) else (none)) else (none)) = some r := by first | (rw [hy254]; with_reducible exact H) | (have H2_ := (Option.bind_some _ _).symm.trans H; rw [hy254]; with_reducible exact H2_) | (have H2_ := (Option.bind_some _ _).symm.trans H; with_reducible exact H2_) | with_reducible exact H | (rw [hy254]; exact H) | exact H
 have Ny254 := m0 hy254
 clear hy254
 obtain ⟨ji4, hji4⟩ : ∃ j_ : Int, (mx a1 0) = j_ := ⟨_, rfl⟩
 replace H : (if 0 ≤ (mn (ji4) (y254.length : Int)) then (if (mn (ji4) (y254.length : Int)) ≤ (y254.length : Int) then ((some (y254.take ((mn (ji4) (y254.length : Int)) : Int).toNat : List (S42))).bind fun y258 => (if ([] : List (S42)).length + y258.length < 5864062014805 then ((some (([] : List (S42)) ++ y258 : List (S42))).bind fun y262 => ((some (([(⟨0, 0, 0⟩ : S42)] : List (S42)) : List (S42))).bind fun y265 => (if y262.length + y265.length < 5864062014805 then ((some (y262 ++ y265 : List (S42))).bind fun y268 => ((some (y254.drop ((mn (ji4) (y254.length : Int)) : Int).toNat : List (S42))).bind fun y271 => (if y268.length + y271.length < 5864062014805 then ((some (y268 ++ y271 : List (S42))).bind fun y275 => ((margin_Tops.f y254).bind fun bt278 => ((margin_Tops.f y275).bind fun bt282 => ((margin_End.f y254).bind fun bt286 => ((margin_End.f y275).bind fun bt289 => (if bt278.2 = 0 then (if bt282.2 = 0 then (if (bt278.1.length : Int) = (y254.length : Int) then (gutterlaw10_MarginNothing.j0 k (mn (ji4) (y254.length : Int)) t253 bt278.1 bt282.1 bt286.1 bt286.2.1 bt286.2.2 bt289.1 bt289.2.1 bt289.2.2 ((bt282.1.length : Int) != (y275.length : Int))) else (gutterlaw10_MarginNothing.j0 k (mn (ji4) (y254.length : Int)) t253 bt278.1 bt282.1 bt286.1 bt286.2.1 bt286.2.2 bt289.1 bt289.2.1 bt289.2.2 true)) else (gutterlaw10_MarginNothing.j0 k (mn (ji4) (y254.length : Int)) t253 bt278.1 bt282.1 bt286.1 bt286.2.1 bt286.2.2 bt289.1 bt289.2.1 bt289.2.2 true)) else (if t253 = true then (if bt282.2 = bt278.2 then (if bt286.2.2 = bt278.2 then (some (bt289.2.2 == bt278.2)) else (some false)) else (some false)) else (some false)))))))) else (none)))) else (none)))) else (none))) else (none)) else (none)) = some r := by first | (rw [hji4] at H; exact H) | (simp only [hji4] at H ⊢; exact H)
 (try rw [hji4] at A3)
 (try (have hji4l : 0 ≤ ji4 := by (rw [← hji4]; unfold mx; (repeat' split) <;> omega)))
 (try (have hji4m : 0 ≤ ji4 := by omega))
 have hji4_ : (if a1 < 0 then 0 else a1) = ji4 := hji4
 obtain ⟨ji5, hji5⟩ : ∃ j_ : Int, (mn (ji4) (y254.length : Int)) = j_ := ⟨_, rfl⟩
 replace H : (if 0 ≤ (ji5) then (if (ji5) ≤ (y254.length : Int) then ((some (y254.take ((ji5) : Int).toNat : List (S42))).bind fun y258 => (if ([] : List (S42)).length + y258.length < 5864062014805 then ((some (([] : List (S42)) ++ y258 : List (S42))).bind fun y262 => ((some (([(⟨0, 0, 0⟩ : S42)] : List (S42)) : List (S42))).bind fun y265 => (if y262.length + y265.length < 5864062014805 then ((some (y262 ++ y265 : List (S42))).bind fun y268 => ((some (y254.drop ((ji5) : Int).toNat : List (S42))).bind fun y271 => (if y268.length + y271.length < 5864062014805 then ((some (y268 ++ y271 : List (S42))).bind fun y275 => ((margin_Tops.f y254).bind fun bt278 => ((margin_Tops.f y275).bind fun bt282 => ((margin_End.f y254).bind fun bt286 => ((margin_End.f y275).bind fun bt289 => (if bt278.2 = 0 then (if bt282.2 = 0 then (if (bt278.1.length : Int) = (y254.length : Int) then (gutterlaw10_MarginNothing.j0 k ji5 t253 bt278.1 bt282.1 bt286.1 bt286.2.1 bt286.2.2 bt289.1 bt289.2.1 bt289.2.2 ((bt282.1.length : Int) != (y275.length : Int))) else (gutterlaw10_MarginNothing.j0 k ji5 t253 bt278.1 bt282.1 bt286.1 bt286.2.1 bt286.2.2 bt289.1 bt289.2.1 bt289.2.2 true)) else (gutterlaw10_MarginNothing.j0 k ji5 t253 bt278.1 bt282.1 bt286.1 bt286.2.1 bt286.2.2 bt289.1 bt289.2.1 bt289.2.2 true)) else (if t253 = true then (if bt282.2 = bt278.2 then (if bt286.2.2 = bt278.2 then (some (bt289.2.2 == bt278.2)) else (some false)) else (some false)) else (some false)))))))) else (none)))) else (none)))) else (none))) else (none)) else (none)) = some r := by first | (rw [hji5] at H; exact H) | (simp only [hji5] at H ⊢; exact H)
 (try rw [hji5] at A3)
 have hji5_ : (if (y254.length : Int) < (ji4) then (y254.length : Int) else (ji4)) = ji5 := hji5
 by_cases c6 : 0 ≤ (ji5)
 ·
  rw [if_pos c6] at H
  have c6b0 := eq_true c6
  have c6b1 : decide (0 ≤ (ji5)) = true := decide_eq_true c6
  clear c6
  by_cases c7 : (ji5) ≤ (y254.length : Int)
  ·
   rw [if_pos c7] at H
   have c7b0 := eq_true c7
   have c7b1 : decide ((ji5) ≤ (y254.length : Int)) = true := decide_eq_true c7
   clear c7
   obtain ⟨y258, hy258⟩ : ∃ y_ : List (S42), y_ = (y254.take ((ji5) : Int).toNat) := ⟨_, rfl⟩
   replace H : (if ([] : List (S42)).length + y258.length < 5864062014805 then ((some (([] : List (S42)) ++ y258 : List (S42))).bind fun y262 => ((some (([(⟨0, 0, 0⟩ : S42)] : List (S42)) : List (S42))).bind fun y265 => (if y262.length + y265.length < 5864062014805 then ((some (y262 ++ y265 : List (S42))).bind fun y268 => ((some (y254.drop ((ji5) : Int).toNat : List (S42))).bind fun y271 => (if y268.length + y271.length < 5864062014805 then ((some (y268 ++ y271 : List (S42))).bind fun y275 => ((margin_Tops.f y254).bind fun bt278 => ((margin_Tops.f y275).bind fun bt282 => ((margin_End.f y254).bind fun bt286 => ((margin_End.f y275).bind fun bt289 => (if bt278.2 = 0 then (if bt282.2 = 0 then (if (bt278.1.length : Int) = (y254.length : Int) then (gutterlaw10_MarginNothing.j0 k ji5 t253 bt278.1 bt282.1 bt286.1 bt286.2.1 bt286.2.2 bt289.1 bt289.2.1 bt289.2.2 ((bt282.1.length : Int) != (y275.length : Int))) else (gutterlaw10_MarginNothing.j0 k ji5 t253 bt278.1 bt282.1 bt286.1 bt286.2.1 bt286.2.2 bt289.1 bt289.2.1 bt289.2.2 true)) else (gutterlaw10_MarginNothing.j0 k ji5 t253 bt278.1 bt282.1 bt286.1 bt286.2.1 bt286.2.2 bt289.1 bt289.2.1 bt289.2.2 true)) else (if t253 = true then (if bt282.2 = bt278.2 then (if bt286.2.2 = bt278.2 then (some (bt289.2.2 == bt278.2)) else (some false)) else (some false)) else (some false)))))))) else (none)))) else (none)))) else (none)) = some r := by first | (rw [hy258]; with_reducible exact H) | (have H2_ := (Option.bind_some _ _).symm.trans H; rw [hy258]; with_reducible exact H2_) | (have H2_ := (Option.bind_some _ _).symm.trans H; with_reducible exact H2_) | with_reducible exact H | (rw [hy258]; exact H) | exact H
   have Ny258 := m0 hy258
   clear hy258
   by_cases c8 : ([] : List (S42)).length + y258.length < 5864062014805
   ·
    rw [if_pos c8] at H
    have LMc8 := m0 c8
    clear c8
    obtain ⟨y262, hy262⟩ : ∃ y_ : List (S42), y_ = (([] : List (S42)) ++ y258) := ⟨_, rfl⟩
    replace H : ((some (([(⟨0, 0, 0⟩ : S42)] : List (S42)) : List (S42))).bind fun y265 => (if y262.length + y265.length < 5864062014805 then ((some (y262 ++ y265 : List (S42))).bind fun y268 => ((some (y254.drop ((ji5) : Int).toNat : List (S42))).bind fun y271 => (if y268.length + y271.length < 5864062014805 then ((some (y268 ++ y271 : List (S42))).bind fun y275 => ((margin_Tops.f y254).bind fun bt278 => ((margin_Tops.f y275).bind fun bt282 => ((margin_End.f y254).bind fun bt286 => ((margin_End.f y275).bind fun bt289 => (if bt278.2 = 0 then (if bt282.2 = 0 then (if (bt278.1.length : Int) = (y254.length : Int) then (gutterlaw10_MarginNothing.j0 k ji5 t253 bt278.1 bt282.1 bt286.1 bt286.2.1 bt286.2.2 bt289.1 bt289.2.1 bt289.2.2 ((bt282.1.length : Int) != (y275.length : Int))) else (gutterlaw10_MarginNothing.j0 k ji5 t253 bt278.1 bt282.1 bt286.1 bt286.2.1 bt286.2.2 bt289.1 bt289.2.1 bt289.2.2 true)) else (gutterlaw10_MarginNothing.j0 k ji5 t253 bt278.1 bt282.1 bt286.1 bt286.2.1 bt286.2.2 bt289.1 bt289.2.1 bt289.2.2 true)) else (if t253 = true then (if bt282.2 = bt278.2 then (if bt286.2.2 = bt278.2 then (some (bt289.2.2 == bt278.2)) else (some false)) else (some false)) else (some false)))))))) else (none)))) else (none))) = some r := by first | (rw [hy262]; with_reducible exact H) | (have H2_ := (Option.bind_some _ _).symm.trans H; rw [hy262]; with_reducible exact H2_) | (have H2_ := (Option.bind_some _ _).symm.trans H; with_reducible exact H2_) | with_reducible exact H | (rw [hy262]; exact H) | exact H
    have Ny262 := m0 hy262
    clear hy262
    obtain ⟨y265, hy265⟩ : ∃ y_ : List (S42), y_ = (([(⟨0, 0, 0⟩ : S42)] : List (S42))) := ⟨_, rfl⟩
    replace H : (if y262.length + y265.length < 5864062014805 then ((some (y262 ++ y265 : List (S42))).bind fun y268 => ((some (y254.drop ((ji5) : Int).toNat : List (S42))).bind fun y271 => (if y268.length + y271.length < 5864062014805 then ((some (y268 ++ y271 : List (S42))).bind fun y275 => ((margin_Tops.f y254).bind fun bt278 => ((margin_Tops.f y275).bind fun bt282 => ((margin_End.f y254).bind fun bt286 => ((margin_End.f y275).bind fun bt289 => (if bt278.2 = 0 then (if bt282.2 = 0 then (if (bt278.1.length : Int) = (y254.length : Int) then (gutterlaw10_MarginNothing.j0 k ji5 t253 bt278.1 bt282.1 bt286.1 bt286.2.1 bt286.2.2 bt289.1 bt289.2.1 bt289.2.2 ((bt282.1.length : Int) != (y275.length : Int))) else (gutterlaw10_MarginNothing.j0 k ji5 t253 bt278.1 bt282.1 bt286.1 bt286.2.1 bt286.2.2 bt289.1 bt289.2.1 bt289.2.2 true)) else (gutterlaw10_MarginNothing.j0 k ji5 t253 bt278.1 bt282.1 bt286.1 bt286.2.1 bt286.2.2 bt289.1 bt289.2.1 bt289.2.2 true)) else (if t253 = true then (if bt282.2 = bt278.2 then (if bt286.2.2 = bt278.2 then (some (bt289.2.2 == bt278.2)) else (some false)) else (some false)) else (some false)))))))) else (none)))) else (none)) = some r := by first | (rw [hy265]; with_reducible exact H) | (have H2_ := (Option.bind_some _ _).symm.trans H; rw [hy265]; with_reducible exact H2_) | (have H2_ := (Option.bind_some _ _).symm.trans H; with_reducible exact H2_) | with_reducible exact H | (rw [hy265]; exact H) | exact H
    have Ny265 := m0 hy265
    clear hy265
    by_cases c9 : y262.length + y265.length < 5864062014805
    ·
     rw [if_pos c9] at H
     have LMc9 := m0 c9
     clear c9
     obtain ⟨y268, hy268⟩ : ∃ y_ : List (S42), y_ = (y262 ++ y265) := ⟨_, rfl⟩
     replace H : ((some (y254.drop ((ji5) : Int).toNat : List (S42))).bind fun y271 => (if y268.length + y271.length < 5864062014805 then ((some (y268 ++ y271 : List (S42))).bind fun y275 => ((margin_Tops.f y254).bind fun bt278 => ((margin_Tops.f y275).bind fun bt282 => ((margin_End.f y254).bind fun bt286 => ((margin_End.f y275).bind fun bt289 => (if bt278.2 = 0 then (if bt282.2 = 0 then (if (bt278.1.length : Int) = (y254.length : Int) then (gutterlaw10_MarginNothing.j0 k ji5 t253 bt278.1 bt282.1 bt286.1 bt286.2.1 bt286.2.2 bt289.1 bt289.2.1 bt289.2.2 ((bt282.1.length : Int) != (y275.length : Int))) else (gutterlaw10_MarginNothing.j0 k ji5 t253 bt278.1 bt282.1 bt286.1 bt286.2.1 bt286.2.2 bt289.1 bt289.2.1 bt289.2.2 true)) else (gutterlaw10_MarginNothing.j0 k ji5 t253 bt278.1 bt282.1 bt286.1 bt286.2.1 bt286.2.2 bt289.1 bt289.2.1 bt289.2.2 true)) else (if t253 = true then (if bt282.2 = bt278.2 then (if bt286.2.2 = bt278.2 then (some (bt289.2.2 == bt278.2)) else (some false)) else (some false)) else (some false)))))))) else (none))) = some r := by first | (rw [hy268]; with_reducible exact H) | (have H2_ := (Option.bind_some _ _).symm.trans H; rw [hy268]; with_reducible exact H2_) | (have H2_ := (Option.bind_some _ _).symm.trans H; with_reducible exact H2_) | with_reducible exact H | (rw [hy268]; exact H) | exact H
     have Ny268 := m0 hy268
     clear hy268
     have c10b0 := eq_true (oT (by first | (with_reducible assumption) | assumption) : 0 ≤ (ji5))
     have c11b0 := eq_true (oT (by first | (with_reducible assumption) | assumption) : (ji5) ≤ (y254.length : Int))
     obtain ⟨y271, hy271⟩ : ∃ y_ : List (S42), y_ = (y254.drop ((ji5) : Int).toNat) := ⟨_, rfl⟩
     replace H : (if y268.length + y271.length < 5864062014805 then ((some (y268 ++ y271 : List (S42))).bind fun y275 => ((margin_Tops.f y254).bind fun bt278 => ((margin_Tops.f y275).bind fun bt282 => ((margin_End.f y254).bind fun bt286 => ((margin_End.f y275).bind fun bt289 => (if bt278.2 = 0 then (if bt282.2 = 0 then (if (bt278.1.length : Int) = (y254.length : Int) then (gutterlaw10_MarginNothing.j0 k ji5 t253 bt278.1 bt282.1 bt286.1 bt286.2.1 bt286.2.2 bt289.1 bt289.2.1 bt289.2.2 ((bt282.1.length : Int) != (y275.length : Int))) else (gutterlaw10_MarginNothing.j0 k ji5 t253 bt278.1 bt282.1 bt286.1 bt286.2.1 bt286.2.2 bt289.1 bt289.2.1 bt289.2.2 true)) else (gutterlaw10_MarginNothing.j0 k ji5 t253 bt278.1 bt282.1 bt286.1 bt286.2.1 bt286.2.2 bt289.1 bt289.2.1 bt289.2.2 true)) else (if t253 = true then (if bt282.2 = bt278.2 then (if bt286.2.2 = bt278.2 then (some (bt289.2.2 == bt278.2)) else (some false)) else (some false)) else (some false)))))))) else (none)) = some r := by first | (rw [hy271]; with_reducible exact H) | (have H2_ := (Option.bind_some _ _).symm.trans H; rw [hy271]; with_reducible exact H2_) | (have H2_ := (Option.bind_some _ _).symm.trans H; with_reducible exact H2_) | with_reducible exact H | (rw [hy271]; exact H) | exact H
     have Ny271 := m0 hy271
     clear hy271
     by_cases c12 : y268.length + y271.length < 5864062014805
     ·
      rw [if_pos c12] at H
      have LMc12 := m0 c12
      clear c12
      obtain ⟨y275, hy275⟩ : ∃ y_ : List (S42), y_ = (y268 ++ y271) := ⟨_, rfl⟩
      replace H : ((margin_Tops.f y254).bind fun bt278 => ((margin_Tops.f y275).bind fun bt282 => ((margin_End.f y254).bind fun bt286 => ((margin_End.f y275).bind fun bt289 => (if bt278.2 = 0 then (if bt282.2 = 0 then (if (bt278.1.length : Int) = (y254.length : Int) then (gutterlaw10_MarginNothing.j0 k ji5 t253 bt278.1 bt282.1 bt286.1 bt286.2.1 bt286.2.2 bt289.1 bt289.2.1 bt289.2.2 ((bt282.1.length : Int) != (y275.length : Int))) else (gutterlaw10_MarginNothing.j0 k ji5 t253 bt278.1 bt282.1 bt286.1 bt286.2.1 bt286.2.2 bt289.1 bt289.2.1 bt289.2.2 true)) else (gutterlaw10_MarginNothing.j0 k ji5 t253 bt278.1 bt282.1 bt286.1 bt286.2.1 bt286.2.2 bt289.1 bt289.2.1 bt289.2.2 true)) else (if t253 = true then (if bt282.2 = bt278.2 then (if bt286.2.2 = bt278.2 then (some (bt289.2.2 == bt278.2)) else (some false)) else (some false)) else (some false))))))) = some r := by first | (rw [hy275]; with_reducible exact H) | (have H2_ := (Option.bind_some _ _).symm.trans H; rw [hy275]; with_reducible exact H2_) | (have H2_ := (Option.bind_some _ _).symm.trans H; with_reducible exact H2_) | with_reducible exact H | (rw [hy275]; exact H) | exact H
      have Ny275 := m0 hy275
      clear hy275
      replace H := Option.bind_eq_some_iff.mp H
      obtain ⟨⟨t278, t279⟩, A130, H⟩ := H
      replace H : ((margin_Tops.f y275).bind fun bt282 => ((margin_End.f y254).bind fun bt286 => ((margin_End.f y275).bind fun bt289 => (if t279 = 0 then (if bt282.2 = 0 then (if (t278.length : Int) = (y254.length : Int) then (gutterlaw10_MarginNothing.j0 k ji5 t253 t278 bt282.1 bt286.1 bt286.2.1 bt286.2.2 bt289.1 bt289.2.1 bt289.2.2 ((bt282.1.length : Int) != (y275.length : Int))) else (gutterlaw10_MarginNothing.j0 k ji5 t253 t278 bt282.1 bt286.1 bt286.2.1 bt286.2.2 bt289.1 bt289.2.1 bt289.2.2 true)) else (gutterlaw10_MarginNothing.j0 k ji5 t253 t278 bt282.1 bt286.1 bt286.2.1 bt286.2.2 bt289.1 bt289.2.1 bt289.2.2 true)) else (if t253 = true then (if bt282.2 = t279 then (if bt286.2.2 = t279 then (some (bt289.2.2 == t279)) else (some false)) else (some false)) else (some false)))))) = some r := H
      have A13 := m0 A130
      clear A130
      replace H := Option.bind_eq_some_iff.mp H
      obtain ⟨⟨t282, t283⟩, A140, H⟩ := H
      replace H : ((margin_End.f y254).bind fun bt286 => ((margin_End.f y275).bind fun bt289 => (if t279 = 0 then (if t283 = 0 then (if (t278.length : Int) = (y254.length : Int) then (gutterlaw10_MarginNothing.j0 k ji5 t253 t278 t282 bt286.1 bt286.2.1 bt286.2.2 bt289.1 bt289.2.1 bt289.2.2 ((t282.length : Int) != (y275.length : Int))) else (gutterlaw10_MarginNothing.j0 k ji5 t253 t278 t282 bt286.1 bt286.2.1 bt286.2.2 bt289.1 bt289.2.1 bt289.2.2 true)) else (gutterlaw10_MarginNothing.j0 k ji5 t253 t278 t282 bt286.1 bt286.2.1 bt286.2.2 bt289.1 bt289.2.1 bt289.2.2 true)) else (if t253 = true then (if t283 = t279 then (if bt286.2.2 = t279 then (some (bt289.2.2 == t279)) else (some false)) else (some false)) else (some false))))) = some r := H
      have A14 := m0 A140
      clear A140
      replace H := Option.bind_eq_some_iff.mp H
      obtain ⟨⟨t286, t287, t288⟩, A150, H⟩ := H
      replace H : ((margin_End.f y275).bind fun bt289 => (if t279 = 0 then (if t283 = 0 then (if (t278.length : Int) = (y254.length : Int) then (gutterlaw10_MarginNothing.j0 k ji5 t253 t278 t282 t286 t287 t288 bt289.1 bt289.2.1 bt289.2.2 ((t282.length : Int) != (y275.length : Int))) else (gutterlaw10_MarginNothing.j0 k ji5 t253 t278 t282 t286 t287 t288 bt289.1 bt289.2.1 bt289.2.2 true)) else (gutterlaw10_MarginNothing.j0 k ji5 t253 t278 t282 t286 t287 t288 bt289.1 bt289.2.1 bt289.2.2 true)) else (if t253 = true then (if t283 = t279 then (if t288 = t279 then (some (bt289.2.2 == t279)) else (some false)) else (some false)) else (some false)))) = some r := H
      have A15 := m0 A150
      clear A150
      replace H := Option.bind_eq_some_iff.mp H
      obtain ⟨⟨t289, t290, t291⟩, A160, H⟩ := H
      replace H : (if t279 = 0 then (if t283 = 0 then (if (t278.length : Int) = (y254.length : Int) then (gutterlaw10_MarginNothing.j0 k ji5 t253 t278 t282 t286 t287 t288 t289 t290 t291 ((t282.length : Int) != (y275.length : Int))) else (gutterlaw10_MarginNothing.j0 k ji5 t253 t278 t282 t286 t287 t288 t289 t290 t291 true)) else (gutterlaw10_MarginNothing.j0 k ji5 t253 t278 t282 t286 t287 t288 t289 t290 t291 true)) else (if t253 = true then (if t283 = t279 then (if t288 = t279 then (some (t291 == t279)) else (some false)) else (some false)) else (some false))) = some r := H
      have A16 := m0 A160
      clear A160
      by_cases c17 : t279 = 0
      ·
       rw [if_pos c17] at H
       have c17b0 : (t279 == 0) = true := beq_iff_eq.mpr c17
       have c17b1 : (t279 != 0) = false := bne_eq_false_iff_eq.mpr c17
       clear c17
       have HC18 := m0 H
       clear H
       go_enter Tryd.func6, Tryd.ntmps6
       try go_wp2_with (first | ((with_reducible refine gate_callee (f := 10) rfl ?_); refine goesL_ (some 18) rfl rfl Tryd.func10 (by kernel_rfl) rfl #[] rfl (by (try simp only [List.map_toArray, List.map_cons, List.map_nil]); first | done | rfl | (simp only [List.length_drop, List.length_take]; rfl)) ?_; (with_reducible refine (gutterlaw10_shown.calls k  t253 _ A3.out (GOK.below HG.out (by repeat first | exact HB.out | apply bA | apply bN | apply bD))).mono ?_); rintro e w19 ⟨rfl, hb⟩; refine ⟨_, rfl, ?_⟩; have n0_ := m0 (below_step (by repeat first | exact HB.out | apply bA | apply bN | apply bD) hb); clear HB; have HB := n0_; clear n0_; (try clear hb); (try clear hb2); (try clear hk); (try clear hi); have hroom20 : l0.length ≤ c0 := HC0.out; have hr20 := C_takeN 40 HR0.out; rw [← Ny254.out] at hr20; have hy20 : y254.length ≤ l0.length := (by rw [Ny254.out, List.length_take]; omega); have HR257 := m0 hr20; have HC257 := m0 (show y254.length ≤ c0 from by omega); have KR20 := m0 hroom20; clear hr20 hroom20; have KY20 := m0 hy20; clear hy20) | (go_at_call 14; refine calls_of_args (args' := #[.slice A0 l0.length c0]) (by (try simp only [List.map_toArray, List.map_cons, List.map_nil]); first | done | rfl) ?_; refine (cut_14 A0 c0 l0 y254 _ KR20.out Ny254.out).mono ?_; rintro e w' ⟨rfl, rfl⟩))
       have n0_ := m0 (bD HB.out)
       clear HB
       have HB := n0_
       clear n0_
       have q22 : ((ji5) : Int) ≤ ((y254.length : Int) : Int) := oT (by first | (with_reducible assumption) | assumption)
       obtain ⟨i022, hi022, _, hsz22, _⟩ := info_parts info42
       have hroom22 : y254.length ≤ c0 := HC257.out
       have hC22 : Kd.C k42 _ A0 y254.length y254 := HR257.out
       have hcut22 := cut_to (P := Tryd.prog) 30 42 .i64 Tryd.underlying30 hi022 A0 y254.length c0 (ji5) (oT (by first | (with_reducible assumption) | assumption)) q22 hroom22
       have hr22 := Kd.C_take (m := ((ji5) : Int).toNat) hC22 (by omega)
       have hy22 : y258.length = ((ji5) : Int).toNat := (by rw [Ny258.out, List.length_take]; omega)
       rw [← Ny258.out] at hr22
       rw [← hy22] at hcut22
       have HR261 := m0 hr22
       have HC261 := m0 (show y258.length ≤ c0 from by omega)
       clear hr22 hC22 hroom22 hi022 hsz22
       have KY22 := m0 hy22
       clear hy22
       replace q22 := eq_true q22
       have q23 : ((ji5) : Int) ≤ ((y254.length : Int) : Int) := oT (by first | (with_reducible assumption) | assumption)
       obtain ⟨i023, hi023, _, hsz23, _⟩ := info_parts info42
       have hroom23 : y254.length ≤ c0 := HC257.out
       have hC23 : Kd.C k42 _ A0 y254.length y254 := HR257.out
       have q023 : (0 : Int) ≤ ((ji5) : Int) := oT (by first | (with_reducible assumption) | assumption)
       have hcut23 := cut_from (P := Tryd.prog) 30 42 .i64 Tryd.underlying30 hi023 3 hsz23 A0 y254.length c0 (ji5) q023 q23
       have hr23 := Kd.C_drop (m := ((ji5) : Int).toNat) (c := c0) hC23 (by omega) hroom23
       obtain ⟨A23, hA23⟩ : ∃ A1, A1 = (if c0 = ((ji5) : Int).toNat then A0 else (A0 : Option Addr).map (·.add (((ji5) : Int).toNat * 3))) := ⟨_, rfl⟩
       obtain ⟨c23, hc23⟩ : ∃ c1, c1 = c0 - ((ji5) : Int).toNat := ⟨_, rfl⟩
       have hy23 : y271.length = y254.length - ((ji5) : Int).toNat := (by rw [Ny271.out, List.length_drop] <;> omega)
       rw [show (y254).drop ((ji5) : Int).toNat = y271 from Ny271.out.symm] at hr23
       replace hr23 : Kd.C k42 _ A23 y271.length y271 := (by rw [hA23]; exact hr23)
       rw [← hy23, ← hA23, ← hc23] at hcut23
       have HR274 := m0 hr23
       have HC274 := m0 (show y271.length ≤ c23 from by rw [hy23, hc23]; exact Nat.sub_le_sub_right hroom23 _)
       clear hr23 hC23 hroom23 hi023 hsz23 hc23
       have KY23 := m0 hy23
       have KA23 := m0 hA23
       clear hy23 hA23
       replace q23 := eq_true q23
       refine start_ (n := 13) (S := fun w' => True) (ds := []) #[false, false, false, false, false, false, false, false, false, false, false, false, false] (by kernel_rfl) rfl rfl trivial (fun hHeld => ?_); refine with_tabW gutterlaw10_MarginNothing.tab5 gutterlaw10_MarginNothing.bits5 (fun HT_ HW_ => ?_)
       generalize w19.drew = w21 at HB HR261 HR274 hHeld ⊢
       refine pure_ (i := 0) (N := some 26) (v := ?_) (a' := ?_) #[true, false, false, false, false, false, false, false, false, false, false, false, false] rfl rfl (any_of HT_.out (by kernel_rfl)) (fun _ _ _ h => h) (Or.inl ⟨by rfl, ?_⟩) ?_ ?_
       rotate_left
       ·
        intro w'
        go_simp
        with_reducible rfl
       rotate_left
       ·
        simp only [Act.put, sT, s0, sS, i64_w, i32_w]
        rfl
       refine pure_ (i := 1) (N := some 27) (v := ?_) (a' := ?_) #[true, true, false, false, false, false, false, false, false, false, false, false, false] rfl rfl (any_of HT_.out (by kernel_rfl)) (fun _ _ _ h => h) (Or.inl ⟨by rfl, ?_⟩) ?_ ?_
       rotate_left
       ·
        intro w'
        go_simp
        with_reducible rfl
       rotate_left
       ·
        simp only [Act.put, sT, s0, sS, i64_w, i32_w]
        rfl
       refine pure_ (i := 2) (N := some 28) (v := ?_) (a' := ?_) #[true, true, true, false, false, false, false, false, false, false, false, false, false] rfl rfl (any_of HT_.out (by kernel_rfl)) (fun _ _ _ h => h) (Or.inl ⟨by rfl, ?_⟩) ?_ ?_
       rotate_left
       ·
        intro w'
        go_simp
        with_reducible rfl
       rotate_left
       ·
        simp only [Act.put, sT, s0, sS, i64_w, i32_w]
        rfl
       refine pure_ (i := 3) (N := some 29) (v := ?_) (a' := ?_) #[true, true, true, true, false, false, false, false, false, false, false, false, false] rfl rfl (any_of HT_.out (by kernel_rfl)) (fun _ _ _ h => h) (Or.inl ⟨by rfl, ?_⟩) ?_ ?_
       rotate_left
       ·
        intro w'
        go_simp
        with_reducible rfl
       rotate_left
       ·
        simp only [Act.put, sT, s0, sS, i64_w, i32_w]
        rfl
       refine pure_ (i := 5) (N := some 31) (v := ?_) (a' := ?_) #[true, true, true, true, false, true, false, false, false, false, false, false, false] rfl rfl (any_of HT_.out (by kernel_rfl)) (fun _ _ _ h => h) (Or.inl ⟨by rfl, ?_⟩) ?_ ?_
       rotate_left
       ·
        intro w'
        go_simp
        with_reducible rfl
       rotate_left
       ·
        simp only [Act.put, sT, s0, sS, i64_w, i32_w]
        rfl
       refine pure_ (i := 8) (N := some 34) (v := ?_) (a' := ?_) #[true, true, true, true, false, true, false, false, true, false, false, false, false] rfl rfl (any_of HT_.out (by kernel_rfl)) (fun _ _ _ h => h) (Or.inl ⟨by rfl, ?_⟩) ?_ ?_
       rotate_left
       ·
        intro w'
        go_simp
        with_reducible rfl
       rotate_left
       ·
        simp only [Act.put, sT, s0, sS, i64_w, i32_w]
        rfl
       refine pure_ (i := 9) (N := some 35) (v := ?_) (a' := ?_) #[true, true, true, true, false, true, false, false, true, true, false, false, false] rfl rfl (any_of HT_.out (by kernel_rfl)) (fun _ _ _ h => h) (Or.inl ⟨by rfl, ?_⟩) ?_ ?_
       rotate_left
       ·
        intro w'
        go_simp
        with_reducible rfl
       rotate_left
       ·
        simp only [Act.put, sT, s0, sS, i64_w, i32_w]
        rfl
       refine pure_ (i := 10) (N := some 36) (v := ?_) (a' := ?_) #[true, true, true, true, false, true, false, false, true, true, true, false, false] rfl rfl (any_of HT_.out (by kernel_rfl)) (fun _ _ _ h => h) (Or.inl ⟨by rfl, ?_⟩) ?_ ?_
       rotate_left
       ·
        intro w'
        go_simp
        with_reducible rfl
       rotate_left
       ·
        simp only [Act.put, sT, s0, sS, i64_w, i32_w]
        rfl
       refine join_ (σ := Value × Value) 3 #[true, true, true, true, true, true, true, false, true, true, true, false, false] (fun s_ => [(30, s_.1), (32, s_.2)]) (fun s_ w' => (Kd.R k42 42 w' w.heap.size (fun k_ => some k_ ≠ (s_.2 : Value).ownBlock) s_.1 y262) ∧ (Kd.R k42 42 w' w.heap.size (fun k_ => some k_ ≠ (s_.1 : Value).ownBlock) s_.2 y265) ∧ (Below w.heap.size w w')) ?_ ?_
       rotate_left
       ·
        intro hCont
        refine two_ (i := 4) (j := 6) (Ni := some 30) (Nj := some 32) #[true, true, true, true, true, true, false, false, true, true, true, false, false] #[true, true, true, true, false, true, true, false, true, true, true, false, false] rfl rfl rfl rfl (two_of HT_.out (by kernel_rfl)) (by decide) (by decide) (fun K hK => ?_) (fun K hK => ?_)
        ·
         skip
         refine Kd.R_append_rows_step k42 (w0 := w) w.heap.size (by rfl) (.tmp 26) (.tmp 29) 30 42 (.agg #[(.int .i64 0), (.int .i64 0), (.int .i64 0)]) 24 rfl Tryd.underlying30 info42 rfl (by decide) (by omega) (.slice none 0 0) ([] : List (S42)) y258 _ _ _ (fun _ => True) (fun _ => False) rfl rfl ?aO ?aR (fun _ _ h => h) (fun _ h => h.elim) ?aF ?aB ?aS ?aL ?_
         (case aR => repeat (first | exact (cB HR261.out HB.out) | (with_reducible refine cA ?_ _) | (with_reducible refine cN ?_ _) | (with_reducible refine cD ?_)))
         (case aB => exact (by repeat first | exact HB.out | apply bA | apply bN | apply bD))
         (case aF => exact (fun _ _ => trivial))
         (case aO => exact ((Kd.R_nil _ _ _ _ (fun _ => True))))
         (case aS => exact (bZ (by repeat first | exact HB.out | apply bA | apply bN | apply bD)))
         (case aL => have := LMc8.out; omega)
         intro v263 w24 ho hb hg hat
         rw [← Ny262.out] at ho
         have n0_ := m0 (hb)
         have n1_ := m0 (ho)
         clear HB
         have HB := n0_
         have HO264 := n1_
         clear n0_ n1_
         clear ho hb hg hat
         refine hK.out _ _ trivial (fun hHeld => ?_)
         clear hK K
         refine norm_ (a' := ?_) ?_ ?_
         rotate_left
         ·
          show Act.put _ (some 30) _ = _
          simp only [Act.put, sT, s0, sS, i64_w, i32_w]
          rfl
         refine one_ (i := 6) (N := some 32) #[true, true, true, true, true, true, true, false, true, true, true, false, false] rfl rfl (one_of HT_.out (by kernel_rfl)) (by decide) (fun K hK => ?_)
         refine Kd.R_lit_step k42 _ 42 ?hg (N := 32) ?hd (xs := ([(⟨0, 0, 0⟩ : S42)] : List (S42))) (inner := [.int .i64 0, .int .i64 0, .int .i64 0]) (ok := fun _ => True) (okp := fun _ => True) ?hr ?hp (fun _ hk => hk) trivial (Below.refl _ _) (Nat.le_refl _) (by simp) ?_; (case hd => rfl); (case hg => rfl); (case hr => first | (go_simp; done) | (go_simp; rfl)); (case hp => exact (Reps.c3 (show Kd.M k42 _ _ _ (⟨0, 0, 0⟩ : S42) [.int .i64 0, .int .i64 0, .int .i64 0] from (k42_mkM _ _ _ (⟨0, 0, 0⟩ : S42) )) (Reps.none _ _)))
         intro v266 w25 ho26 hb hg_ hnew_
         clear hg_ hnew_
         (first | rw [← Ny265.out] at ho26 | (simp only [Int.reduceToNat] at ho26; rw [← Ny265.out] at ho26))
         have n0_ := m0 (Kd.R_elder' (by (with_reducible repeat first | apply rA | apply rN | apply rD); exact HO264.out) (Kd.R_base ho26) hb)
         have n1_ := m0 (rL (Kd.R_new' ho26 (rT (by (with_reducible repeat first | apply rA | apply rN | apply rD); exact HO264.out))) (bZ (by repeat first | exact HB.out | apply bA | apply bN | apply bD)))
         have n2_ := m0 (below_step (by repeat first | exact HB.out | apply bA | apply bN | apply bD) hb)
         clear HO264
         clear HB
         have HO264 := n0_
         have HO267 := n1_
         have HB := n2_
         clear n0_ n1_ n2_
         clear hb ho26
         refine hK.out _ _ trivial (fun hHeld => ?_)
         clear hK K
         refine norm_ (a' := ?_) ?_ ?_
         rotate_left
         ·
          show Act.put _ (some 32) _ = _
          simp only [Act.put, sT, s0, sS, i64_w, i32_w]
          rfl
         exact norm_ (by simp only [putAll, Act.put, sT, s0, sS]) (hCont (v263, v266) _ ⟨(by (with_reducible repeat first | apply rA | apply rN | apply rD); exact Kd.R_mono HO264.out (fun _ hk => hk.2)), (by (with_reducible repeat first | apply rA | apply rN | apply rD); exact Kd.R_mono HO267.out (fun _ hk => hk.2)), (by repeat first | exact HB.out | apply bA | apply bN | apply bD)⟩)
        ·
         skip
         refine Kd.R_lit_step k42 _ 42 ?hg (N := 32) ?hd (xs := ([(⟨0, 0, 0⟩ : S42)] : List (S42))) (inner := [.int .i64 0, .int .i64 0, .int .i64 0]) (ok := fun _ => True) (okp := fun _ => True) ?hr ?hp (fun _ hk => hk) trivial (Below.refl _ _) (Nat.le_refl _) (by simp) ?_; (case hd => rfl); (case hg => rfl); (case hr => first | (go_simp; done) | (go_simp; rfl)); (case hp => exact (Reps.c3 (show Kd.M k42 _ _ _ (⟨0, 0, 0⟩ : S42) [.int .i64 0, .int .i64 0, .int .i64 0] from (k42_mkM _ _ _ (⟨0, 0, 0⟩ : S42) )) (Reps.none _ _)))
         intro v266 w24 ho25 hb hg_ hnew_
         clear hg_ hnew_
         (first | rw [← Ny265.out] at ho25 | (simp only [Int.reduceToNat] at ho25; rw [← Ny265.out] at ho25))
         have n0_ := m0 (rL ho25 (bZ (by repeat first | exact HB.out | apply bA | apply bN | apply bD)))
         have n1_ := m0 (below_step (by repeat first | exact HB.out | apply bA | apply bN | apply bD) hb)
         clear HB
         have HO267 := n0_
         have HB := n1_
         clear n0_ n1_
         clear hb ho25
         refine hK.out _ _ trivial (fun hHeld => ?_)
         clear hK K
         refine norm_ (a' := ?_) ?_ ?_
         rotate_left
         ·
          show Act.put _ (some 32) _ = _
          simp only [Act.put, sT, s0, sS, i64_w, i32_w]
          rfl
         refine one_ (i := 4) (N := some 30) #[true, true, true, true, true, true, true, false, true, true, true, false, false] rfl rfl (one_of HT_.out (by kernel_rfl)) (by decide) (fun K hK => ?_)
         refine Kd.R_append_rows_step k42 (w0 := w) w.heap.size (by rfl) (.tmp 26) (.tmp 29) 30 42 (.agg #[(.int .i64 0), (.int .i64 0), (.int .i64 0)]) 24 rfl Tryd.underlying30 info42 rfl (by decide) (by omega) (.slice none 0 0) ([] : List (S42)) y258 _ _ _ (fun k_ => some k_ ≠ (v266 : Value).ownBlock) (fun _ => False) rfl rfl ?aO ?aR (fun _ _ h => h) (fun _ h => h.elim) ?aF ?aB ?aS ?aL ?_
         (case aR => repeat (first | exact (cB HR261.out HB.out) | (with_reducible refine cA ?_ _) | (with_reducible refine cN ?_ _) | (with_reducible refine cD ?_)))
         (case aB => exact (by repeat first | exact HB.out | apply bA | apply bN | apply bD))
         (case aF => exact (fun k_ hk => Kd.fresh' (rT (by (with_reducible repeat first | apply rA | apply rN | apply rD); exact HO267.out)) k_ hk))
         (case aO => exact ((Kd.R_nil _ _ _ _ (fun k_ => some k_ ≠ (v266 : Value).ownBlock))))
         (case aS => exact (bZ (by repeat first | exact HB.out | apply bA | apply bN | apply bD)))
         (case aL => have := LMc8.out; omega)
         intro v263 w26 ho hb hg hat
         rw [← Ny262.out] at ho
         have n0_ := m0 (Kd.R_after (Kd.R_apart_nil (by (with_reducible repeat first | apply rA | apply rN | apply rD); exact HO267.out)) hg hat)
         have n1_ := m0 (hb)
         have n2_ := m0 (ho)
         clear HO267
         clear HB
         have HO267 := n0_
         have HB := n1_
         have HO264 := n2_
         clear n0_ n1_ n2_
         clear ho hb hg hat
         refine hK.out _ _ trivial (fun hHeld => ?_)
         clear hK K
         refine norm_ (a' := ?_) ?_ ?_
         rotate_left
         ·
          show Act.put _ (some 30) _ = _
          simp only [Act.put, sT, s0, sS, i64_w, i32_w]
          rfl
         exact norm_ (by simp only [putAll, Act.put, sT, s0, sS]) (hCont (v263, v266) _ ⟨(by (with_reducible repeat first | apply rA | apply rN | apply rD); exact HO264.out), (by (with_reducible repeat first | apply rA | apply rN | apply rD); exact Kd.R_mono HO267.out (fun _ hk => hk.2)), (by repeat first | exact HB.out | apply bA | apply bN | apply bD)⟩)
       rintro ⟨v263, v266⟩ w27 ⟨h0_, h1_, h2_⟩
       have n0_ : Aside0 (Kd.R k42 42 w27 w.heap.size (fun k_ => some k_ ≠ (v266 : Value).ownBlock) v263 y262) := ⟨h0_⟩
       have n1_ : Aside0 (Kd.R k42 42 w27 w.heap.size (fun k_ => some k_ ≠ (v263 : Value).ownBlock) v266 y265) := ⟨h1_⟩
       have n2_ : Aside0 (Below w.heap.size w w27) := ⟨h2_⟩
       clear HB
       clear h0_ h1_ h2_
       have HO264 := n0_
       have HO267 := n1_
       have HB := n2_
       clear n0_ n1_ n2_
       have hHeld := trivial
       obtain ⟨Ao29, co29, eo29⟩ := Kd.R_slice HO267.out
       (first | subst eo29 | (injection eo29 with f1_ f2_ f3_; have f4_ := f1_.symm; have f5_ := f3_.symm; clear f1_ f2_ f3_; subst f4_; subst f5_))
       refine norm_ (a' := ?_) ?_ ?_
       rotate_left
       ·
        simp only [putAll, Act.put, sT, s0, sS]
        rfl
       refine one_ (i := 7) (N := some 33) #[true, true, true, true, true, true, true, true, true, true, true, false, false] rfl rfl (one_of HT_.out (by kernel_rfl)) (by decide) (fun K hK => ?_)
       refine Kd.R_append_rows_step k42 (w0 := w) w.heap.size (by rfl) (.tmp 30) (.tmp 32) 30 42 (.agg #[(.int .i64 0), (.int .i64 0), (.int .i64 0)]) 24 rfl Tryd.underlying30 info42 rfl (by decide) (by omega) v263 y262 y265 _ _ _ (fun k_ => some k_ ≠ (.slice Ao29 y265.length co29 : Value).ownBlock) (fun _ => False) rfl rfl ?aO ?aR (fun _ _ h => h) (fun _ h => h.elim) ?aF ?aB ?aS ?aL ?_
       (case aR => repeat (first | exact (rR HO267.out).2.2 | (with_reducible refine cA ?_ _) | (with_reducible refine cN ?_ _) | (with_reducible refine cD ?_)))
       (case aB => exact (by repeat first | exact HB.out | apply bA | apply bN | apply bD))
       (case aF => exact (fun k_ hk => Kd.fresh' (rT (by (with_reducible repeat first | apply rA | apply rN | apply rD); exact HO267.out)) k_ hk))
       (case aO => exact (by (with_reducible repeat first | apply rA | apply rN | apply rD); exact HO264.out))
       (case aS => exact (bZ (by repeat first | exact HB.out | apply bA | apply bN | apply bD)))
       (case aL => have := LMc9.out; omega)
       intro v269 w28 ho hb hg hat
       rw [← Ny268.out] at ho
       have n0_ := m0 (Kd.R_after (ok := (fun _ => True)) (by (with_reducible repeat first | apply rA | apply rN | apply rD); exact Kd.R_mono HO267.out (fun _ hk => ⟨trivial, hk⟩)) hg hat)
       have n1_ := m0 (hb)
       have n2_ := m0 (ho)
       clear HO267
       clear HB
       clear HO264
       have HO267 := n0_
       have HB := n1_
       have HO270 := n2_
       clear n0_ n1_ n2_
       clear ho hb hg hat
       refine hK.out _ _ trivial (fun hHeld => ?_)
       clear hK K
       refine norm_ (a' := ?_) ?_ ?_
       rotate_left
       ·
        show Act.put _ (some 33) _ = _
        simp only [Act.put, sT, s0, sS, i64_w, i32_w]
        rfl
       refine one_ (i := 11) (N := some 37) #[true, true, true, true, true, true, true, true, true, true, true, true, false] rfl rfl (one_of HT_.out (by kernel_rfl)) (by decide) (fun K hK => ?_)
       refine Kd.R_append_rows_step k42 (w0 := w) w.heap.size (by rfl) (.tmp 33) (.tmp 36) 30 42 (.agg #[(.int .i64 0), (.int .i64 0), (.int .i64 0)]) 24 rfl Tryd.underlying30 info42 rfl (by decide) (by omega) v269 y268 y271 _ _ _ (fun k_ => some k_ ≠ (.slice Ao29 y265.length co29 : Value).ownBlock) (fun _ => False) rfl rfl ?aO ?aR (fun _ _ h => h) (fun _ h => h.elim) ?aF ?aB ?aS ?aL ?_
       (case aR => repeat (first | exact (cB HR274.out HB.out) | (with_reducible refine cA ?_ _) | (with_reducible refine cN ?_ _) | (with_reducible refine cD ?_)))
       (case aB => exact (by repeat first | exact HB.out | apply bA | apply bN | apply bD))
       (case aF => exact (fun k_ hk => Kd.fresh' (rT (by (with_reducible repeat first | apply rA | apply rN | apply rD); exact HO267.out)) k_ hk))
       (case aO => exact (by (with_reducible repeat first | apply rA | apply rN | apply rD); exact HO270.out))
       (case aS => exact (bZ (by repeat first | exact HB.out | apply bA | apply bN | apply bD)))
       (case aL => have := LMc12.out; omega)
       intro v276 w30 ho hb hg hat
       rw [← Ny275.out] at ho
       have n0_ := m0 (Kd.R_after (ok := (fun _ => True)) (by (with_reducible repeat first | apply rA | apply rN | apply rD); exact HO267.out) hg hat)
       have n1_ := m0 (hb)
       have n2_ := m0 (ho)
       clear HO267
       clear HB
       clear HO270
       have HO267 := n0_
       have HB := n1_
       have HO277 := n2_
       clear n0_ n1_ n2_
       clear ho hb hg hat
       refine hK.out _ _ trivial (fun hHeld => ?_)
       clear hK K
       refine norm_ (a' := ?_) ?_ ?_
       rotate_left
       ·
        show Act.put _ (some 37) _ = _
        simp only [Act.put, sT, s0, sS, i64_w, i32_w]
        rfl
       refine pure_ (i := 12) (N := some 6) (v := ?_) (a' := ?_) #[true, true, true, true, true, true, true, true, true, true, true, true, true] rfl rfl (any_of HT_.out (by kernel_rfl)) (fun _ _ _ h => h) (Or.inl ⟨by rfl, ?_⟩) ?_ ?_
       rotate_left
       ·
        intro w'
        go_simp
        with_reducible rfl
       rotate_left
       ·
        simp only [Act.put, sT, s0, sS, i64_w, i32_w]
        rfl
       refine done_ (done_of HT_.out (by kernel_rfl)) ?_
       go_upto_region 12 with (first | ((with_reducible refine gate_callee (f := 15) rfl ?_); refine goesL_ (some 40) rfl rfl Tryd.func15 (by kernel_rfl) rfl #[.slice A0 y254.length c0] rfl (by (try simp only [List.map_toArray, List.map_cons, List.map_nil]); first | done | rfl | (simp only [List.length_drop, List.length_take]; rfl)) ?_; (with_reducible refine (margin_Tops.calls _ _ y254 t278 t279 _ ?side1 ?side2 A13.out (GOK.below HG.out (by repeat first | exact HB.out | apply bA | apply bN | apply bD))).mono ?_); (case side1 => repeat (first | exact (cB HR257.out HB.out) | (with_reducible refine cA ?_ _) | (with_reducible refine cN ?_ _) | (with_reducible refine cD ?_))); (case side2 => exact HC257.out); rintro e w31 ⟨v280, rfl, ho0, hb⟩; refine ⟨_, rfl, ?_⟩; have n0_ := m0 (rB (by (with_reducible repeat first | apply rA | apply rN | apply rD); exact HO267.out) hb); have n1_ := m0 (rB (by (with_reducible repeat first | apply rA | apply rN | apply rD); exact HO277.out) hb); have n2_ := m0 (rL ho0 (bZ (by repeat first | exact HB.out | apply bA | apply bN | apply bD))); have n3_ := m0 (below_step (by repeat first | exact HB.out | apply bA | apply bN | apply bD) hb); clear HO267; clear HO277; clear HB; have HO267 := n0_; have HO277 := n1_; have HO281 := n2_; have HB := n3_; clear n0_ n1_ n2_ n3_; (try clear hb); (try clear hb2); (try clear hk); (try clear hi); (try clear ho0); obtain ⟨Ao32, co32, eo32⟩ := Kd.R_slice HO277.out; subst eo32) | ((with_reducible refine gate_callee (f := 15) rfl ?_); refine goesL_ (some 45) rfl rfl Tryd.func15 (by kernel_rfl) rfl #[.slice Ao32 y275.length co32] rfl (by (try simp only [List.map_toArray, List.map_cons, List.map_nil]); first | done | rfl | (simp only [List.length_drop, List.length_take]; rfl)) ?_; (with_reducible refine (margin_Tops.calls _ _ y275 t282 t283 _ ?side1 ?side2 A14.out (GOK.below HG.out (by repeat first | exact HB.out | apply bA | apply bN | apply bD))).mono ?_); (case side1 => repeat (first | exact (rR HO277.out).2.2 | (with_reducible refine cA ?_ _) | (with_reducible refine cN ?_ _) | (with_reducible refine cD ?_))); (case side2 => exact (rR HO277.out).2.1); rintro e w33 ⟨v284, rfl, ho0, hb⟩; refine ⟨_, rfl, ?_⟩; have n0_ := m0 (rB (by (with_reducible repeat first | apply rA | apply rN | apply rD); exact HO267.out) hb); have n1_ := m0 (rB (by (with_reducible repeat first | apply rA | apply rN | apply rD); exact HO277.out) hb); have n2_ := m0 (Kd.R_elder' (by (with_reducible repeat first | apply rA | apply rN | apply rD); exact HO281.out) (Kd.R_base ho0) hb); have n3_ := m0 (rL (Kd.R_new' ho0 (rT (by (with_reducible repeat first | apply rA | apply rN | apply rD); exact HO281.out))) (bZ (by repeat first | exact HB.out | apply bA | apply bN | apply bD))); have n4_ := m0 (below_step (by repeat first | exact HB.out | apply bA | apply bN | apply bD) hb); clear HO267; clear HO277; clear HO281; clear HB; have HO267 := n0_; have HO277 := n1_; have HO281 := n2_; have HO285 := n3_; have HB := n4_; clear n0_ n1_ n2_ n3_ n4_; (try clear hb); (try clear hb2); (try clear hk); (try clear hi); (try clear ho0)) | ((with_reducible refine gate_callee (f := 17) rfl ?_); refine goesL_ (some 50) rfl rfl Tryd.func17 (by kernel_rfl) rfl #[.slice A0 y254.length c0] rfl (by (try simp only [List.map_toArray, List.map_cons, List.map_nil]); first | done | rfl | (simp only [List.length_drop, List.length_take]; rfl)) ?_; (with_reducible refine (margin_End.calls _ _ y254 t286 t287 t288 _ ?side1 ?side2 A15.out (GOK.below HG.out (by repeat first | exact HB.out | apply bA | apply bN | apply bD))).mono ?_); (case side1 => repeat (first | exact (cB HR257.out HB.out) | (with_reducible refine cA ?_ _) | (with_reducible refine cN ?_ _) | (with_reducible refine cD ?_))); (case side2 => exact HC257.out); rintro e w34 ⟨rfl, hb⟩; refine ⟨_, rfl, ?_⟩; have n0_ := m0 (rB (by (with_reducible repeat first | apply rA | apply rN | apply rD); exact HO267.out) hb); have n1_ := m0 (rB (by (with_reducible repeat first | apply rA | apply rN | apply rD); exact HO277.out) hb); have n2_ := m0 (rB (by (with_reducible repeat first | apply rA | apply rN | apply rD); exact HO281.out) hb); have n3_ := m0 (rB (by (with_reducible repeat first | apply rA | apply rN | apply rD); exact HO285.out) hb); have n4_ := m0 (below_step (by repeat first | exact HB.out | apply bA | apply bN | apply bD) hb); clear HO267; clear HO277; clear HO281; clear HO285; clear HB; have HO267 := n0_; have HO277 := n1_; have HO281 := n2_; have HO285 := n3_; have HB := n4_; clear n0_ n1_ n2_ n3_ n4_; (try clear hb); (try clear hb2); (try clear hk); (try clear hi)) | ((with_reducible refine gate_callee (f := 17) rfl ?_); refine goesL_ (some 56) rfl rfl Tryd.func17 (by kernel_rfl) rfl #[.slice Ao32 y275.length co32] rfl (by (try simp only [List.map_toArray, List.map_cons, List.map_nil]); first | done | rfl | (simp only [List.length_drop, List.length_take]; rfl)) ?_; (with_reducible refine (margin_End.calls _ _ y275 t289 t290 t291 _ ?side1 ?side2 A16.out (GOK.below HG.out (by repeat first | exact HB.out | apply bA | apply bN | apply bD))).mono ?_); (case side1 => repeat (first | exact (rR HO277.out).2.2 | (with_reducible refine cA ?_ _) | (with_reducible refine cN ?_ _) | (with_reducible refine cD ?_))); (case side2 => exact (rR HO277.out).2.1); rintro e w35 ⟨rfl, hb⟩; refine ⟨_, rfl, ?_⟩; have n0_ := m0 (rB (by (with_reducible repeat first | apply rA | apply rN | apply rD); exact HO267.out) hb); have n1_ := m0 (rB (by (with_reducible repeat first | apply rA | apply rN | apply rD); exact HO277.out) hb); have n2_ := m0 (rB (by (with_reducible repeat first | apply rA | apply rN | apply rD); exact HO281.out) hb); have n3_ := m0 (rB (by (with_reducible repeat first | apply rA | apply rN | apply rD); exact HO285.out) hb); have n4_ := m0 (below_step (by repeat first | exact HB.out | apply bA | apply bN | apply bD) hb); clear HO267; clear HO277; clear HO281; clear HO285; clear HB; have HO267 := n0_; have HO277 := n1_; have HO281 := n2_; have HO285 := n3_; have HB := n4_; clear n0_ n1_ n2_ n3_ n4_; (try clear hb); (try clear hb2); (try clear hk); (try clear hi)))
       (try simp only [Act.put, sT, s0, sS])
       go_cut [93] (fun v93 wc => ∃ (kq : Nat) (x93_17 : Bool), v93 = .bool x93_17 ∧ Aside0 (gutterlaw10_MarginNothing.j0 kq ji5 t253 t278 t282 t286 t287 t288 t289 t290 t291 x93_17 = some r) ∧ Aside0 (kq ≤ k) ∧ Aside0 (Kd.R (Kd.int .i64) 2 wc w.heap.size (fun k_ => some k_ ≠ (v284 : Value).ownBlock) v280 t278) ∧ Aside0 (Kd.R (Kd.int .i64) 2 wc w.heap.size (fun k_ => some k_ ≠ (v280 : Value).ownBlock) v284 t282) ∧ Aside0 (Below w.heap.size w wc))
       case first =>
        have H := HC18.out
        clear HC18
        by_cases c36 : t283 = 0
        ·
         rw [if_pos c36] at H
         have c36b0 : (t283 == 0) = true := beq_iff_eq.mpr c36
         have c36b1 : (t283 != 0) = false := bne_eq_false_iff_eq.mpr c36
         clear c36
         (first | rw [c36b0] | (simp only [i64_w, i32_w]; rw [c36b0]) | skip)
         by_cases c37 : (t278.length : Int) = (y254.length : Int)
         ·
          rw [if_pos c37] at H
          have c37b0 : ((t278.length : Int) == (y254.length : Int)) = true := beq_iff_eq.mpr c37
          have c37b1 : ((t278.length : Int) != (y254.length : Int)) = false := bne_eq_false_iff_eq.mpr c37
          have c37b2 : (t278.length == y254.length) = true := by first | simpa using c37 | (simp at c37 ⊢; omega)
          clear c37
          have H' := m0 H
          clear H
          obtain ⟨Ao38, co38, eo38⟩ := Kd.R_slice HO281.out
          subst eo38
          obtain ⟨Ao39, co39, eo39⟩ := Kd.R_slice HO285.out
          subst eo39
          go_wp2
          go_meet
          case rel => exact ⟨_, (((t282.length : Int) != (y275.length : Int))), (by first | rfl | (simp; done) | (simp [*]; done)), H', ⟨by first | omega | exact Nat.le_refl _⟩, ⟨by (with_reducible repeat first | apply rA | apply rN | apply rD); exact Kd.R_mono HO281.out (fun _ hk => hk.2)⟩, ⟨by (with_reducible repeat first | apply rA | apply rN | apply rD); exact Kd.R_mono HO285.out (fun _ hk => hk.2)⟩, ⟨by repeat first | exact HB.out | apply bA | apply bN | apply bD⟩⟩
         ·
          rw [if_neg c37] at H
          have c37b0 : ((t278.length : Int) == (y254.length : Int)) = false := beq_eq_false_iff_ne.mpr c37
          have c37b1 : ((t278.length : Int) != (y254.length : Int)) = true := bne_iff_ne.mpr c37
          have c37b2 : (t278.length == y254.length) = false := by first | simpa using c37 | (simp at c37 ⊢; omega)
          have H' := m0 H
          clear H
          obtain ⟨Ao40, co40, eo40⟩ := Kd.R_slice HO281.out
          subst eo40
          go_wp2
          go_meet
          case rel => exact ⟨_, (true), (by first | rfl | (simp; done) | (simp [*]; done)), H', ⟨by first | omega | exact Nat.le_refl _⟩, ⟨by (with_reducible repeat first | apply rA | apply rN | apply rD); exact Kd.R_mono HO281.out (fun _ hk => hk.2)⟩, ⟨by (with_reducible repeat first | apply rA | apply rN | apply rD); exact Kd.R_mono HO285.out (fun _ hk => hk.2)⟩, ⟨by repeat first | exact HB.out | apply bA | apply bN | apply bD⟩⟩
        ·
         rw [if_neg c36] at H
         have c36b0 : (t283 == 0) = false := beq_eq_false_iff_ne.mpr c36
         have c36b1 : (t283 != 0) = true := bne_iff_ne.mpr c36
         (first | rw [c36b0] | (simp only [i64_w, i32_w]; rw [c36b0]) | skip)
         have H' := m0 H
         clear H
         go_wp2
         go_meet
         case rel => exact ⟨_, (true), (by first | rfl | (simp; done) | (simp [*]; done)), H', ⟨by first | omega | exact Nat.le_refl _⟩, ⟨by (with_reducible repeat first | apply rA | apply rN | apply rD); exact Kd.R_mono HO281.out (fun _ hk => hk.2)⟩, ⟨by (with_reducible repeat first | apply rA | apply rN | apply rD); exact Kd.R_mono HO285.out (fun _ hk => hk.2)⟩, ⟨by repeat first | exact HB.out | apply bA | apply bN | apply bD⟩⟩
       case rest =>
        clear HC18
        try clear c1
        try clear c2
        try clear p2
        try clear q2
        try clear c3
        try clear c6
        try clear c6b0
        try clear c6b1
        try clear c7
        try clear c7b0
        try clear c7b1
        try clear c8
        try clear c9
        try clear c10
        try clear c10b0
        try clear c11
        try clear c11b0
        try clear c12
        try clear c15
        try clear c17
        try clear c17b0
        try clear c17b1
        try clear q22
        try clear c23
        try clear q23
        try clear c36
        try clear c36b0
        try clear c36b1
        try clear c37
        try clear c37b0
        try clear c37b1
        try clear c37b2
        try clear q023
        try clear q22
        try clear q23
        obtain ⟨kq, x93_17, rfl, HA, HJ17, HO_7, HO_9, HB⟩ := hcut
        cases kq with
        | zero => exact absurd HA.out (by simp [gutterlaw10_MarginNothing.j0])
        | succ kj17 =>
         have H := HA.out
         clear HA
         simp only [gutterlaw10_MarginNothing.j0] at H
         by_cases c41 : x93_17 = true
         ·
          subst c41
          have H1 : (some false) = some r := by rw [if_pos rfl] at H; exact H
          clear H
          have H := H1
          clear H1
          obtain rfl := Option.some.inj H
          go_wp2
          go_ret
          exact ⟨by first | rfl | (simp [errW_none, errW_some] <;> rfl) | (simp only [← hji4, ← hji5]; first | rfl | (simp [errW_none, errW_some] <;> rfl)) | (simp [*, errW_none, errW_some] <;> rfl), by repeat first | exact HB.out | apply bA | apply bN | apply bD⟩
         ·
          replace c41 := Bool.eq_false_iff.mpr c41
          subst c41
          have H1 : (if 0 ≤ ji5 then (if ji5 ≤ (t282.length : Int) then ((some (t282.take (ji5 : Int).toNat : List Int)).bind fun y292 => (if ([] : List Int).length + y292.length < 17592186044416 then ((some (([] : List Int) ++ y292 : List Int)).bind fun y296 => (if 0 ≤ (wrap64 (ji5 + 1)) then (if (wrap64 (ji5 + 1)) ≤ (t282.length : Int) then ((some (t282.drop ((wrap64 (ji5 + 1)) : Int).toNat : List Int)).bind fun y299 => (if y296.length + y299.length < 17592186044416 then (if t253 = true then ((gutterref10_Nums.f kj17 t278 (y296 ++ y299)).bind fun t306 => (if t306 = true then (if t288 = 0 then (if t291 = 0 then (if t286 = t289 then (some (t287 == t290)) else (some false)) else (some false)) else (some false)) else (some false))) else (some false)) else (none))) else (none)) else (none))) else (none))) else (none)) else (none)) = some r := by rw [if_neg (show ¬ (false = true) by decide)] at H; exact H
          clear H
          have H := H1
          clear H1
          by_cases c42 : 0 ≤ ji5
          ·
           rw [if_pos c42] at H
           have c42b0 := eq_true c42
           have c42b1 : decide (0 ≤ ji5) = true := decide_eq_true c42
           clear c42
           by_cases c43 : ji5 ≤ (t282.length : Int)
           ·
            rw [if_pos c43] at H
            have c43b0 := eq_true c43
            have c43b1 : decide (ji5 ≤ (t282.length : Int)) = true := decide_eq_true c43
            clear c43
            obtain ⟨y292, hy292⟩ : ∃ y_ : List Int, y_ = (t282.take (ji5 : Int).toNat) := ⟨_, rfl⟩
            replace H : (if ([] : List Int).length + y292.length < 17592186044416 then ((some (([] : List Int) ++ y292 : List Int)).bind fun y296 => (if 0 ≤ (wrap64 (ji5 + 1)) then (if (wrap64 (ji5 + 1)) ≤ (t282.length : Int) then ((some (t282.drop ((wrap64 (ji5 + 1)) : Int).toNat : List Int)).bind fun y299 => (if y296.length + y299.length < 17592186044416 then (if t253 = true then ((gutterref10_Nums.f kj17 t278 (y296 ++ y299)).bind fun t306 => (if t306 = true then (if t288 = 0 then (if t291 = 0 then (if t286 = t289 then (some (t287 == t290)) else (some false)) else (some false)) else (some false)) else (some false))) else (some false)) else (none))) else (none)) else (none))) else (none)) = some r := by first | (rw [hy292]; with_reducible exact H) | (have H2_ := (Option.bind_some _ _).symm.trans H; rw [hy292]; with_reducible exact H2_) | (have H2_ := (Option.bind_some _ _).symm.trans H; with_reducible exact H2_) | with_reducible exact H | (rw [hy292]; exact H) | exact H
            have Ny292 := m0 hy292
            clear hy292
            by_cases c44 : ([] : List Int).length + y292.length < 17592186044416
            ·
             rw [if_pos c44] at H
             have LMc44 := m0 c44
             clear c44
             obtain ⟨y296, hy296⟩ : ∃ y_ : List Int, y_ = (([] : List Int) ++ y292) := ⟨_, rfl⟩
             replace H : (if 0 ≤ (wrap64 (ji5 + 1)) then (if (wrap64 (ji5 + 1)) ≤ (t282.length : Int) then ((some (t282.drop ((wrap64 (ji5 + 1)) : Int).toNat : List Int)).bind fun y299 => (if y296.length + y299.length < 17592186044416 then (if t253 = true then ((gutterref10_Nums.f kj17 t278 (y296 ++ y299)).bind fun t306 => (if t306 = true then (if t288 = 0 then (if t291 = 0 then (if t286 = t289 then (some (t287 == t290)) else (some false)) else (some false)) else (some false)) else (some false))) else (some false)) else (none))) else (none)) else (none)) = some r := by first | (rw [hy296]; with_reducible exact H) | (have H2_ := (Option.bind_some _ _).symm.trans H; rw [hy296]; with_reducible exact H2_) | (have H2_ := (Option.bind_some _ _).symm.trans H; with_reducible exact H2_) | with_reducible exact H | (rw [hy296]; exact H) | exact H
             have Ny296 := m0 hy296
             clear hy296
             obtain ⟨ji45, hji45⟩ : ∃ j_ : Int, (wrap64 (ji5 + 1)) = j_ := ⟨_, rfl⟩
             replace H : (if 0 ≤ (ji45) then (if (ji45) ≤ (t282.length : Int) then ((some (t282.drop ((ji45) : Int).toNat : List Int)).bind fun y299 => (if y296.length + y299.length < 17592186044416 then (if t253 = true then ((gutterref10_Nums.f kj17 t278 (y296 ++ y299)).bind fun t306 => (if t306 = true then (if t288 = 0 then (if t291 = 0 then (if t286 = t289 then (some (t287 == t290)) else (some false)) else (some false)) else (some false)) else (some false))) else (some false)) else (none))) else (none)) else (none)) = some r := by first | (rw [hji45] at H; exact H) | (simp only [hji45] at H ⊢; exact H)
             have hji45w : (IntKind.i64.wrap (ji5 + 1)) = ji45 := (i64_w _).trans hji45
             by_cases c46 : 0 ≤ (ji45)
             ·
              rw [if_pos c46] at H
              have c46b0 := eq_true c46
              have c46b1 : decide (0 ≤ (ji45)) = true := decide_eq_true c46
              clear c46
              by_cases c47 : (ji45) ≤ (t282.length : Int)
              ·
               rw [if_pos c47] at H
               have c47b0 := eq_true c47
               have c47b1 : decide ((ji45) ≤ (t282.length : Int)) = true := decide_eq_true c47
               clear c47
               obtain ⟨y299, hy299⟩ : ∃ y_ : List Int, y_ = (t282.drop ((ji45) : Int).toNat) := ⟨_, rfl⟩
               replace H : (if y296.length + y299.length < 17592186044416 then (if t253 = true then ((gutterref10_Nums.f kj17 t278 (y296 ++ y299)).bind fun t306 => (if t306 = true then (if t288 = 0 then (if t291 = 0 then (if t286 = t289 then (some (t287 == t290)) else (some false)) else (some false)) else (some false)) else (some false))) else (some false)) else (none)) = some r := by first | (rw [hy299]; with_reducible exact H) | (have H2_ := (Option.bind_some _ _).symm.trans H; rw [hy299]; with_reducible exact H2_) | (have H2_ := (Option.bind_some _ _).symm.trans H; with_reducible exact H2_) | with_reducible exact H | (rw [hy299]; exact H) | exact H
               have Ny299 := m0 hy299
               clear hy299
               by_cases c48 : y296.length + y299.length < 17592186044416
               ·
                rw [if_pos c48] at H
                have LMc48 := m0 c48
                clear c48
                obtain ⟨y303, hy303⟩ : ∃ y_ : List Int, y_ = (y296 ++ y299) := ⟨_, rfl⟩
                replace H : (if t253 = true then ((gutterref10_Nums.f kj17 t278 y303).bind fun t306 => (if t306 = true then (if t288 = 0 then (if t291 = 0 then (if t286 = t289 then (some (t287 == t290)) else (some false)) else (some false)) else (some false)) else (some false))) else (some false)) = some r := by first | (rw [hy303]; with_reducible exact H) | (have H2_ := (Option.bind_some _ _).symm.trans H; rw [hy303]; with_reducible exact H2_) | (have H2_ := (Option.bind_some _ _).symm.trans H; with_reducible exact H2_) | with_reducible exact H | (rw [hy303]; exact H) | exact H
                have Ny303 := m0 hy303
                clear hy303
                by_cases c49 : t253 = true
                ·
                 subst c49
                 have H1 : ((gutterref10_Nums.f kj17 t278 y303).bind fun t306 => (if t306 = true then (if t288 = 0 then (if t291 = 0 then (if t286 = t289 then (some (t287 == t290)) else (some false)) else (some false)) else (some false)) else (some false))) = some r := by rw [if_pos rfl] at H; exact H
                 clear H
                 have H := H1
                 clear H1
                 replace H := Option.bind_eq_some_iff.mp H
                 obtain ⟨t306, A500, H⟩ := H
                 replace H : (if t306 = true then (if t288 = 0 then (if t291 = 0 then (if t286 = t289 then (some (t287 == t290)) else (some false)) else (some false)) else (some false)) else (some false)) = some r := H
                 have A50 := m0 A500
                 clear A500
                 by_cases c51 : t306 = true
                 ·
                  subst c51
                  have H1 : (if t288 = 0 then (if t291 = 0 then (if t286 = t289 then (some (t287 == t290)) else (some false)) else (some false)) else (some false)) = some r := by rw [if_pos rfl] at H; exact H
                  clear H
                  have H := H1
                  clear H1
                  by_cases c52 : t288 = 0
                  ·
                   rw [if_pos c52] at H
                   have c52b0 : (t288 == 0) = true := beq_iff_eq.mpr c52
                   have c52b1 : (t288 != 0) = false := bne_eq_false_iff_eq.mpr c52
                   clear c52
                   by_cases c53 : t291 = 0
                   ·
                    rw [if_pos c53] at H
                    have c53b0 : (t291 == 0) = true := beq_iff_eq.mpr c53
                    have c53b1 : (t291 != 0) = false := bne_eq_false_iff_eq.mpr c53
                    clear c53
                    by_cases c54 : t286 = t289
                    ·
                     rw [if_pos c54] at H
                     have c54b0 : (t286 == t289) = true := beq_iff_eq.mpr c54
                     have c54b1 : (t286 != t289) = false := bne_eq_false_iff_eq.mpr c54
                     clear c54
                     obtain rfl := Option.some.inj H
                     try go_wp2
                     have n0_ := m0 (rD HO_7.out)
                     have n1_ := m0 (rD HO_9.out)
                     have n2_ := m0 (bD HB.out)
                     clear HO_7
                     clear HO_9
                     clear HB
                     have HO_7 := n0_
                     have HO_9 := n1_
                     have HB := n2_
                     clear n0_ n1_ n2_
                     obtain ⟨Ao57, co57, eo57⟩ := Kd.R_slice HO_9.out
                     (first | subst eo57 | (injection eo57 with f1_ f2_ f3_; have f4_ := f1_.symm; have f5_ := f3_.symm; clear f1_ f2_ f3_; subst f4_; subst f5_))
                     have q56 : (ji5 : Int) ≤ ((t282.length : Int) : Int) := oT (by first | (with_reducible assumption) | assumption)
                     obtain ⟨i056, hi056, _, hsz56, _⟩ := info_parts info2
                     have hroom56 : t282.length ≤ co57 := (rR HO_9.out).2.1
                     have hC56 : Kd.C (Kd.int .i64) _ Ao57 t282.length t282 := (rR HO_9.out).2.2
                     have hcut56 := cut_to (P := Tryd.prog) 22 2 .i64 Tryd.underlying22 hi056 Ao57 t282.length co57 ji5 (oT (by first | (with_reducible assumption) | assumption)) q56 hroom56
                     have hr56 := Kd.C_take (m := (ji5 : Int).toNat) hC56 (by omega)
                     have hy56 : y292.length = (ji5 : Int).toNat := (by rw [Ny292.out, List.length_take]; omega)
                     rw [← Ny292.out] at hr56
                     rw [← hy56] at hcut56
                     have HR295 := m0 hr56
                     have HC295 := m0 (show y292.length ≤ co57 from by omega)
                     clear hr56 hC56 hroom56 hi056 hsz56
                     have KY56 := m0 hy56
                     clear hy56
                     have KL56 := m0 (show (ji5 : Int).toNat ≤ t282.length from by omega)
                     replace q56 := eq_true q56
                     have q58 : ((ji45) : Int) ≤ ((t282.length : Int) : Int) := oT (by first | (with_reducible assumption) | assumption)
                     obtain ⟨i058, hi058, _, hsz58, _⟩ := info_parts info2
                     have hroom58 : t282.length ≤ co57 := (rR HO_9.out).2.1
                     have hC58 : Kd.C (Kd.int .i64) _ Ao57 t282.length t282 := (rR HO_9.out).2.2
                     have q058 : (0 : Int) ≤ ((ji45) : Int) := oT (by first | (with_reducible assumption) | assumption)
                     have hcut58 := cut_from (P := Tryd.prog) 22 2 .i64 Tryd.underlying22 hi058 1 hsz58 Ao57 t282.length co57 (ji45) q058 q58
                     have hr58 := Kd.C_drop (m := ((ji45) : Int).toNat) (c := co57) hC58 (by omega) hroom58
                     obtain ⟨A58, hA58⟩ : ∃ A1, A1 = (if co57 = ((ji45) : Int).toNat then Ao57 else (Ao57 : Option Addr).map (·.add (((ji45) : Int).toNat * 1))) := ⟨_, rfl⟩
                     obtain ⟨c58, hc58⟩ : ∃ c1, c1 = co57 - ((ji45) : Int).toNat := ⟨_, rfl⟩
                     have hy58 : y299.length = t282.length - ((ji45) : Int).toNat := (by rw [Ny299.out, List.length_drop] <;> omega)
                     rw [show (t282).drop ((ji45) : Int).toNat = y299 from Ny299.out.symm] at hr58
                     replace hr58 : Kd.C (Kd.int .i64) _ A58 y299.length y299 := (by rw [hA58]; exact hr58)
                     rw [← hy58, ← hA58, ← hc58] at hcut58
                     have HR302 := m0 hr58
                     have HC302 := m0 (show y299.length ≤ c58 from by rw [hy58, hc58]; exact Nat.sub_le_sub_right hroom58 _)
                     clear hr58 hC58 hroom58 hi058 hsz58 hc58
                     have KY58 := m0 hy58
                     have KA58 := m0 hA58
                     clear hy58 hA58
                     have KL58 := m0 (show ((ji45) : Int).toNat ≤ t282.length from by omega)
                     replace q58 := eq_true q58
                     refine start_ (n := 11) (S := fun w' => True) (ds := []) #[false, false, false, false, false, false, false, false, false, false, false] (by kernel_rfl) rfl rfl trivial (fun hHeld => ?_); refine with_tabW gutterlaw10_MarginNothing.tab15 gutterlaw10_MarginNothing.bits15 (fun HT_ HW_ => ?_)
                     generalize wc.drew = w55 at HO_7 HO_9 HB HR295 HR302 hHeld ⊢
                     refine pure_ (i := 0) (N := some 94) (v := ?_) (a' := ?_) #[true, false, false, false, false, false, false, false, false, false, false] rfl rfl (any_of HT_.out (by kernel_rfl)) (fun _ _ _ h => h) (Or.inl ⟨by rfl, ?_⟩) ?_ ?_
                     rotate_left
                     ·
                      intro w'
                      go_simp
                      with_reducible rfl
                     rotate_left
                     ·
                      simp only [Act.put, sT, s0, sS, i64_w, i32_w]
                      rfl
                     refine pure_ (i := 1) (N := some 95) (v := ?_) (a' := ?_) #[true, true, false, false, false, false, false, false, false, false, false] rfl rfl (any_of HT_.out (by kernel_rfl)) (fun _ _ _ h => h) (Or.inl ⟨by rfl, ?_⟩) ?_ ?_
                     rotate_left
                     ·
                      intro w'
                      go_simp
                      with_reducible rfl
                     rotate_left
                     ·
                      simp only [Act.put, sT, s0, sS, i64_w, i32_w]
                      rfl
                     refine pure_ (i := 2) (N := some 96) (v := ?_) (a' := ?_) #[true, true, true, false, false, false, false, false, false, false, false] rfl rfl (any_of HT_.out (by kernel_rfl)) (fun _ _ _ h => h) (Or.inl ⟨by rfl, ?_⟩) ?_ ?_
                     rotate_left
                     ·
                      intro w'
                      go_simp
                      with_reducible rfl
                     rotate_left
                     ·
                      simp only [Act.put, sT, s0, sS, i64_w, i32_w]
                      rfl
                     refine pure_ (i := 3) (N := some 97) (v := ?_) (a' := ?_) #[true, true, true, true, false, false, false, false, false, false, false] rfl rfl (any_of HT_.out (by kernel_rfl)) (fun _ _ _ h => h) (Or.inl ⟨by rfl, ?_⟩) ?_ ?_
                     rotate_left
                     ·
                      intro w'
                      go_simp
                      with_reducible rfl
                     rotate_left
                     ·
                      simp only [Act.put, sT, s0, sS, i64_w, i32_w]
                      rfl
                     refine pure_ (i := 5) (N := some 99) (v := ?_) (a' := ?_) #[true, true, true, true, false, true, false, false, false, false, false] rfl rfl (any_of HT_.out (by kernel_rfl)) (fun _ _ _ h => h) (Or.inl ⟨by rfl, ?_⟩) ?_ ?_
                     rotate_left
                     ·
                      intro w'
                      go_simp
                      with_reducible rfl
                     rotate_left
                     ·
                      simp only [Act.put, sT, s0, sS, i64_w, i32_w]
                      rfl
                     refine pure_ (i := 6) (N := some 100) (v := ?_) (a' := ?_) #[true, true, true, true, false, true, true, false, false, false, false] rfl rfl (any_of HT_.out (by kernel_rfl)) (fun _ _ _ h => h) (Or.inl ⟨by rfl, ?_⟩) ?_ ?_
                     rotate_left
                     ·
                      intro w'
                      go_simp
                      with_reducible rfl
                     rotate_left
                     ·
                      simp only [Act.put, sT, s0, sS, i64_w, i32_w]
                      rfl
                     refine pure_ (i := 7) (N := some 101) (v := ?_) (a' := ?_) #[true, true, true, true, false, true, true, true, false, false, false] rfl rfl (any_of HT_.out (by kernel_rfl)) (fun _ _ _ h => h) (Or.inl ⟨by rfl, ?_⟩) ?_ ?_
                     rotate_left
                     ·
                      intro w'
                      go_simp
                      with_reducible rfl
                     rotate_left
                     ·
                      simp only [Act.put, sT, s0, sS, i64_w, i32_w]
                      rfl
                     refine pure_ (i := 8) (N := some 102) (v := ?_) (a' := ?_) #[true, true, true, true, false, true, true, true, true, false, false] rfl rfl (any_of HT_.out (by kernel_rfl)) (fun _ _ _ h => h) (Or.inl ⟨by rfl, ?_⟩) ?_ ?_
                     rotate_left
                     ·
                      intro w'
                      go_simp
                      with_reducible rfl
                     rotate_left
                     ·
                      simp only [Act.put, sT, s0, sS, i64_w, i32_w]
                      rfl
                     refine one_ (i := 4) (N := some 98) #[true, true, true, true, true, true, true, true, true, false, false] rfl rfl (one_of HT_.out (by kernel_rfl)) (by decide) (fun K hK => ?_)
                     refine Kd.R_append_rows_step (Kd.int .i64) (w0 := w) w.heap.size (by rfl) (.tmp 94) (.tmp 97) 22 2 (.int .i64 0) 8 rfl Tryd.underlying22 info2 rfl (by decide) (by omega) (.slice none 0 0) ([] : List Int) y292 _ _ _ (fun k_ => some k_ ≠ (v280 : Value).ownBlock ∧ some k_ ≠ (.slice Ao57 t282.length co57 : Value).ownBlock) (fun _ => False) rfl rfl ?aO ?aR (fun _ _ h => h) (fun _ h => h.elim) ?aF ?aB ?aS ?aL ?_
                     (case aR => repeat (first | exact (by repeat (first | (with_reducible exact HR295.out) | (with_reducible refine cA ?_ _) | (with_reducible refine cN ?_ _) | (with_reducible refine cD ?_) | exact HR295.out)) | (with_reducible refine cA ?_ _) | (with_reducible refine cN ?_ _) | (with_reducible refine cD ?_)))
                     (case aB => exact (by repeat first | exact HB.out | apply bA | apply bN | apply bD))
                     (case aF => exact (fun k_ hk => ⟨Kd.fresh' (rT (by (with_reducible repeat first | apply rA | apply rN | apply rD); exact HO_7.out)) k_ hk, Kd.fresh' (rT (by (with_reducible repeat first | apply rA | apply rN | apply rD); exact HO_9.out)) k_ hk⟩))
                     (case aO => exact ((Kd.R_nil _ _ _ _ (fun k_ => some k_ ≠ (v280 : Value).ownBlock ∧ some k_ ≠ (.slice Ao57 t282.length co57 : Value).ownBlock))))
                     (case aS => exact (bZ (by repeat first | exact HB.out | apply bA | apply bN | apply bD)))
                     (case aL => have := LMc44.out; omega)
                     intro v297 w59 ho hb hg hat
                     rw [← Ny296.out] at ho
                     have n0_ := m0 (Kd.R_after (Kd.R_apart_nil (by (with_reducible repeat first | apply rA | apply rN | apply rD); exact HO_7.out)) hg hat)
                     have n1_ := m0 (Kd.R_after (Kd.R_apart_nil (by (with_reducible repeat first | apply rA | apply rN | apply rD); exact HO_9.out)) hg hat)
                     have n2_ := m0 (hb)
                     have n3_ := m0 ((show Kd.C (Kd.int .i64) w59 Ao57 y292.length y292 from by rw [Ny292.out]; exact Kd.C_take (m := (ji5 : Int).toNat) ((rR (Kd.R_after (Kd.R_apart_nil (by (with_reducible repeat first | apply rA | apply rN | apply rD); exact HO_9.out)) hg hat)).2.2) KL56.out))
                     have n4_ := m0 ((show Kd.C (Kd.int .i64) w59 A58 y299.length y299 from by rw [Ny299.out, KA58.out]; exact Kd.C_drop (m := ((ji45) : Int).toNat) (c := co57) ((rR (Kd.R_after (Kd.R_apart_nil (by (with_reducible repeat first | apply rA | apply rN | apply rD); exact HO_9.out)) hg hat)).2.2) KL58.out ((rR (Kd.R_after (Kd.R_apart_nil (by (with_reducible repeat first | apply rA | apply rN | apply rD); exact HO_9.out)) hg hat)).2.1)))
                     have n5_ := m0 (ho)
                     clear HO_7
                     clear HO_9
                     clear HB
                     clear HR295
                     clear HR302
                     have HO_7 := n0_
                     have HO_9 := n1_
                     have HB := n2_
                     have HR295 := n3_
                     have HR302 := n4_
                     have HO298 := n5_
                     clear n0_ n1_ n2_ n3_ n4_ n5_
                     clear ho hb hg hat
                     refine hK.out _ _ trivial (fun hHeld => ?_)
                     clear hK K
                     refine norm_ (a' := ?_) ?_ ?_
                     rotate_left
                     ·
                      show Act.put _ (some 98) _ = _
                      simp only [Act.put, sT, s0, sS, i64_w, i32_w]
                      rfl
                     refine one_ (i := 9) (N := some 103) #[true, true, true, true, true, true, true, true, true, true, false] rfl rfl (one_of HT_.out (by kernel_rfl)) (by decide) (fun K hK => ?_)
                     refine Kd.R_append_rows_step (Kd.int .i64) (w0 := w) w.heap.size (by rfl) (.tmp 98) (.tmp 102) 22 2 (.int .i64 0) 8 rfl Tryd.underlying22 info2 rfl (by decide) (by omega) v297 y296 y299 _ _ _ (fun k_ => some k_ ≠ (v280 : Value).ownBlock ∧ some k_ ≠ (.slice Ao57 t282.length co57 : Value).ownBlock) (fun _ => False) rfl rfl ?aO ?aR (fun _ _ h => h) (fun _ h => h.elim) ?aF ?aB ?aS ?aL ?_
                     (case aR => repeat (first | exact (by repeat (first | (with_reducible exact HR302.out) | (with_reducible refine cA ?_ _) | (with_reducible refine cN ?_ _) | (with_reducible refine cD ?_) | exact HR302.out)) | (with_reducible refine cA ?_ _) | (with_reducible refine cN ?_ _) | (with_reducible refine cD ?_)))
                     (case aB => exact (by repeat first | exact HB.out | apply bA | apply bN | apply bD))
                     (case aF => exact (fun k_ hk => ⟨Kd.fresh' (rT (by (with_reducible repeat first | apply rA | apply rN | apply rD); exact HO_7.out)) k_ hk, Kd.fresh' (rT (by (with_reducible repeat first | apply rA | apply rN | apply rD); exact HO_9.out)) k_ hk⟩))
                     (case aO => exact (by (with_reducible repeat first | apply rA | apply rN | apply rD); exact HO298.out))
                     (case aS => exact (bZ (by repeat first | exact HB.out | apply bA | apply bN | apply bD)))
                     (case aL => have := LMc48.out; omega)
                     intro v304 w60 ho hb hg hat
                     rw [← Ny303.out] at ho
                     have n0_ := m0 (Kd.R_after (ok := (fun k_ => some k_ ≠ (.slice Ao57 t282.length co57 : Value).ownBlock)) (by (with_reducible repeat first | apply rA | apply rN | apply rD); exact HO_7.out) hg hat)
                     have n1_ := m0 (Kd.R_after (ok := (fun k_ => some k_ ≠ (v280 : Value).ownBlock)) (by (with_reducible repeat first | apply rA | apply rN | apply rD); exact HO_9.out) hg hat)
                     have n2_ := m0 (hb)
                     have n3_ := m0 ((show Kd.C (Kd.int .i64) w60 Ao57 y292.length y292 from by rw [Ny292.out]; exact Kd.C_take (m := (ji5 : Int).toNat) ((rR (Kd.R_after (ok := (fun k_ => some k_ ≠ (v280 : Value).ownBlock)) (by (with_reducible repeat first | apply rA | apply rN | apply rD); exact HO_9.out) hg hat)).2.2) KL56.out))
                     have n4_ := m0 ((show Kd.C (Kd.int .i64) w60 A58 y299.length y299 from by rw [Ny299.out, KA58.out]; exact Kd.C_drop (m := ((ji45) : Int).toNat) (c := co57) ((rR (Kd.R_after (ok := (fun k_ => some k_ ≠ (v280 : Value).ownBlock)) (by (with_reducible repeat first | apply rA | apply rN | apply rD); exact HO_9.out) hg hat)).2.2) KL58.out ((rR (Kd.R_after (ok := (fun k_ => some k_ ≠ (v280 : Value).ownBlock)) (by (with_reducible repeat first | apply rA | apply rN | apply rD); exact HO_9.out) hg hat)).2.1)))
                     have n5_ := m0 (ho)
                     clear HO_7
                     clear HO_9
                     clear HB
                     clear HR295
                     clear HR302
                     clear HO298
                     have HO_7 := n0_
                     have HO_9 := n1_
                     have HB := n2_
                     have HR295 := n3_
                     have HR302 := n4_
                     have HO305 := n5_
                     clear n0_ n1_ n2_ n3_ n4_ n5_
                     clear ho hb hg hat
                     refine hK.out _ _ trivial (fun hHeld => ?_)
                     clear hK K
                     refine norm_ (a' := ?_) ?_ ?_
                     rotate_left
                     ·
                      show Act.put _ (some 103) _ = _
                      simp only [Act.put, sT, s0, sS, i64_w, i32_w]
                      rfl
                     refine pure_ (i := 10) (N := some 17) (v := ?_) (a' := ?_) #[true, true, true, true, true, true, true, true, true, true, true] rfl rfl (any_of HT_.out (by kernel_rfl)) (fun _ _ _ h => h) (Or.inl ⟨by rfl, ?_⟩) ?_ ?_
                     rotate_left
                     ·
                      intro w'
                      go_simp
                      with_reducible rfl
                     rotate_left
                     ·
                      simp only [Act.put, sT, s0, sS, i64_w, i32_w]
                      rfl
                     refine done_ (done_of HT_.out (by kernel_rfl)) ?_
                     obtain ⟨Ao61, co61, eo61⟩ := Kd.R_slice HO_7.out
                     subst eo61
                     obtain ⟨Ao62, co62, eo62⟩ := Kd.R_slice HO305.out
                     subst eo62
                     try go_wp2_with (first | (go_at_call 23; refine calls_of_args (args' := #[.slice Ao61 t278.length co61, .slice Ao62 y303.length co62]) (by (try simp only [List.map_toArray, List.map_cons, List.map_nil]); first | done | rfl | (simp only [List.length_drop, List.length_take]; rfl)) ?_; (with_reducible refine (gutterref10_Nums.calls kj17 _ _ t278 _ _ y303 true _ ?side1 ?side2 ?side3 ?side4 A50.out).mono ?_); (case side1 => repeat (first | exact (rR HO_7.out).2.2 | (with_reducible refine cA ?_ _) | (with_reducible refine cN ?_ _) | (with_reducible refine cD ?_))); (case side2 => exact (rR HO_7.out).2.1); (case side3 => repeat (first | exact (rR HO305.out).2.2 | (with_reducible refine cA ?_ _) | (with_reducible refine cN ?_ _) | (with_reducible refine cD ?_))); (case side4 => exact (rR HO305.out).2.1); rintro e w' ⟨rfl, ⟨nd, rfl⟩⟩))
                     go_ret
                     exact ⟨by first | rfl | (simp [errW_none, errW_some] <;> rfl) | (simp only [← hji4, ← hji5, ← hji45]; first | rfl | (simp [errW_none, errW_some] <;> rfl)) | (simp [*, errW_none, errW_some] <;> rfl), by repeat first | exact HB.out | apply bA | apply bN | apply bD⟩
                    ·
                     rw [if_neg c54] at H
                     have c54b0 : (t286 == t289) = false := beq_eq_false_iff_ne.mpr c54
                     have c54b1 : (t286 != t289) = true := bne_iff_ne.mpr c54
                     obtain rfl := Option.some.inj H
                     try go_wp2
                     have n0_ := m0 (rD HO_7.out)
                     have n1_ := m0 (rD HO_9.out)
                     have n2_ := m0 (bD HB.out)
                     clear HO_7
                     clear HO_9
                     clear HB
                     have HO_7 := n0_
                     have HO_9 := n1_
                     have HB := n2_
                     clear n0_ n1_ n2_
                     obtain ⟨Ao65, co65, eo65⟩ := Kd.R_slice HO_9.out
                     (first | subst eo65 | (injection eo65 with f1_ f2_ f3_; have f4_ := f1_.symm; have f5_ := f3_.symm; clear f1_ f2_ f3_; subst f4_; subst f5_))
                     have q64 : (ji5 : Int) ≤ ((t282.length : Int) : Int) := oT (by first | (with_reducible assumption) | assumption)
                     obtain ⟨i064, hi064, _, hsz64, _⟩ := info_parts info2
                     have hroom64 : t282.length ≤ co65 := (rR HO_9.out).2.1
                     have hC64 : Kd.C (Kd.int .i64) _ Ao65 t282.length t282 := (rR HO_9.out).2.2
                     have hcut64 := cut_to (P := Tryd.prog) 22 2 .i64 Tryd.underlying22 hi064 Ao65 t282.length co65 ji5 (oT (by first | (with_reducible assumption) | assumption)) q64 hroom64
                     have hr64 := Kd.C_take (m := (ji5 : Int).toNat) hC64 (by omega)
                     have hy64 : y292.length = (ji5 : Int).toNat := (by rw [Ny292.out, List.length_take]; omega)
                     rw [← Ny292.out] at hr64
                     rw [← hy64] at hcut64
                     have HR295 := m0 hr64
                     have HC295 := m0 (show y292.length ≤ co65 from by omega)
                     clear hr64 hC64 hroom64 hi064 hsz64
                     have KY64 := m0 hy64
                     clear hy64
                     have KL64 := m0 (show (ji5 : Int).toNat ≤ t282.length from by omega)
                     replace q64 := eq_true q64
                     have q66 : ((ji45) : Int) ≤ ((t282.length : Int) : Int) := oT (by first | (with_reducible assumption) | assumption)
                     obtain ⟨i066, hi066, _, hsz66, _⟩ := info_parts info2
                     have hroom66 : t282.length ≤ co65 := (rR HO_9.out).2.1
                     have hC66 : Kd.C (Kd.int .i64) _ Ao65 t282.length t282 := (rR HO_9.out).2.2
                     have q066 : (0 : Int) ≤ ((ji45) : Int) := oT (by first | (with_reducible assumption) | assumption)
                     have hcut66 := cut_from (P := Tryd.prog) 22 2 .i64 Tryd.underlying22 hi066 1 hsz66 Ao65 t282.length co65 (ji45) q066 q66
                     have hr66 := Kd.C_drop (m := ((ji45) : Int).toNat) (c := co65) hC66 (by omega) hroom66
                     obtain ⟨A66, hA66⟩ : ∃ A1, A1 = (if co65 = ((ji45) : Int).toNat then Ao65 else (Ao65 : Option Addr).map (·.add (((ji45) : Int).toNat * 1))) := ⟨_, rfl⟩
                     obtain ⟨c66, hc66⟩ : ∃ c1, c1 = co65 - ((ji45) : Int).toNat := ⟨_, rfl⟩
                     have hy66 : y299.length = t282.length - ((ji45) : Int).toNat := (by rw [Ny299.out, List.length_drop] <;> omega)
                     rw [show (t282).drop ((ji45) : Int).toNat = y299 from Ny299.out.symm] at hr66
                     replace hr66 : Kd.C (Kd.int .i64) _ A66 y299.length y299 := (by rw [hA66]; exact hr66)
                     rw [← hy66, ← hA66, ← hc66] at hcut66
                     have HR302 := m0 hr66
                     have HC302 := m0 (show y299.length ≤ c66 from by rw [hy66, hc66]; exact Nat.sub_le_sub_right hroom66 _)
                     clear hr66 hC66 hroom66 hi066 hsz66 hc66
                     have KY66 := m0 hy66
                     have KA66 := m0 hA66
                     clear hy66 hA66
                     have KL66 := m0 (show ((ji45) : Int).toNat ≤ t282.length from by omega)
                     replace q66 := eq_true q66
                     refine start_ (n := 11) (S := fun w' => True) (ds := []) #[false, false, false, false, false, false, false, false, false, false, false] (by kernel_rfl) rfl rfl trivial (fun hHeld => ?_); refine with_tabW gutterlaw10_MarginNothing.tab15 gutterlaw10_MarginNothing.bits15 (fun HT_ HW_ => ?_)
                     generalize wc.drew = w63 at HO_7 HO_9 HB HR295 HR302 hHeld ⊢
                     refine pure_ (i := 0) (N := some 94) (v := ?_) (a' := ?_) #[true, false, false, false, false, false, false, false, false, false, false] rfl rfl (any_of HT_.out (by kernel_rfl)) (fun _ _ _ h => h) (Or.inl ⟨by rfl, ?_⟩) ?_ ?_
                     rotate_left
                     ·
                      intro w'
                      go_simp
                      with_reducible rfl
                     rotate_left
                     ·
                      simp only [Act.put, sT, s0, sS, i64_w, i32_w]
                      rfl
                     refine pure_ (i := 1) (N := some 95) (v := ?_) (a' := ?_) #[true, true, false, false, false, false, false, false, false, false, false] rfl rfl (any_of HT_.out (by kernel_rfl)) (fun _ _ _ h => h) (Or.inl ⟨by rfl, ?_⟩) ?_ ?_
                     rotate_left
                     ·
                      intro w'
                      go_simp
                      with_reducible rfl
                     rotate_left
                     ·
                      simp only [Act.put, sT, s0, sS, i64_w, i32_w]
                      rfl
                     refine pure_ (i := 2) (N := some 96) (v := ?_) (a' := ?_) #[true, true, true, false, false, false, false, false, false, false, false] rfl rfl (any_of HT_.out (by kernel_rfl)) (fun _ _ _ h => h) (Or.inl ⟨by rfl, ?_⟩) ?_ ?_
                     rotate_left
                     ·
                      intro w'
                      go_simp
                      with_reducible rfl
                     rotate_left
                     ·
                      simp only [Act.put, sT, s0, sS, i64_w, i32_w]
                      rfl
                     refine pure_ (i := 3) (N := some 97) (v := ?_) (a' := ?_) #[true, true, true, true, false, false, false, false, false, false, false] rfl rfl (any_of HT_.out (by kernel_rfl)) (fun _ _ _ h => h) (Or.inl ⟨by rfl, ?_⟩) ?_ ?_
                     rotate_left
                     ·
                      intro w'
                      go_simp
                      with_reducible rfl
                     rotate_left
                     ·
                      simp only [Act.put, sT, s0, sS, i64_w, i32_w]
                      rfl
                     refine pure_ (i := 5) (N := some 99) (v := ?_) (a' := ?_) #[true, true, true, true, false, true, false, false, false, false, false] rfl rfl (any_of HT_.out (by kernel_rfl)) (fun _ _ _ h => h) (Or.inl ⟨by rfl, ?_⟩) ?_ ?_
                     rotate_left
                     ·
                      intro w'
                      go_simp
                      with_reducible rfl
                     rotate_left
                     ·
                      simp only [Act.put, sT, s0, sS, i64_w, i32_w]
                      rfl
                     refine pure_ (i := 6) (N := some 100) (v := ?_) (a' := ?_) #[true, true, true, true, false, true, true, false, false, false, false] rfl rfl (any_of HT_.out (by kernel_rfl)) (fun _ _ _ h => h) (Or.inl ⟨by rfl, ?_⟩) ?_ ?_
                     rotate_left
                     ·
                      intro w'
                      go_simp
                      with_reducible rfl
                     rotate_left
                     ·
                      simp only [Act.put, sT, s0, sS, i64_w, i32_w]
                      rfl
                     refine pure_ (i := 7) (N := some 101) (v := ?_) (a' := ?_) #[true, true, true, true, false, true, true, true, false, false, false] rfl rfl (any_of HT_.out (by kernel_rfl)) (fun _ _ _ h => h) (Or.inl ⟨by rfl, ?_⟩) ?_ ?_
                     rotate_left
                     ·
                      intro w'
                      go_simp
                      with_reducible rfl
                     rotate_left
                     ·
                      simp only [Act.put, sT, s0, sS, i64_w, i32_w]
                      rfl
                     refine pure_ (i := 8) (N := some 102) (v := ?_) (a' := ?_) #[true, true, true, true, false, true, true, true, true, false, false] rfl rfl (any_of HT_.out (by kernel_rfl)) (fun _ _ _ h => h) (Or.inl ⟨by rfl, ?_⟩) ?_ ?_
                     rotate_left
                     ·
                      intro w'
                      go_simp
                      with_reducible rfl
                     rotate_left
                     ·
                      simp only [Act.put, sT, s0, sS, i64_w, i32_w]
                      rfl
                     refine one_ (i := 4) (N := some 98) #[true, true, true, true, true, true, true, true, true, false, false] rfl rfl (one_of HT_.out (by kernel_rfl)) (by decide) (fun K hK => ?_)
                     refine Kd.R_append_rows_step (Kd.int .i64) (w0 := w) w.heap.size (by rfl) (.tmp 94) (.tmp 97) 22 2 (.int .i64 0) 8 rfl Tryd.underlying22 info2 rfl (by decide) (by omega) (.slice none 0 0) ([] : List Int) y292 _ _ _ (fun k_ => some k_ ≠ (v280 : Value).ownBlock ∧ some k_ ≠ (.slice Ao65 t282.length co65 : Value).ownBlock) (fun _ => False) rfl rfl ?aO ?aR (fun _ _ h => h) (fun _ h => h.elim) ?aF ?aB ?aS ?aL ?_
                     (case aR => repeat (first | exact (by repeat (first | (with_reducible exact HR295.out) | (with_reducible refine cA ?_ _) | (with_reducible refine cN ?_ _) | (with_reducible refine cD ?_) | exact HR295.out)) | (with_reducible refine cA ?_ _) | (with_reducible refine cN ?_ _) | (with_reducible refine cD ?_)))
                     (case aB => exact (by repeat first | exact HB.out | apply bA | apply bN | apply bD))
                     (case aF => exact (fun k_ hk => ⟨Kd.fresh' (rT (by (with_reducible repeat first | apply rA | apply rN | apply rD); exact HO_7.out)) k_ hk, Kd.fresh' (rT (by (with_reducible repeat first | apply rA | apply rN | apply rD); exact HO_9.out)) k_ hk⟩))
                     (case aO => exact ((Kd.R_nil _ _ _ _ (fun k_ => some k_ ≠ (v280 : Value).ownBlock ∧ some k_ ≠ (.slice Ao65 t282.length co65 : Value).ownBlock))))
                     (case aS => exact (bZ (by repeat first | exact HB.out | apply bA | apply bN | apply bD)))
                     (case aL => have := LMc44.out; omega)
                     intro v297 w67 ho hb hg hat
                     rw [← Ny296.out] at ho
                     have n0_ := m0 (Kd.R_after (Kd.R_apart_nil (by (with_reducible repeat first | apply rA | apply rN | apply rD); exact HO_7.out)) hg hat)
                     have n1_ := m0 (Kd.R_after (Kd.R_apart_nil (by (with_reducible repeat first | apply rA | apply rN | apply rD); exact HO_9.out)) hg hat)
                     have n2_ := m0 (hb)
                     have n3_ := m0 ((show Kd.C (Kd.int .i64) w67 Ao65 y292.length y292 from by rw [Ny292.out]; exact Kd.C_take (m := (ji5 : Int).toNat) ((rR (Kd.R_after (Kd.R_apart_nil (by (with_reducible repeat first | apply rA | apply rN | apply rD); exact HO_9.out)) hg hat)).2.2) KL64.out))
                     have n4_ := m0 ((show Kd.C (Kd.int .i64) w67 A66 y299.length y299 from by rw [Ny299.out, KA66.out]; exact Kd.C_drop (m := ((ji45) : Int).toNat) (c := co65) ((rR (Kd.R_after (Kd.R_apart_nil (by (with_reducible repeat first | apply rA | apply rN | apply rD); exact HO_9.out)) hg hat)).2.2) KL66.out ((rR (Kd.R_after (Kd.R_apart_nil (by (with_reducible repeat first | apply rA | apply rN | apply rD); exact HO_9.out)) hg hat)).2.1)))
                     have n5_ := m0 (ho)
                     clear HO_7
                     clear HO_9
                     clear HB
                     clear HR295
                     clear HR302
                     have HO_7 := n0_
                     have HO_9 := n1_
                     have HB := n2_
                     have HR295 := n3_
                     have HR302 := n4_
                     have HO298 := n5_
                     clear n0_ n1_ n2_ n3_ n4_ n5_
                     clear ho hb hg hat
                     refine hK.out _ _ trivial (fun hHeld => ?_)
                     clear hK K
                     refine norm_ (a' := ?_) ?_ ?_
                     rotate_left
                     ·
                      show Act.put _ (some 98) _ = _
                      simp only [Act.put, sT, s0, sS, i64_w, i32_w]
                      rfl
                     refine one_ (i := 9) (N := some 103) #[true, true, true, true, true, true, true, true, true, true, false] rfl rfl (one_of HT_.out (by kernel_rfl)) (by decide) (fun K hK => ?_)
                     refine Kd.R_append_rows_step (Kd.int .i64) (w0 := w) w.heap.size (by rfl) (.tmp 98) (.tmp 102) 22 2 (.int .i64 0) 8 rfl Tryd.underlying22 info2 rfl (by decide) (by omega) v297 y296 y299 _ _ _ (fun k_ => some k_ ≠ (v280 : Value).ownBlock ∧ some k_ ≠ (.slice Ao65 t282.length co65 : Value).ownBlock) (fun _ => False) rfl rfl ?aO ?aR (fun _ _ h => h) (fun _ h => h.elim) ?aF ?aB ?aS ?aL ?_
                     (case aR => repeat (first | exact (by repeat (first | (with_reducible exact HR302.out) | (with_reducible refine cA ?_ _) | (with_reducible refine cN ?_ _) | (with_reducible refine cD ?_) | exact HR302.out)) | (with_reducible refine cA ?_ _) | (with_reducible refine cN ?_ _) | (with_reducible refine cD ?_)))
                     (case aB => exact (by repeat first | exact HB.out | apply bA | apply bN | apply bD))
                     (case aF => exact (fun k_ hk => ⟨Kd.fresh' (rT (by (with_reducible repeat first | apply rA | apply rN | apply rD); exact HO_7.out)) k_ hk, Kd.fresh' (rT (by (with_reducible repeat first | apply rA | apply rN | apply rD); exact HO_9.out)) k_ hk⟩))
                     (case aO => exact (by (with_reducible repeat first | apply rA | apply rN | apply rD); exact HO298.out))
                     (case aS => exact (bZ (by repeat first | exact HB.out | apply bA | apply bN | apply bD)))
                     (case aL => have := LMc48.out; omega)
                     intro v304 w68 ho hb hg hat
                     rw [← Ny303.out] at ho
                     have n0_ := m0 (Kd.R_after (ok := (fun k_ => some k_ ≠ (.slice Ao65 t282.length co65 : Value).ownBlock)) (by (with_reducible repeat first | apply rA | apply rN | apply rD); exact HO_7.out) hg hat)
                     have n1_ := m0 (Kd.R_after (ok := (fun k_ => some k_ ≠ (v280 : Value).ownBlock)) (by (with_reducible repeat first | apply rA | apply rN | apply rD); exact HO_9.out) hg hat)
                     have n2_ := m0 (hb)
                     have n3_ := m0 ((show Kd.C (Kd.int .i64) w68 Ao65 y292.length y292 from by rw [Ny292.out]; exact Kd.C_take (m := (ji5 : Int).toNat) ((rR (Kd.R_after (ok := (fun k_ => some k_ ≠ (v280 : Value).ownBlock)) (by (with_reducible repeat first | apply rA | apply rN | apply rD); exact HO_9.out) hg hat)).2.2) KL64.out))
                     have n4_ := m0 ((show Kd.C (Kd.int .i64) w68 A66 y299.length y299 from by rw [Ny299.out, KA66.out]; exact Kd.C_drop (m := ((ji45) : Int).toNat) (c := co65) ((rR (Kd.R_after (ok := (fun k_ => some k_ ≠ (v280 : Value).ownBlock)) (by (with_reducible repeat first | apply rA | apply rN | apply rD); exact HO_9.out) hg hat)).2.2) KL66.out ((rR (Kd.R_after (ok := (fun k_ => some k_ ≠ (v280 : Value).ownBlock)) (by (with_reducible repeat first | apply rA | apply rN | apply rD); exact HO_9.out) hg hat)).2.1)))
                     have n5_ := m0 (ho)
                     clear HO_7
                     clear HO_9
                     clear HB
                     clear HR295
                     clear HR302
                     clear HO298
                     have HO_7 := n0_
                     have HO_9 := n1_
                     have HB := n2_
                     have HR295 := n3_
                     have HR302 := n4_
                     have HO305 := n5_
                     clear n0_ n1_ n2_ n3_ n4_ n5_
                     clear ho hb hg hat
                     refine hK.out _ _ trivial (fun hHeld => ?_)
                     clear hK K
                     refine norm_ (a' := ?_) ?_ ?_
                     rotate_left
                     ·
                      show Act.put _ (some 103) _ = _
                      simp only [Act.put, sT, s0, sS, i64_w, i32_w]
                      rfl
                     refine pure_ (i := 10) (N := some 17) (v := ?_) (a' := ?_) #[true, true, true, true, true, true, true, true, true, true, true] rfl rfl (any_of HT_.out (by kernel_rfl)) (fun _ _ _ h => h) (Or.inl ⟨by rfl, ?_⟩) ?_ ?_
                     rotate_left
                     ·
                      intro w'
                      go_simp
                      with_reducible rfl
                     rotate_left
                     ·
                      simp only [Act.put, sT, s0, sS, i64_w, i32_w]
                      rfl
                     refine done_ (done_of HT_.out (by kernel_rfl)) ?_
                     obtain ⟨Ao69, co69, eo69⟩ := Kd.R_slice HO_7.out
                     subst eo69
                     obtain ⟨Ao70, co70, eo70⟩ := Kd.R_slice HO305.out
                     subst eo70
                     try go_wp2_with (first | (go_at_call 23; refine calls_of_args (args' := #[.slice Ao69 t278.length co69, .slice Ao70 y303.length co70]) (by (try simp only [List.map_toArray, List.map_cons, List.map_nil]); first | done | rfl | (simp only [List.length_drop, List.length_take]; rfl)) ?_; (with_reducible refine (gutterref10_Nums.calls kj17 _ _ t278 _ _ y303 true _ ?side1 ?side2 ?side3 ?side4 A50.out).mono ?_); (case side1 => repeat (first | exact (rR HO_7.out).2.2 | (with_reducible refine cA ?_ _) | (with_reducible refine cN ?_ _) | (with_reducible refine cD ?_))); (case side2 => exact (rR HO_7.out).2.1); (case side3 => repeat (first | exact (rR HO305.out).2.2 | (with_reducible refine cA ?_ _) | (with_reducible refine cN ?_ _) | (with_reducible refine cD ?_))); (case side4 => exact (rR HO305.out).2.1); rintro e w' ⟨rfl, ⟨nd, rfl⟩⟩))
                     go_ret
                     exact ⟨by first | rfl | (simp [errW_none, errW_some] <;> rfl) | (simp only [← hji4, ← hji5, ← hji45]; first | rfl | (simp [errW_none, errW_some] <;> rfl)) | (simp [*, errW_none, errW_some] <;> rfl), by repeat first | exact HB.out | apply bA | apply bN | apply bD⟩
                   ·
                    rw [if_neg c53] at H
                    have c53b0 : (t291 == 0) = false := beq_eq_false_iff_ne.mpr c53
                    have c53b1 : (t291 != 0) = true := bne_iff_ne.mpr c53
                    obtain rfl := Option.some.inj H
                    try go_wp2
                    have n0_ := m0 (rD HO_7.out)
                    have n1_ := m0 (rD HO_9.out)
                    have n2_ := m0 (bD HB.out)
                    clear HO_7
                    clear HO_9
                    clear HB
                    have HO_7 := n0_
                    have HO_9 := n1_
                    have HB := n2_
                    clear n0_ n1_ n2_
                    obtain ⟨Ao73, co73, eo73⟩ := Kd.R_slice HO_9.out
                    (first | subst eo73 | (injection eo73 with f1_ f2_ f3_; have f4_ := f1_.symm; have f5_ := f3_.symm; clear f1_ f2_ f3_; subst f4_; subst f5_))
                    have q72 : (ji5 : Int) ≤ ((t282.length : Int) : Int) := oT (by first | (with_reducible assumption) | assumption)
                    obtain ⟨i072, hi072, _, hsz72, _⟩ := info_parts info2
                    have hroom72 : t282.length ≤ co73 := (rR HO_9.out).2.1
                    have hC72 : Kd.C (Kd.int .i64) _ Ao73 t282.length t282 := (rR HO_9.out).2.2
                    have hcut72 := cut_to (P := Tryd.prog) 22 2 .i64 Tryd.underlying22 hi072 Ao73 t282.length co73 ji5 (oT (by first | (with_reducible assumption) | assumption)) q72 hroom72
                    have hr72 := Kd.C_take (m := (ji5 : Int).toNat) hC72 (by omega)
                    have hy72 : y292.length = (ji5 : Int).toNat := (by rw [Ny292.out, List.length_take]; omega)
                    rw [← Ny292.out] at hr72
                    rw [← hy72] at hcut72
                    have HR295 := m0 hr72
                    have HC295 := m0 (show y292.length ≤ co73 from by omega)
                    clear hr72 hC72 hroom72 hi072 hsz72
                    have KY72 := m0 hy72
                    clear hy72
                    have KL72 := m0 (show (ji5 : Int).toNat ≤ t282.length from by omega)
                    replace q72 := eq_true q72
                    have q74 : ((ji45) : Int) ≤ ((t282.length : Int) : Int) := oT (by first | (with_reducible assumption) | assumption)
                    obtain ⟨i074, hi074, _, hsz74, _⟩ := info_parts info2
                    have hroom74 : t282.length ≤ co73 := (rR HO_9.out).2.1
                    have hC74 : Kd.C (Kd.int .i64) _ Ao73 t282.length t282 := (rR HO_9.out).2.2
                    have q074 : (0 : Int) ≤ ((ji45) : Int) := oT (by first | (with_reducible assumption) | assumption)
                    have hcut74 := cut_from (P := Tryd.prog) 22 2 .i64 Tryd.underlying22 hi074 1 hsz74 Ao73 t282.length co73 (ji45) q074 q74
                    have hr74 := Kd.C_drop (m := ((ji45) : Int).toNat) (c := co73) hC74 (by omega) hroom74
                    obtain ⟨A74, hA74⟩ : ∃ A1, A1 = (if co73 = ((ji45) : Int).toNat then Ao73 else (Ao73 : Option Addr).map (·.add (((ji45) : Int).toNat * 1))) := ⟨_, rfl⟩
                    obtain ⟨c74, hc74⟩ : ∃ c1, c1 = co73 - ((ji45) : Int).toNat := ⟨_, rfl⟩
                    have hy74 : y299.length = t282.length - ((ji45) : Int).toNat := (by rw [Ny299.out, List.length_drop] <;> omega)
                    rw [show (t282).drop ((ji45) : Int).toNat = y299 from Ny299.out.symm] at hr74
                    replace hr74 : Kd.C (Kd.int .i64) _ A74 y299.length y299 := (by rw [hA74]; exact hr74)
                    rw [← hy74, ← hA74, ← hc74] at hcut74
                    have HR302 := m0 hr74
                    have HC302 := m0 (show y299.length ≤ c74 from by rw [hy74, hc74]; exact Nat.sub_le_sub_right hroom74 _)
                    clear hr74 hC74 hroom74 hi074 hsz74 hc74
                    have KY74 := m0 hy74
                    have KA74 := m0 hA74
                    clear hy74 hA74
                    have KL74 := m0 (show ((ji45) : Int).toNat ≤ t282.length from by omega)
                    replace q74 := eq_true q74
                    refine start_ (n := 11) (S := fun w' => True) (ds := []) #[false, false, false, false, false, false, false, false, false, false, false] (by kernel_rfl) rfl rfl trivial (fun hHeld => ?_); refine with_tabW gutterlaw10_MarginNothing.tab15 gutterlaw10_MarginNothing.bits15 (fun HT_ HW_ => ?_)
                    generalize wc.drew = w71 at HO_7 HO_9 HB HR295 HR302 hHeld ⊢
                    refine pure_ (i := 0) (N := some 94) (v := ?_) (a' := ?_) #[true, false, false, false, false, false, false, false, false, false, false] rfl rfl (any_of HT_.out (by kernel_rfl)) (fun _ _ _ h => h) (Or.inl ⟨by rfl, ?_⟩) ?_ ?_
                    rotate_left
                    ·
                     intro w'
                     go_simp
                     with_reducible rfl
                    rotate_left
                    ·
                     simp only [Act.put, sT, s0, sS, i64_w, i32_w]
                     rfl
                    refine pure_ (i := 1) (N := some 95) (v := ?_) (a' := ?_) #[true, true, false, false, false, false, false, false, false, false, false] rfl rfl (any_of HT_.out (by kernel_rfl)) (fun _ _ _ h => h) (Or.inl ⟨by rfl, ?_⟩) ?_ ?_
                    rotate_left
                    ·
                     intro w'
                     go_simp
                     with_reducible rfl
                    rotate_left
                    ·
                     simp only [Act.put, sT, s0, sS, i64_w, i32_w]
                     rfl
                    refine pure_ (i := 2) (N := some 96) (v := ?_) (a' := ?_) #[true, true, true, false, false, false, false, false, false, false, false] rfl rfl (any_of HT_.out (by kernel_rfl)) (fun _ _ _ h => h) (Or.inl ⟨by rfl, ?_⟩) ?_ ?_
                    rotate_left
                    ·
                     intro w'
                     go_simp
                     with_reducible rfl
                    rotate_left
                    ·
                     simp only [Act.put, sT, s0, sS, i64_w, i32_w]
                     rfl
                    refine pure_ (i := 3) (N := some 97) (v := ?_) (a' := ?_) #[true, true, true, true, false, false, false, false, false, false, false] rfl rfl (any_of HT_.out (by kernel_rfl)) (fun _ _ _ h => h) (Or.inl ⟨by rfl, ?_⟩) ?_ ?_
                    rotate_left
                    ·
                     intro w'
                     go_simp
                     with_reducible rfl
                    rotate_left
                    ·
                     simp only [Act.put, sT, s0, sS, i64_w, i32_w]
                     rfl
                    refine pure_ (i := 5) (N := some 99) (v := ?_) (a' := ?_) #[true, true, true, true, false, true, false, false, false, false, false] rfl rfl (any_of HT_.out (by kernel_rfl)) (fun _ _ _ h => h) (Or.inl ⟨by rfl, ?_⟩) ?_ ?_
                    rotate_left
                    ·
                     intro w'
                     go_simp
                     with_reducible rfl
                    rotate_left
                    ·
                     simp only [Act.put, sT, s0, sS, i64_w, i32_w]
                     rfl
                    refine pure_ (i := 6) (N := some 100) (v := ?_) (a' := ?_) #[true, true, true, true, false, true, true, false, false, false, false] rfl rfl (any_of HT_.out (by kernel_rfl)) (fun _ _ _ h => h) (Or.inl ⟨by rfl, ?_⟩) ?_ ?_
                    rotate_left
                    ·
                     intro w'
                     go_simp
                     with_reducible rfl
                    rotate_left
                    ·
                     simp only [Act.put, sT, s0, sS, i64_w, i32_w]
                     rfl
                    refine pure_ (i := 7) (N := some 101) (v := ?_) (a' := ?_) #[true, true, true, true, false, true, true, true, false, false, false] rfl rfl (any_of HT_.out (by kernel_rfl)) (fun _ _ _ h => h) (Or.inl ⟨by rfl, ?_⟩) ?_ ?_
                    rotate_left
                    ·
                     intro w'
                     go_simp
                     with_reducible rfl
                    rotate_left
                    ·
                     simp only [Act.put, sT, s0, sS, i64_w, i32_w]
                     rfl
                    refine pure_ (i := 8) (N := some 102) (v := ?_) (a' := ?_) #[true, true, true, true, false, true, true, true, true, false, false] rfl rfl (any_of HT_.out (by kernel_rfl)) (fun _ _ _ h => h) (Or.inl ⟨by rfl, ?_⟩) ?_ ?_
                    rotate_left
                    ·
                     intro w'
                     go_simp
                     with_reducible rfl
                    rotate_left
                    ·
                     simp only [Act.put, sT, s0, sS, i64_w, i32_w]
                     rfl
                    refine one_ (i := 4) (N := some 98) #[true, true, true, true, true, true, true, true, true, false, false] rfl rfl (one_of HT_.out (by kernel_rfl)) (by decide) (fun K hK => ?_)
                    refine Kd.R_append_rows_step (Kd.int .i64) (w0 := w) w.heap.size (by rfl) (.tmp 94) (.tmp 97) 22 2 (.int .i64 0) 8 rfl Tryd.underlying22 info2 rfl (by decide) (by omega) (.slice none 0 0) ([] : List Int) y292 _ _ _ (fun k_ => some k_ ≠ (v280 : Value).ownBlock ∧ some k_ ≠ (.slice Ao73 t282.length co73 : Value).ownBlock) (fun _ => False) rfl rfl ?aO ?aR (fun _ _ h => h) (fun _ h => h.elim) ?aF ?aB ?aS ?aL ?_
                    (case aR => repeat (first | exact (by repeat (first | (with_reducible exact HR295.out) | (with_reducible refine cA ?_ _) | (with_reducible refine cN ?_ _) | (with_reducible refine cD ?_) | exact HR295.out)) | (with_reducible refine cA ?_ _) | (with_reducible refine cN ?_ _) | (with_reducible refine cD ?_)))
                    (case aB => exact (by repeat first | exact HB.out | apply bA | apply bN | apply bD))
                    (case aF => exact (fun k_ hk => ⟨Kd.fresh' (rT (by (with_reducible repeat first | apply rA | apply rN | apply rD); exact HO_7.out)) k_ hk, Kd.fresh' (rT (by (with_reducible repeat first | apply rA | apply rN | apply rD); exact HO_9.out)) k_ hk⟩))
                    (case aO => exact ((Kd.R_nil _ _ _ _ (fun k_ => some k_ ≠ (v280 : Value).ownBlock ∧ some k_ ≠ (.slice Ao73 t282.length co73 : Value).ownBlock))))
                    (case aS => exact (bZ (by repeat first | exact HB.out | apply bA | apply bN | apply bD)))
                    (case aL => have := LMc44.out; omega)
                    intro v297 w75 ho hb hg hat
                    rw [← Ny296.out] at ho
                    have n0_ := m0 (Kd.R_after (Kd.R_apart_nil (by (with_reducible repeat first | apply rA | apply rN | apply rD); exact HO_7.out)) hg hat)
                    have n1_ := m0 (Kd.R_after (Kd.R_apart_nil (by (with_reducible repeat first | apply rA | apply rN | apply rD); exact HO_9.out)) hg hat)
                    have n2_ := m0 (hb)
                    have n3_ := m0 ((show Kd.C (Kd.int .i64) w75 Ao73 y292.length y292 from by rw [Ny292.out]; exact Kd.C_take (m := (ji5 : Int).toNat) ((rR (Kd.R_after (Kd.R_apart_nil (by (with_reducible repeat first | apply rA | apply rN | apply rD); exact HO_9.out)) hg hat)).2.2) KL72.out))
                    have n4_ := m0 ((show Kd.C (Kd.int .i64) w75 A74 y299.length y299 from by rw [Ny299.out, KA74.out]; exact Kd.C_drop (m := ((ji45) : Int).toNat) (c := co73) ((rR (Kd.R_after (Kd.R_apart_nil (by (with_reducible repeat first | apply rA | apply rN | apply rD); exact HO_9.out)) hg hat)).2.2) KL74.out ((rR (Kd.R_after (Kd.R_apart_nil (by (with_reducible repeat first | apply rA | apply rN | apply rD); exact HO_9.out)) hg hat)).2.1)))
                    have n5_ := m0 (ho)
                    clear HO_7
                    clear HO_9
                    clear HB
                    clear HR295
                    clear HR302
                    have HO_7 := n0_
                    have HO_9 := n1_
                    have HB := n2_
                    have HR295 := n3_
                    have HR302 := n4_
                    have HO298 := n5_
                    clear n0_ n1_ n2_ n3_ n4_ n5_
                    clear ho hb hg hat
                    refine hK.out _ _ trivial (fun hHeld => ?_)
                    clear hK K
                    refine norm_ (a' := ?_) ?_ ?_
                    rotate_left
                    ·
                     show Act.put _ (some 98) _ = _
                     simp only [Act.put, sT, s0, sS, i64_w, i32_w]
                     rfl
                    refine one_ (i := 9) (N := some 103) #[true, true, true, true, true, true, true, true, true, true, false] rfl rfl (one_of HT_.out (by kernel_rfl)) (by decide) (fun K hK => ?_)
                    refine Kd.R_append_rows_step (Kd.int .i64) (w0 := w) w.heap.size (by rfl) (.tmp 98) (.tmp 102) 22 2 (.int .i64 0) 8 rfl Tryd.underlying22 info2 rfl (by decide) (by omega) v297 y296 y299 _ _ _ (fun k_ => some k_ ≠ (v280 : Value).ownBlock ∧ some k_ ≠ (.slice Ao73 t282.length co73 : Value).ownBlock) (fun _ => False) rfl rfl ?aO ?aR (fun _ _ h => h) (fun _ h => h.elim) ?aF ?aB ?aS ?aL ?_
                    (case aR => repeat (first | exact (by repeat (first | (with_reducible exact HR302.out) | (with_reducible refine cA ?_ _) | (with_reducible refine cN ?_ _) | (with_reducible refine cD ?_) | exact HR302.out)) | (with_reducible refine cA ?_ _) | (with_reducible refine cN ?_ _) | (with_reducible refine cD ?_)))
                    (case aB => exact (by repeat first | exact HB.out | apply bA | apply bN | apply bD))
                    (case aF => exact (fun k_ hk => ⟨Kd.fresh' (rT (by (with_reducible repeat first | apply rA | apply rN | apply rD); exact HO_7.out)) k_ hk, Kd.fresh' (rT (by (with_reducible repeat first | apply rA | apply rN | apply rD); exact HO_9.out)) k_ hk⟩))
                    (case aO => exact (by (with_reducible repeat first | apply rA | apply rN | apply rD); exact HO298.out))
                    (case aS => exact (bZ (by repeat first | exact HB.out | apply bA | apply bN | apply bD)))
                    (case aL => have := LMc48.out; omega)
                    intro v304 w76 ho hb hg hat
                    rw [← Ny303.out] at ho
                    have n0_ := m0 (Kd.R_after (ok := (fun k_ => some k_ ≠ (.slice Ao73 t282.length co73 : Value).ownBlock)) (by (with_reducible repeat first | apply rA | apply rN | apply rD); exact HO_7.out) hg hat)
                    have n1_ := m0 (Kd.R_after (ok := (fun k_ => some k_ ≠ (v280 : Value).ownBlock)) (by (with_reducible repeat first | apply rA | apply rN | apply rD); exact HO_9.out) hg hat)
                    have n2_ := m0 (hb)
                    have n3_ := m0 ((show Kd.C (Kd.int .i64) w76 Ao73 y292.length y292 from by rw [Ny292.out]; exact Kd.C_take (m := (ji5 : Int).toNat) ((rR (Kd.R_after (ok := (fun k_ => some k_ ≠ (v280 : Value).ownBlock)) (by (with_reducible repeat first | apply rA | apply rN | apply rD); exact HO_9.out) hg hat)).2.2) KL72.out))
                    have n4_ := m0 ((show Kd.C (Kd.int .i64) w76 A74 y299.length y299 from by rw [Ny299.out, KA74.out]; exact Kd.C_drop (m := ((ji45) : Int).toNat) (c := co73) ((rR (Kd.R_after (ok := (fun k_ => some k_ ≠ (v280 : Value).ownBlock)) (by (with_reducible repeat first | apply rA | apply rN | apply rD); exact HO_9.out) hg hat)).2.2) KL74.out ((rR (Kd.R_after (ok := (fun k_ => some k_ ≠ (v280 : Value).ownBlock)) (by (with_reducible repeat first | apply rA | apply rN | apply rD); exact HO_9.out) hg hat)).2.1)))
                    have n5_ := m0 (ho)
                    clear HO_7
                    clear HO_9
                    clear HB
                    clear HR295
                    clear HR302
                    clear HO298
                    have HO_7 := n0_
                    have HO_9 := n1_
                    have HB := n2_
                    have HR295 := n3_
                    have HR302 := n4_
                    have HO305 := n5_
                    clear n0_ n1_ n2_ n3_ n4_ n5_
                    clear ho hb hg hat
                    refine hK.out _ _ trivial (fun hHeld => ?_)
                    clear hK K
                    refine norm_ (a' := ?_) ?_ ?_
                    rotate_left
                    ·
                     show Act.put _ (some 103) _ = _
                     simp only [Act.put, sT, s0, sS, i64_w, i32_w]
                     rfl
                    refine pure_ (i := 10) (N := some 17) (v := ?_) (a' := ?_) #[true, true, true, true, true, true, true, true, true, true, true] rfl rfl (any_of HT_.out (by kernel_rfl)) (fun _ _ _ h => h) (Or.inl ⟨by rfl, ?_⟩) ?_ ?_
                    rotate_left
                    ·
                     intro w'
                     go_simp
                     with_reducible rfl
                    rotate_left
                    ·
                     simp only [Act.put, sT, s0, sS, i64_w, i32_w]
                     rfl
                    refine done_ (done_of HT_.out (by kernel_rfl)) ?_
                    obtain ⟨Ao77, co77, eo77⟩ := Kd.R_slice HO_7.out
                    subst eo77
                    obtain ⟨Ao78, co78, eo78⟩ := Kd.R_slice HO305.out
                    subst eo78
                    try go_wp2_with (first | (go_at_call 23; refine calls_of_args (args' := #[.slice Ao77 t278.length co77, .slice Ao78 y303.length co78]) (by (try simp only [List.map_toArray, List.map_cons, List.map_nil]); first | done | rfl | (simp only [List.length_drop, List.length_take]; rfl)) ?_; (with_reducible refine (gutterref10_Nums.calls kj17 _ _ t278 _ _ y303 true _ ?side1 ?side2 ?side3 ?side4 A50.out).mono ?_); (case side1 => repeat (first | exact (rR HO_7.out).2.2 | (with_reducible refine cA ?_ _) | (with_reducible refine cN ?_ _) | (with_reducible refine cD ?_))); (case side2 => exact (rR HO_7.out).2.1); (case side3 => repeat (first | exact (rR HO305.out).2.2 | (with_reducible refine cA ?_ _) | (with_reducible refine cN ?_ _) | (with_reducible refine cD ?_))); (case side4 => exact (rR HO305.out).2.1); rintro e w' ⟨rfl, ⟨nd, rfl⟩⟩))
                    go_ret
                    exact ⟨by first | rfl | (simp [errW_none, errW_some] <;> rfl) | (simp only [← hji4, ← hji5, ← hji45]; first | rfl | (simp [errW_none, errW_some] <;> rfl)) | (simp [*, errW_none, errW_some] <;> rfl), by repeat first | exact HB.out | apply bA | apply bN | apply bD⟩
                  ·
                   rw [if_neg c52] at H
                   have c52b0 : (t288 == 0) = false := beq_eq_false_iff_ne.mpr c52
                   have c52b1 : (t288 != 0) = true := bne_iff_ne.mpr c52
                   obtain rfl := Option.some.inj H
                   try go_wp2
                   have n0_ := m0 (rD HO_7.out)
                   have n1_ := m0 (rD HO_9.out)
                   have n2_ := m0 (bD HB.out)
                   clear HO_7
                   clear HO_9
                   clear HB
                   have HO_7 := n0_
                   have HO_9 := n1_
                   have HB := n2_
                   clear n0_ n1_ n2_
                   obtain ⟨Ao81, co81, eo81⟩ := Kd.R_slice HO_9.out
                   (first | subst eo81 | (injection eo81 with f1_ f2_ f3_; have f4_ := f1_.symm; have f5_ := f3_.symm; clear f1_ f2_ f3_; subst f4_; subst f5_))
                   have q80 : (ji5 : Int) ≤ ((t282.length : Int) : Int) := oT (by first | (with_reducible assumption) | assumption)
                   obtain ⟨i080, hi080, _, hsz80, _⟩ := info_parts info2
                   have hroom80 : t282.length ≤ co81 := (rR HO_9.out).2.1
                   have hC80 : Kd.C (Kd.int .i64) _ Ao81 t282.length t282 := (rR HO_9.out).2.2
                   have hcut80 := cut_to (P := Tryd.prog) 22 2 .i64 Tryd.underlying22 hi080 Ao81 t282.length co81 ji5 (oT (by first | (with_reducible assumption) | assumption)) q80 hroom80
                   have hr80 := Kd.C_take (m := (ji5 : Int).toNat) hC80 (by omega)
                   have hy80 : y292.length = (ji5 : Int).toNat := (by rw [Ny292.out, List.length_take]; omega)
                   rw [← Ny292.out] at hr80
                   rw [← hy80] at hcut80
                   have HR295 := m0 hr80
                   have HC295 := m0 (show y292.length ≤ co81 from by omega)
                   clear hr80 hC80 hroom80 hi080 hsz80
                   have KY80 := m0 hy80
                   clear hy80
                   have KL80 := m0 (show (ji5 : Int).toNat ≤ t282.length from by omega)
                   replace q80 := eq_true q80
                   have q82 : ((ji45) : Int) ≤ ((t282.length : Int) : Int) := oT (by first | (with_reducible assumption) | assumption)
                   obtain ⟨i082, hi082, _, hsz82, _⟩ := info_parts info2
                   have hroom82 : t282.length ≤ co81 := (rR HO_9.out).2.1
                   have hC82 : Kd.C (Kd.int .i64) _ Ao81 t282.length t282 := (rR HO_9.out).2.2
                   have q082 : (0 : Int) ≤ ((ji45) : Int) := oT (by first | (with_reducible assumption) | assumption)
                   have hcut82 := cut_from (P := Tryd.prog) 22 2 .i64 Tryd.underlying22 hi082 1 hsz82 Ao81 t282.length co81 (ji45) q082 q82
                   have hr82 := Kd.C_drop (m := ((ji45) : Int).toNat) (c := co81) hC82 (by omega) hroom82
                   obtain ⟨A82, hA82⟩ : ∃ A1, A1 = (if co81 = ((ji45) : Int).toNat then Ao81 else (Ao81 : Option Addr).map (·.add (((ji45) : Int).toNat * 1))) := ⟨_, rfl⟩
                   obtain ⟨c82, hc82⟩ : ∃ c1, c1 = co81 - ((ji45) : Int).toNat := ⟨_, rfl⟩
                   have hy82 : y299.length = t282.length - ((ji45) : Int).toNat := (by rw [Ny299.out, List.length_drop] <;> omega)
                   rw [show (t282).drop ((ji45) : Int).toNat = y299 from Ny299.out.symm] at hr82
                   replace hr82 : Kd.C (Kd.int .i64) _ A82 y299.length y299 := (by rw [hA82]; exact hr82)
                   rw [← hy82, ← hA82, ← hc82] at hcut82
                   have HR302 := m0 hr82
                   have HC302 := m0 (show y299.length ≤ c82 from by rw [hy82, hc82]; exact Nat.sub_le_sub_right hroom82 _)
                   clear hr82 hC82 hroom82 hi082 hsz82 hc82
                   have KY82 := m0 hy82
                   have KA82 := m0 hA82
                   clear hy82 hA82
                   have KL82 := m0 (show ((ji45) : Int).toNat ≤ t282.length from by omega)
                   replace q82 := eq_true q82
                   refine start_ (n := 11) (S := fun w' => True) (ds := []) #[false, false, false, false, false, false, false, false, false, false, false] (by kernel_rfl) rfl rfl trivial (fun hHeld => ?_); refine with_tabW gutterlaw10_MarginNothing.tab15 gutterlaw10_MarginNothing.bits15 (fun HT_ HW_ => ?_)
                   generalize wc.drew = w79 at HO_7 HO_9 HB HR295 HR302 hHeld ⊢
                   refine pure_ (i := 0) (N := some 94) (v := ?_) (a' := ?_) #[true, false, false, false, false, false, false, false, false, false, false] rfl rfl (any_of HT_.out (by kernel_rfl)) (fun _ _ _ h => h) (Or.inl ⟨by rfl, ?_⟩) ?_ ?_
                   rotate_left
                   ·
                    intro w'
                    go_simp
                    with_reducible rfl
                   rotate_left
                   ·
                    simp only [Act.put, sT, s0, sS, i64_w, i32_w]
                    rfl
                   refine pure_ (i := 1) (N := some 95) (v := ?_) (a' := ?_) #[true, true, false, false, false, false, false, false, false, false, false] rfl rfl (any_of HT_.out (by kernel_rfl)) (fun _ _ _ h => h) (Or.inl ⟨by rfl, ?_⟩) ?_ ?_
                   rotate_left
                   ·
                    intro w'
                    go_simp
                    with_reducible rfl
                   rotate_left
                   ·
                    simp only [Act.put, sT, s0, sS, i64_w, i32_w]
                    rfl
                   refine pure_ (i := 2) (N := some 96) (v := ?_) (a' := ?_) #[true, true, true, false, false, false, false, false, false, false, false] rfl rfl (any_of HT_.out (by kernel_rfl)) (fun _ _ _ h => h) (Or.inl ⟨by rfl, ?_⟩) ?_ ?_
                   rotate_left
                   ·
                    intro w'
                    go_simp
                    with_reducible rfl
                   rotate_left
                   ·
                    simp only [Act.put, sT, s0, sS, i64_w, i32_w]
                    rfl
                   refine pure_ (i := 3) (N := some 97) (v := ?_) (a' := ?_) #[true, true, true, true, false, false, false, false, false, false, false] rfl rfl (any_of HT_.out (by kernel_rfl)) (fun _ _ _ h => h) (Or.inl ⟨by rfl, ?_⟩) ?_ ?_
                   rotate_left
                   ·
                    intro w'
                    go_simp
                    with_reducible rfl
                   rotate_left
                   ·
                    simp only [Act.put, sT, s0, sS, i64_w, i32_w]
                    rfl
                   refine pure_ (i := 5) (N := some 99) (v := ?_) (a' := ?_) #[true, true, true, true, false, true, false, false, false, false, false] rfl rfl (any_of HT_.out (by kernel_rfl)) (fun _ _ _ h => h) (Or.inl ⟨by rfl, ?_⟩) ?_ ?_
                   rotate_left
                   ·
                    intro w'
                    go_simp
                    with_reducible rfl
                   rotate_left
                   ·
                    simp only [Act.put, sT, s0, sS, i64_w, i32_w]
                    rfl
                   refine pure_ (i := 6) (N := some 100) (v := ?_) (a' := ?_) #[true, true, true, true, false, true, true, false, false, false, false] rfl rfl (any_of HT_.out (by kernel_rfl)) (fun _ _ _ h => h) (Or.inl ⟨by rfl, ?_⟩) ?_ ?_
                   rotate_left
                   ·
                    intro w'
                    go_simp
                    with_reducible rfl
                   rotate_left
                   ·
                    simp only [Act.put, sT, s0, sS, i64_w, i32_w]
                    rfl
                   refine pure_ (i := 7) (N := some 101) (v := ?_) (a' := ?_) #[true, true, true, true, false, true, true, true, false, false, false] rfl rfl (any_of HT_.out (by kernel_rfl)) (fun _ _ _ h => h) (Or.inl ⟨by rfl, ?_⟩) ?_ ?_
                   rotate_left
                   ·
                    intro w'
                    go_simp
                    with_reducible rfl
                   rotate_left
                   ·
                    simp only [Act.put, sT, s0, sS, i64_w, i32_w]
                    rfl
                   refine pure_ (i := 8) (N := some 102) (v := ?_) (a' := ?_) #[true, true, true, true, false, true, true, true, true, false, false] rfl rfl (any_of HT_.out (by kernel_rfl)) (fun _ _ _ h => h) (Or.inl ⟨by rfl, ?_⟩) ?_ ?_
                   rotate_left
                   ·
                    intro w'
                    go_simp
                    with_reducible rfl
                   rotate_left
                   ·
                    simp only [Act.put, sT, s0, sS, i64_w, i32_w]
                    rfl
                   refine one_ (i := 4) (N := some 98) #[true, true, true, true, true, true, true, true, true, false, false] rfl rfl (one_of HT_.out (by kernel_rfl)) (by decide) (fun K hK => ?_)
                   refine Kd.R_append_rows_step (Kd.int .i64) (w0 := w) w.heap.size (by rfl) (.tmp 94) (.tmp 97) 22 2 (.int .i64 0) 8 rfl Tryd.underlying22 info2 rfl (by decide) (by omega) (.slice none 0 0) ([] : List Int) y292 _ _ _ (fun k_ => some k_ ≠ (v280 : Value).ownBlock ∧ some k_ ≠ (.slice Ao81 t282.length co81 : Value).ownBlock) (fun _ => False) rfl rfl ?aO ?aR (fun _ _ h => h) (fun _ h => h.elim) ?aF ?aB ?aS ?aL ?_
                   (case aR => repeat (first | exact (by repeat (first | (with_reducible exact HR295.out) | (with_reducible refine cA ?_ _) | (with_reducible refine cN ?_ _) | (with_reducible refine cD ?_) | exact HR295.out)) | (with_reducible refine cA ?_ _) | (with_reducible refine cN ?_ _) | (with_reducible refine cD ?_)))
                   (case aB => exact (by repeat first | exact HB.out | apply bA | apply bN | apply bD))
                   (case aF => exact (fun k_ hk => ⟨Kd.fresh' (rT (by (with_reducible repeat first | apply rA | apply rN | apply rD); exact HO_7.out)) k_ hk, Kd.fresh' (rT (by (with_reducible repeat first | apply rA | apply rN | apply rD); exact HO_9.out)) k_ hk⟩))
                   (case aO => exact ((Kd.R_nil _ _ _ _ (fun k_ => some k_ ≠ (v280 : Value).ownBlock ∧ some k_ ≠ (.slice Ao81 t282.length co81 : Value).ownBlock))))
                   (case aS => exact (bZ (by repeat first | exact HB.out | apply bA | apply bN | apply bD)))
                   (case aL => have := LMc44.out; omega)
                   intro v297 w83 ho hb hg hat
                   rw [← Ny296.out] at ho
                   have n0_ := m0 (Kd.R_after (Kd.R_apart_nil (by (with_reducible repeat first | apply rA | apply rN | apply rD); exact HO_7.out)) hg hat)
                   have n1_ := m0 (Kd.R_after (Kd.R_apart_nil (by (with_reducible repeat first | apply rA | apply rN | apply rD); exact HO_9.out)) hg hat)
                   have n2_ := m0 (hb)
                   have n3_ := m0 ((show Kd.C (Kd.int .i64) w83 Ao81 y292.length y292 from by rw [Ny292.out]; exact Kd.C_take (m := (ji5 : Int).toNat) ((rR (Kd.R_after (Kd.R_apart_nil (by (with_reducible repeat first | apply rA | apply rN | apply rD); exact HO_9.out)) hg hat)).2.2) KL80.out))
                   have n4_ := m0 ((show Kd.C (Kd.int .i64) w83 A82 y299.length y299 from by rw [Ny299.out, KA82.out]; exact Kd.C_drop (m := ((ji45) : Int).toNat) (c := co81) ((rR (Kd.R_after (Kd.R_apart_nil (by (with_reducible repeat first | apply rA | apply rN | apply rD); exact HO_9.out)) hg hat)).2.2) KL82.out ((rR (Kd.R_after (Kd.R_apart_nil (by (with_reducible repeat first | apply rA | apply rN | apply rD); exact HO_9.out)) hg hat)).2.1)))
                   have n5_ := m0 (ho)
                   clear HO_7
                   clear HO_9
                   clear HB
                   clear HR295
                   clear HR302
                   have HO_7 := n0_
                   have HO_9 := n1_
                   have HB := n2_
                   have HR295 := n3_
                   have HR302 := n4_
                   have HO298 := n5_
                   clear n0_ n1_ n2_ n3_ n4_ n5_
                   clear ho hb hg hat
                   refine hK.out _ _ trivial (fun hHeld => ?_)
                   clear hK K
                   refine norm_ (a' := ?_) ?_ ?_
                   rotate_left
                   ·
                    show Act.put _ (some 98) _ = _
                    simp only [Act.put, sT, s0, sS, i64_w, i32_w]
                    rfl
                   refine one_ (i := 9) (N := some 103) #[true, true, true, true, true, true, true, true, true, true, false] rfl rfl (one_of HT_.out (by kernel_rfl)) (by decide) (fun K hK => ?_)
                   refine Kd.R_append_rows_step (Kd.int .i64) (w0 := w) w.heap.size (by rfl) (.tmp 98) (.tmp 102) 22 2 (.int .i64 0) 8 rfl Tryd.underlying22 info2 rfl (by decide) (by omega) v297 y296 y299 _ _ _ (fun k_ => some k_ ≠ (v280 : Value).ownBlock ∧ some k_ ≠ (.slice Ao81 t282.length co81 : Value).ownBlock) (fun _ => False) rfl rfl ?aO ?aR (fun _ _ h => h) (fun _ h => h.elim) ?aF ?aB ?aS ?aL ?_
                   (case aR => repeat (first | exact (by repeat (first | (with_reducible exact HR302.out) | (with_reducible refine cA ?_ _) | (with_reducible refine cN ?_ _) | (with_reducible refine cD ?_) | exact HR302.out)) | (with_reducible refine cA ?_ _) | (with_reducible refine cN ?_ _) | (with_reducible refine cD ?_)))
                   (case aB => exact (by repeat first | exact HB.out | apply bA | apply bN | apply bD))
                   (case aF => exact (fun k_ hk => ⟨Kd.fresh' (rT (by (with_reducible repeat first | apply rA | apply rN | apply rD); exact HO_7.out)) k_ hk, Kd.fresh' (rT (by (with_reducible repeat first | apply rA | apply rN | apply rD); exact HO_9.out)) k_ hk⟩))
                   (case aO => exact (by (with_reducible repeat first | apply rA | apply rN | apply rD); exact HO298.out))
                   (case aS => exact (bZ (by repeat first | exact HB.out | apply bA | apply bN | apply bD)))
                   (case aL => have := LMc48.out; omega)
                   intro v304 w84 ho hb hg hat
                   rw [← Ny303.out] at ho
                   have n0_ := m0 (Kd.R_after (ok := (fun k_ => some k_ ≠ (.slice Ao81 t282.length co81 : Value).ownBlock)) (by (with_reducible repeat first | apply rA | apply rN | apply rD); exact HO_7.out) hg hat)
                   have n1_ := m0 (Kd.R_after (ok := (fun k_ => some k_ ≠ (v280 : Value).ownBlock)) (by (with_reducible repeat first | apply rA | apply rN | apply rD); exact HO_9.out) hg hat)
                   have n2_ := m0 (hb)
                   have n3_ := m0 ((show Kd.C (Kd.int .i64) w84 Ao81 y292.length y292 from by rw [Ny292.out]; exact Kd.C_take (m := (ji5 : Int).toNat) ((rR (Kd.R_after (ok := (fun k_ => some k_ ≠ (v280 : Value).ownBlock)) (by (with_reducible repeat first | apply rA | apply rN | apply rD); exact HO_9.out) hg hat)).2.2) KL80.out))
                   have n4_ := m0 ((show Kd.C (Kd.int .i64) w84 A82 y299.length y299 from by rw [Ny299.out, KA82.out]; exact Kd.C_drop (m := ((ji45) : Int).toNat) (c := co81) ((rR (Kd.R_after (ok := (fun k_ => some k_ ≠ (v280 : Value).ownBlock)) (by (with_reducible repeat first | apply rA | apply rN | apply rD); exact HO_9.out) hg hat)).2.2) KL82.out ((rR (Kd.R_after (ok := (fun k_ => some k_ ≠ (v280 : Value).ownBlock)) (by (with_reducible repeat first | apply rA | apply rN | apply rD); exact HO_9.out) hg hat)).2.1)))
                   have n5_ := m0 (ho)
                   clear HO_7
                   clear HO_9
                   clear HB
                   clear HR295
                   clear HR302
                   clear HO298
                   have HO_7 := n0_
                   have HO_9 := n1_
                   have HB := n2_
                   have HR295 := n3_
                   have HR302 := n4_
                   have HO305 := n5_
                   clear n0_ n1_ n2_ n3_ n4_ n5_
                   clear ho hb hg hat
                   refine hK.out _ _ trivial (fun hHeld => ?_)
                   clear hK K
                   refine norm_ (a' := ?_) ?_ ?_
                   rotate_left
                   ·
                    show Act.put _ (some 103) _ = _
                    simp only [Act.put, sT, s0, sS, i64_w, i32_w]
                    rfl
                   refine pure_ (i := 10) (N := some 17) (v := ?_) (a' := ?_) #[true, true, true, true, true, true, true, true, true, true, true] rfl rfl (any_of HT_.out (by kernel_rfl)) (fun _ _ _ h => h) (Or.inl ⟨by rfl, ?_⟩) ?_ ?_
                   rotate_left
                   ·
                    intro w'
                    go_simp
                    with_reducible rfl
                   rotate_left
                   ·
                    simp only [Act.put, sT, s0, sS, i64_w, i32_w]
                    rfl
                   refine done_ (done_of HT_.out (by kernel_rfl)) ?_
                   obtain ⟨Ao85, co85, eo85⟩ := Kd.R_slice HO_7.out
                   subst eo85
                   obtain ⟨Ao86, co86, eo86⟩ := Kd.R_slice HO305.out
                   subst eo86
                   try go_wp2_with (first | (go_at_call 23; refine calls_of_args (args' := #[.slice Ao85 t278.length co85, .slice Ao86 y303.length co86]) (by (try simp only [List.map_toArray, List.map_cons, List.map_nil]); first | done | rfl | (simp only [List.length_drop, List.length_take]; rfl)) ?_; (with_reducible refine (gutterref10_Nums.calls kj17 _ _ t278 _ _ y303 true _ ?side1 ?side2 ?side3 ?side4 A50.out).mono ?_); (case side1 => repeat (first | exact (rR HO_7.out).2.2 | (with_reducible refine cA ?_ _) | (with_reducible refine cN ?_ _) | (with_reducible refine cD ?_))); (case side2 => exact (rR HO_7.out).2.1); (case side3 => repeat (first | exact (rR HO305.out).2.2 | (with_reducible refine cA ?_ _) | (with_reducible refine cN ?_ _) | (with_reducible refine cD ?_))); (case side4 => exact (rR HO305.out).2.1); rintro e w' ⟨rfl, ⟨nd, rfl⟩⟩))
                   go_ret
                   exact ⟨by first | rfl | (simp [errW_none, errW_some] <;> rfl) | (simp only [← hji4, ← hji5, ← hji45]; first | rfl | (simp [errW_none, errW_some] <;> rfl)) | (simp [*, errW_none, errW_some] <;> rfl), by repeat first | exact HB.out | apply bA | apply bN | apply bD⟩
                 ·
                  replace c51 := Bool.eq_false_iff.mpr c51
                  subst c51
                  have H1 : (some false) = some r := by rw [if_neg (show ¬ (false = true) by decide)] at H; exact H
                  clear H
                  have H := H1
                  clear H1
                  obtain rfl := Option.some.inj H
                  try go_wp2
                  have n0_ := m0 (rD HO_7.out)
                  have n1_ := m0 (rD HO_9.out)
                  have n2_ := m0 (bD HB.out)
                  clear HO_7
                  clear HO_9
                  clear HB
                  have HO_7 := n0_
                  have HO_9 := n1_
                  have HB := n2_
                  clear n0_ n1_ n2_
                  obtain ⟨Ao89, co89, eo89⟩ := Kd.R_slice HO_9.out
                  (first | subst eo89 | (injection eo89 with f1_ f2_ f3_; have f4_ := f1_.symm; have f5_ := f3_.symm; clear f1_ f2_ f3_; subst f4_; subst f5_))
                  have q88 : (ji5 : Int) ≤ ((t282.length : Int) : Int) := oT (by first | (with_reducible assumption) | assumption)
                  obtain ⟨i088, hi088, _, hsz88, _⟩ := info_parts info2
                  have hroom88 : t282.length ≤ co89 := (rR HO_9.out).2.1
                  have hC88 : Kd.C (Kd.int .i64) _ Ao89 t282.length t282 := (rR HO_9.out).2.2
                  have hcut88 := cut_to (P := Tryd.prog) 22 2 .i64 Tryd.underlying22 hi088 Ao89 t282.length co89 ji5 (oT (by first | (with_reducible assumption) | assumption)) q88 hroom88
                  have hr88 := Kd.C_take (m := (ji5 : Int).toNat) hC88 (by omega)
                  have hy88 : y292.length = (ji5 : Int).toNat := (by rw [Ny292.out, List.length_take]; omega)
                  rw [← Ny292.out] at hr88
                  rw [← hy88] at hcut88
                  have HR295 := m0 hr88
                  have HC295 := m0 (show y292.length ≤ co89 from by omega)
                  clear hr88 hC88 hroom88 hi088 hsz88
                  have KY88 := m0 hy88
                  clear hy88
                  have KL88 := m0 (show (ji5 : Int).toNat ≤ t282.length from by omega)
                  replace q88 := eq_true q88
                  have q90 : ((ji45) : Int) ≤ ((t282.length : Int) : Int) := oT (by first | (with_reducible assumption) | assumption)
                  obtain ⟨i090, hi090, _, hsz90, _⟩ := info_parts info2
                  have hroom90 : t282.length ≤ co89 := (rR HO_9.out).2.1
                  have hC90 : Kd.C (Kd.int .i64) _ Ao89 t282.length t282 := (rR HO_9.out).2.2
                  have q090 : (0 : Int) ≤ ((ji45) : Int) := oT (by first | (with_reducible assumption) | assumption)
                  have hcut90 := cut_from (P := Tryd.prog) 22 2 .i64 Tryd.underlying22 hi090 1 hsz90 Ao89 t282.length co89 (ji45) q090 q90
                  have hr90 := Kd.C_drop (m := ((ji45) : Int).toNat) (c := co89) hC90 (by omega) hroom90
                  obtain ⟨A90, hA90⟩ : ∃ A1, A1 = (if co89 = ((ji45) : Int).toNat then Ao89 else (Ao89 : Option Addr).map (·.add (((ji45) : Int).toNat * 1))) := ⟨_, rfl⟩
                  obtain ⟨c90, hc90⟩ : ∃ c1, c1 = co89 - ((ji45) : Int).toNat := ⟨_, rfl⟩
                  have hy90 : y299.length = t282.length - ((ji45) : Int).toNat := (by rw [Ny299.out, List.length_drop] <;> omega)
                  rw [show (t282).drop ((ji45) : Int).toNat = y299 from Ny299.out.symm] at hr90
                  replace hr90 : Kd.C (Kd.int .i64) _ A90 y299.length y299 := (by rw [hA90]; exact hr90)
                  rw [← hy90, ← hA90, ← hc90] at hcut90
                  have HR302 := m0 hr90
                  have HC302 := m0 (show y299.length ≤ c90 from by rw [hy90, hc90]; exact Nat.sub_le_sub_right hroom90 _)
                  clear hr90 hC90 hroom90 hi090 hsz90 hc90
                  have KY90 := m0 hy90
                  have KA90 := m0 hA90
                  clear hy90 hA90
                  have KL90 := m0 (show ((ji45) : Int).toNat ≤ t282.length from by omega)
                  replace q90 := eq_true q90
                  refine start_ (n := 11) (S := fun w' => True) (ds := []) #[false, false, false, false, false, false, false, false, false, false, false] (by kernel_rfl) rfl rfl trivial (fun hHeld => ?_); refine with_tabW gutterlaw10_MarginNothing.tab15 gutterlaw10_MarginNothing.bits15 (fun HT_ HW_ => ?_)
                  generalize wc.drew = w87 at HO_7 HO_9 HB HR295 HR302 hHeld ⊢
                  refine pure_ (i := 0) (N := some 94) (v := ?_) (a' := ?_) #[true, false, false, false, false, false, false, false, false, false, false] rfl rfl (any_of HT_.out (by kernel_rfl)) (fun _ _ _ h => h) (Or.inl ⟨by rfl, ?_⟩) ?_ ?_
                  rotate_left
                  ·
                   intro w'
                   go_simp
                   with_reducible rfl
                  rotate_left
                  ·
                   simp only [Act.put, sT, s0, sS, i64_w, i32_w]
                   rfl
                  refine pure_ (i := 1) (N := some 95) (v := ?_) (a' := ?_) #[true, true, false, false, false, false, false, false, false, false, false] rfl rfl (any_of HT_.out (by kernel_rfl)) (fun _ _ _ h => h) (Or.inl ⟨by rfl, ?_⟩) ?_ ?_
                  rotate_left
                  ·
                   intro w'
                   go_simp
                   with_reducible rfl
                  rotate_left
                  ·
                   simp only [Act.put, sT, s0, sS, i64_w, i32_w]
                   rfl
                  refine pure_ (i := 2) (N := some 96) (v := ?_) (a' := ?_) #[true, true, true, false, false, false, false, false, false, false, false] rfl rfl (any_of HT_.out (by kernel_rfl)) (fun _ _ _ h => h) (Or.inl ⟨by rfl, ?_⟩) ?_ ?_
                  rotate_left
                  ·
                   intro w'
                   go_simp
                   with_reducible rfl
                  rotate_left
                  ·
                   simp only [Act.put, sT, s0, sS, i64_w, i32_w]
                   rfl
                  refine pure_ (i := 3) (N := some 97) (v := ?_) (a' := ?_) #[true, true, true, true, false, false, false, false, false, false, false] rfl rfl (any_of HT_.out (by kernel_rfl)) (fun _ _ _ h => h) (Or.inl ⟨by rfl, ?_⟩) ?_ ?_
                  rotate_left
                  ·
                   intro w'
                   go_simp
                   with_reducible rfl
                  rotate_left
                  ·
                   simp only [Act.put, sT, s0, sS, i64_w, i32_w]
                   rfl
                  refine pure_ (i := 5) (N := some 99) (v := ?_) (a' := ?_) #[true, true, true, true, false, true, false, false, false, false, false] rfl rfl (any_of HT_.out (by kernel_rfl)) (fun _ _ _ h => h) (Or.inl ⟨by rfl, ?_⟩) ?_ ?_
                  rotate_left
                  ·
                   intro w'
                   go_simp
                   with_reducible rfl
                  rotate_left
                  ·
                   simp only [Act.put, sT, s0, sS, i64_w, i32_w]
                   rfl
                  refine pure_ (i := 6) (N := some 100) (v := ?_) (a' := ?_) #[true, true, true, true, false, true, true, false, false, false, false] rfl rfl (any_of HT_.out (by kernel_rfl)) (fun _ _ _ h => h) (Or.inl ⟨by rfl, ?_⟩) ?_ ?_
                  rotate_left
                  ·
                   intro w'
                   go_simp
                   with_reducible rfl
                  rotate_left
                  ·
                   simp only [Act.put, sT, s0, sS, i64_w, i32_w]
                   rfl
                  refine pure_ (i := 7) (N := some 101) (v := ?_) (a' := ?_) #[true, true, true, true, false, true, true, true, false, false, false] rfl rfl (any_of HT_.out (by kernel_rfl)) (fun _ _ _ h => h) (Or.inl ⟨by rfl, ?_⟩) ?_ ?_
                  rotate_left
                  ·
                   intro w'
                   go_simp
                   with_reducible rfl
                  rotate_left
                  ·
                   simp only [Act.put, sT, s0, sS, i64_w, i32_w]
                   rfl
                  refine pure_ (i := 8) (N := some 102) (v := ?_) (a' := ?_) #[true, true, true, true, false, true, true, true, true, false, false] rfl rfl (any_of HT_.out (by kernel_rfl)) (fun _ _ _ h => h) (Or.inl ⟨by rfl, ?_⟩) ?_ ?_
                  rotate_left
                  ·
                   intro w'
                   go_simp
                   with_reducible rfl
                  rotate_left
                  ·
                   simp only [Act.put, sT, s0, sS, i64_w, i32_w]
                   rfl
                  refine one_ (i := 4) (N := some 98) #[true, true, true, true, true, true, true, true, true, false, false] rfl rfl (one_of HT_.out (by kernel_rfl)) (by decide) (fun K hK => ?_)
                  refine Kd.R_append_rows_step (Kd.int .i64) (w0 := w) w.heap.size (by rfl) (.tmp 94) (.tmp 97) 22 2 (.int .i64 0) 8 rfl Tryd.underlying22 info2 rfl (by decide) (by omega) (.slice none 0 0) ([] : List Int) y292 _ _ _ (fun k_ => some k_ ≠ (v280 : Value).ownBlock ∧ some k_ ≠ (.slice Ao89 t282.length co89 : Value).ownBlock) (fun _ => False) rfl rfl ?aO ?aR (fun _ _ h => h) (fun _ h => h.elim) ?aF ?aB ?aS ?aL ?_
                  (case aR => repeat (first | exact (by repeat (first | (with_reducible exact HR295.out) | (with_reducible refine cA ?_ _) | (with_reducible refine cN ?_ _) | (with_reducible refine cD ?_) | exact HR295.out)) | (with_reducible refine cA ?_ _) | (with_reducible refine cN ?_ _) | (with_reducible refine cD ?_)))
                  (case aB => exact (by repeat first | exact HB.out | apply bA | apply bN | apply bD))
                  (case aF => exact (fun k_ hk => ⟨Kd.fresh' (rT (by (with_reducible repeat first | apply rA | apply rN | apply rD); exact HO_7.out)) k_ hk, Kd.fresh' (rT (by (with_reducible repeat first | apply rA | apply rN | apply rD); exact HO_9.out)) k_ hk⟩))
                  (case aO => exact ((Kd.R_nil _ _ _ _ (fun k_ => some k_ ≠ (v280 : Value).ownBlock ∧ some k_ ≠ (.slice Ao89 t282.length co89 : Value).ownBlock))))
                  (case aS => exact (bZ (by repeat first | exact HB.out | apply bA | apply bN | apply bD)))
                  (case aL => have := LMc44.out; omega)
                  intro v297 w91 ho hb hg hat
                  rw [← Ny296.out] at ho
                  have n0_ := m0 (Kd.R_after (Kd.R_apart_nil (by (with_reducible repeat first | apply rA | apply rN | apply rD); exact HO_7.out)) hg hat)
                  have n1_ := m0 (Kd.R_after (Kd.R_apart_nil (by (with_reducible repeat first | apply rA | apply rN | apply rD); exact HO_9.out)) hg hat)
                  have n2_ := m0 (hb)
                  have n3_ := m0 ((show Kd.C (Kd.int .i64) w91 Ao89 y292.length y292 from by rw [Ny292.out]; exact Kd.C_take (m := (ji5 : Int).toNat) ((rR (Kd.R_after (Kd.R_apart_nil (by (with_reducible repeat first | apply rA | apply rN | apply rD); exact HO_9.out)) hg hat)).2.2) KL88.out))
                  have n4_ := m0 ((show Kd.C (Kd.int .i64) w91 A90 y299.length y299 from by rw [Ny299.out, KA90.out]; exact Kd.C_drop (m := ((ji45) : Int).toNat) (c := co89) ((rR (Kd.R_after (Kd.R_apart_nil (by (with_reducible repeat first | apply rA | apply rN | apply rD); exact HO_9.out)) hg hat)).2.2) KL90.out ((rR (Kd.R_after (Kd.R_apart_nil (by (with_reducible repeat first | apply rA | apply rN | apply rD); exact HO_9.out)) hg hat)).2.1)))
                  have n5_ := m0 (ho)
                  clear HO_7
                  clear HO_9
                  clear HB
                  clear HR295
                  clear HR302
                  have HO_7 := n0_
                  have HO_9 := n1_
                  have HB := n2_
                  have HR295 := n3_
                  have HR302 := n4_
                  have HO298 := n5_
                  clear n0_ n1_ n2_ n3_ n4_ n5_
                  clear ho hb hg hat
                  refine hK.out _ _ trivial (fun hHeld => ?_)
                  clear hK K
                  refine norm_ (a' := ?_) ?_ ?_
                  rotate_left
                  ·
                   show Act.put _ (some 98) _ = _
                   simp only [Act.put, sT, s0, sS, i64_w, i32_w]
                   rfl
                  refine one_ (i := 9) (N := some 103) #[true, true, true, true, true, true, true, true, true, true, false] rfl rfl (one_of HT_.out (by kernel_rfl)) (by decide) (fun K hK => ?_)
                  refine Kd.R_append_rows_step (Kd.int .i64) (w0 := w) w.heap.size (by rfl) (.tmp 98) (.tmp 102) 22 2 (.int .i64 0) 8 rfl Tryd.underlying22 info2 rfl (by decide) (by omega) v297 y296 y299 _ _ _ (fun k_ => some k_ ≠ (v280 : Value).ownBlock ∧ some k_ ≠ (.slice Ao89 t282.length co89 : Value).ownBlock) (fun _ => False) rfl rfl ?aO ?aR (fun _ _ h => h) (fun _ h => h.elim) ?aF ?aB ?aS ?aL ?_
                  (case aR => repeat (first | exact (by repeat (first | (with_reducible exact HR302.out) | (with_reducible refine cA ?_ _) | (with_reducible refine cN ?_ _) | (with_reducible refine cD ?_) | exact HR302.out)) | (with_reducible refine cA ?_ _) | (with_reducible refine cN ?_ _) | (with_reducible refine cD ?_)))
                  (case aB => exact (by repeat first | exact HB.out | apply bA | apply bN | apply bD))
                  (case aF => exact (fun k_ hk => ⟨Kd.fresh' (rT (by (with_reducible repeat first | apply rA | apply rN | apply rD); exact HO_7.out)) k_ hk, Kd.fresh' (rT (by (with_reducible repeat first | apply rA | apply rN | apply rD); exact HO_9.out)) k_ hk⟩))
                  (case aO => exact (by (with_reducible repeat first | apply rA | apply rN | apply rD); exact HO298.out))
                  (case aS => exact (bZ (by repeat first | exact HB.out | apply bA | apply bN | apply bD)))
                  (case aL => have := LMc48.out; omega)
                  intro v304 w92 ho hb hg hat
                  rw [← Ny303.out] at ho
                  have n0_ := m0 (Kd.R_after (ok := (fun k_ => some k_ ≠ (.slice Ao89 t282.length co89 : Value).ownBlock)) (by (with_reducible repeat first | apply rA | apply rN | apply rD); exact HO_7.out) hg hat)
                  have n1_ := m0 (Kd.R_after (ok := (fun k_ => some k_ ≠ (v280 : Value).ownBlock)) (by (with_reducible repeat first | apply rA | apply rN | apply rD); exact HO_9.out) hg hat)
                  have n2_ := m0 (hb)
                  have n3_ := m0 ((show Kd.C (Kd.int .i64) w92 Ao89 y292.length y292 from by rw [Ny292.out]; exact Kd.C_take (m := (ji5 : Int).toNat) ((rR (Kd.R_after (ok := (fun k_ => some k_ ≠ (v280 : Value).ownBlock)) (by (with_reducible repeat first | apply rA | apply rN | apply rD); exact HO_9.out) hg hat)).2.2) KL88.out))
                  have n4_ := m0 ((show Kd.C (Kd.int .i64) w92 A90 y299.length y299 from by rw [Ny299.out, KA90.out]; exact Kd.C_drop (m := ((ji45) : Int).toNat) (c := co89) ((rR (Kd.R_after (ok := (fun k_ => some k_ ≠ (v280 : Value).ownBlock)) (by (with_reducible repeat first | apply rA | apply rN | apply rD); exact HO_9.out) hg hat)).2.2) KL90.out ((rR (Kd.R_after (ok := (fun k_ => some k_ ≠ (v280 : Value).ownBlock)) (by (with_reducible repeat first | apply rA | apply rN | apply rD); exact HO_9.out) hg hat)).2.1)))
                  have n5_ := m0 (ho)
                  clear HO_7
                  clear HO_9
                  clear HB
                  clear HR295
                  clear HR302
                  clear HO298
                  have HO_7 := n0_
                  have HO_9 := n1_
                  have HB := n2_
                  have HR295 := n3_
                  have HR302 := n4_
                  have HO305 := n5_
                  clear n0_ n1_ n2_ n3_ n4_ n5_
                  clear ho hb hg hat
                  refine hK.out _ _ trivial (fun hHeld => ?_)
                  clear hK K
                  refine norm_ (a' := ?_) ?_ ?_
                  rotate_left
                  ·
                   show Act.put _ (some 103) _ = _
                   simp only [Act.put, sT, s0, sS, i64_w, i32_w]
                   rfl
                  refine pure_ (i := 10) (N := some 17) (v := ?_) (a' := ?_) #[true, true, true, true, true, true, true, true, true, true, true] rfl rfl (any_of HT_.out (by kernel_rfl)) (fun _ _ _ h => h) (Or.inl ⟨by rfl, ?_⟩) ?_ ?_
                  rotate_left
                  ·
                   intro w'
                   go_simp
                   with_reducible rfl
                  rotate_left
                  ·
                   simp only [Act.put, sT, s0, sS, i64_w, i32_w]
                   rfl
                  refine done_ (done_of HT_.out (by kernel_rfl)) ?_
                  obtain ⟨Ao93, co93, eo93⟩ := Kd.R_slice HO_7.out
                  subst eo93
                  obtain ⟨Ao94, co94, eo94⟩ := Kd.R_slice HO305.out
                  subst eo94
                  try go_wp2_with (first | (go_at_call 23; refine calls_of_args (args' := #[.slice Ao93 t278.length co93, .slice Ao94 y303.length co94]) (by (try simp only [List.map_toArray, List.map_cons, List.map_nil]); first | done | rfl | (simp only [List.length_drop, List.length_take]; rfl)) ?_; (with_reducible refine (gutterref10_Nums.calls kj17 _ _ t278 _ _ y303 false _ ?side1 ?side2 ?side3 ?side4 A50.out).mono ?_); (case side1 => repeat (first | exact (rR HO_7.out).2.2 | (with_reducible refine cA ?_ _) | (with_reducible refine cN ?_ _) | (with_reducible refine cD ?_))); (case side2 => exact (rR HO_7.out).2.1); (case side3 => repeat (first | exact (rR HO305.out).2.2 | (with_reducible refine cA ?_ _) | (with_reducible refine cN ?_ _) | (with_reducible refine cD ?_))); (case side4 => exact (rR HO305.out).2.1); rintro e w' ⟨rfl, ⟨nd, rfl⟩⟩))
                  go_ret
                  exact ⟨by first | rfl | (simp [errW_none, errW_some] <;> rfl) | (simp only [← hji4, ← hji5, ← hji45]; first | rfl | (simp [errW_none, errW_some] <;> rfl)) | (simp [*, errW_none, errW_some] <;> rfl), by repeat first | exact HB.out | apply bA | apply bN | apply bD⟩
                ·
                 replace c49 := Bool.eq_false_iff.mpr c49
                 subst c49
                 have H1 : (some false) = some r := by rw [if_neg (show ¬ (false = true) by decide)] at H; exact H
                 clear H
                 have H := H1
                 clear H1
                 obtain rfl := Option.some.inj H
                 try go_wp2
                 have n0_ := m0 (rD HO_7.out)
                 have n1_ := m0 (rD HO_9.out)
                 have n2_ := m0 (bD HB.out)
                 clear HO_7
                 clear HO_9
                 clear HB
                 have HO_7 := n0_
                 have HO_9 := n1_
                 have HB := n2_
                 clear n0_ n1_ n2_
                 obtain ⟨Ao97, co97, eo97⟩ := Kd.R_slice HO_9.out
                 (first | subst eo97 | (injection eo97 with f1_ f2_ f3_; have f4_ := f1_.symm; have f5_ := f3_.symm; clear f1_ f2_ f3_; subst f4_; subst f5_))
                 have q96 : (ji5 : Int) ≤ ((t282.length : Int) : Int) := oT (by first | (with_reducible assumption) | assumption)
                 obtain ⟨i096, hi096, _, hsz96, _⟩ := info_parts info2
                 have hroom96 : t282.length ≤ co97 := (rR HO_9.out).2.1
                 have hC96 : Kd.C (Kd.int .i64) _ Ao97 t282.length t282 := (rR HO_9.out).2.2
                 have hcut96 := cut_to (P := Tryd.prog) 22 2 .i64 Tryd.underlying22 hi096 Ao97 t282.length co97 ji5 (oT (by first | (with_reducible assumption) | assumption)) q96 hroom96
                 have hr96 := Kd.C_take (m := (ji5 : Int).toNat) hC96 (by omega)
                 have hy96 : y292.length = (ji5 : Int).toNat := (by rw [Ny292.out, List.length_take]; omega)
                 rw [← Ny292.out] at hr96
                 rw [← hy96] at hcut96
                 have HR295 := m0 hr96
                 have HC295 := m0 (show y292.length ≤ co97 from by omega)
                 clear hr96 hC96 hroom96 hi096 hsz96
                 have KY96 := m0 hy96
                 clear hy96
                 have KL96 := m0 (show (ji5 : Int).toNat ≤ t282.length from by omega)
                 replace q96 := eq_true q96
                 have q98 : ((ji45) : Int) ≤ ((t282.length : Int) : Int) := oT (by first | (with_reducible assumption) | assumption)
                 obtain ⟨i098, hi098, _, hsz98, _⟩ := info_parts info2
                 have hroom98 : t282.length ≤ co97 := (rR HO_9.out).2.1
                 have hC98 : Kd.C (Kd.int .i64) _ Ao97 t282.length t282 := (rR HO_9.out).2.2
                 have q098 : (0 : Int) ≤ ((ji45) : Int) := oT (by first | (with_reducible assumption) | assumption)
                 have hcut98 := cut_from (P := Tryd.prog) 22 2 .i64 Tryd.underlying22 hi098 1 hsz98 Ao97 t282.length co97 (ji45) q098 q98
                 have hr98 := Kd.C_drop (m := ((ji45) : Int).toNat) (c := co97) hC98 (by omega) hroom98
                 obtain ⟨A98, hA98⟩ : ∃ A1, A1 = (if co97 = ((ji45) : Int).toNat then Ao97 else (Ao97 : Option Addr).map (·.add (((ji45) : Int).toNat * 1))) := ⟨_, rfl⟩
                 obtain ⟨c98, hc98⟩ : ∃ c1, c1 = co97 - ((ji45) : Int).toNat := ⟨_, rfl⟩
                 have hy98 : y299.length = t282.length - ((ji45) : Int).toNat := (by rw [Ny299.out, List.length_drop] <;> omega)
                 rw [show (t282).drop ((ji45) : Int).toNat = y299 from Ny299.out.symm] at hr98
                 replace hr98 : Kd.C (Kd.int .i64) _ A98 y299.length y299 := (by rw [hA98]; exact hr98)
                 rw [← hy98, ← hA98, ← hc98] at hcut98
                 have HR302 := m0 hr98
                 have HC302 := m0 (show y299.length ≤ c98 from by rw [hy98, hc98]; exact Nat.sub_le_sub_right hroom98 _)
                 clear hr98 hC98 hroom98 hi098 hsz98 hc98
                 have KY98 := m0 hy98
                 have KA98 := m0 hA98
                 clear hy98 hA98
                 have KL98 := m0 (show ((ji45) : Int).toNat ≤ t282.length from by omega)
                 replace q98 := eq_true q98
                 refine start_ (n := 11) (S := fun w' => True) (ds := []) #[false, false, false, false, false, false, false, false, false, false, false] (by kernel_rfl) rfl rfl trivial (fun hHeld => ?_); refine with_tabW gutterlaw10_MarginNothing.tab15 gutterlaw10_MarginNothing.bits15 (fun HT_ HW_ => ?_)
                 generalize wc.drew = w95 at HO_7 HO_9 HB HR295 HR302 hHeld ⊢
                 refine pure_ (i := 0) (N := some 94) (v := ?_) (a' := ?_) #[true, false, false, false, false, false, false, false, false, false, false] rfl rfl (any_of HT_.out (by kernel_rfl)) (fun _ _ _ h => h) (Or.inl ⟨by rfl, ?_⟩) ?_ ?_
                 rotate_left
                 ·
                  intro w'
                  go_simp
                  with_reducible rfl
                 rotate_left
                 ·
                  simp only [Act.put, sT, s0, sS, i64_w, i32_w]
                  rfl
                 refine pure_ (i := 1) (N := some 95) (v := ?_) (a' := ?_) #[true, true, false, false, false, false, false, false, false, false, false] rfl rfl (any_of HT_.out (by kernel_rfl)) (fun _ _ _ h => h) (Or.inl ⟨by rfl, ?_⟩) ?_ ?_
                 rotate_left
                 ·
                  intro w'
                  go_simp
                  with_reducible rfl
                 rotate_left
                 ·
                  simp only [Act.put, sT, s0, sS, i64_w, i32_w]
                  rfl
                 refine pure_ (i := 2) (N := some 96) (v := ?_) (a' := ?_) #[true, true, true, false, false, false, false, false, false, false, false] rfl rfl (any_of HT_.out (by kernel_rfl)) (fun _ _ _ h => h) (Or.inl ⟨by rfl, ?_⟩) ?_ ?_
                 rotate_left
                 ·
                  intro w'
                  go_simp
                  with_reducible rfl
                 rotate_left
                 ·
                  simp only [Act.put, sT, s0, sS, i64_w, i32_w]
                  rfl
                 refine pure_ (i := 3) (N := some 97) (v := ?_) (a' := ?_) #[true, true, true, true, false, false, false, false, false, false, false] rfl rfl (any_of HT_.out (by kernel_rfl)) (fun _ _ _ h => h) (Or.inl ⟨by rfl, ?_⟩) ?_ ?_
                 rotate_left
                 ·
                  intro w'
                  go_simp
                  with_reducible rfl
                 rotate_left
                 ·
                  simp only [Act.put, sT, s0, sS, i64_w, i32_w]
                  rfl
                 refine pure_ (i := 5) (N := some 99) (v := ?_) (a' := ?_) #[true, true, true, true, false, true, false, false, false, false, false] rfl rfl (any_of HT_.out (by kernel_rfl)) (fun _ _ _ h => h) (Or.inl ⟨by rfl, ?_⟩) ?_ ?_
                 rotate_left
                 ·
                  intro w'
                  go_simp
                  with_reducible rfl
                 rotate_left
                 ·
                  simp only [Act.put, sT, s0, sS, i64_w, i32_w]
                  rfl
                 refine pure_ (i := 6) (N := some 100) (v := ?_) (a' := ?_) #[true, true, true, true, false, true, true, false, false, false, false] rfl rfl (any_of HT_.out (by kernel_rfl)) (fun _ _ _ h => h) (Or.inl ⟨by rfl, ?_⟩) ?_ ?_
                 rotate_left
                 ·
                  intro w'
                  go_simp
                  with_reducible rfl
                 rotate_left
                 ·
                  simp only [Act.put, sT, s0, sS, i64_w, i32_w]
                  rfl
                 refine pure_ (i := 7) (N := some 101) (v := ?_) (a' := ?_) #[true, true, true, true, false, true, true, true, false, false, false] rfl rfl (any_of HT_.out (by kernel_rfl)) (fun _ _ _ h => h) (Or.inl ⟨by rfl, ?_⟩) ?_ ?_
                 rotate_left
                 ·
                  intro w'
                  go_simp
                  with_reducible rfl
                 rotate_left
                 ·
                  simp only [Act.put, sT, s0, sS, i64_w, i32_w]
                  rfl
                 refine pure_ (i := 8) (N := some 102) (v := ?_) (a' := ?_) #[true, true, true, true, false, true, true, true, true, false, false] rfl rfl (any_of HT_.out (by kernel_rfl)) (fun _ _ _ h => h) (Or.inl ⟨by rfl, ?_⟩) ?_ ?_
                 rotate_left
                 ·
                  intro w'
                  go_simp
                  with_reducible rfl
                 rotate_left
                 ·
                  simp only [Act.put, sT, s0, sS, i64_w, i32_w]
                  rfl
                 refine one_ (i := 4) (N := some 98) #[true, true, true, true, true, true, true, true, true, false, false] rfl rfl (one_of HT_.out (by kernel_rfl)) (by decide) (fun K hK => ?_)
                 refine Kd.R_append_rows_step (Kd.int .i64) (w0 := w) w.heap.size (by rfl) (.tmp 94) (.tmp 97) 22 2 (.int .i64 0) 8 rfl Tryd.underlying22 info2 rfl (by decide) (by omega) (.slice none 0 0) ([] : List Int) y292 _ _ _ (fun k_ => some k_ ≠ (v280 : Value).ownBlock ∧ some k_ ≠ (.slice Ao97 t282.length co97 : Value).ownBlock) (fun _ => False) rfl rfl ?aO ?aR (fun _ _ h => h) (fun _ h => h.elim) ?aF ?aB ?aS ?aL ?_
                 (case aR => repeat (first | exact (by repeat (first | (with_reducible exact HR295.out) | (with_reducible refine cA ?_ _) | (with_reducible refine cN ?_ _) | (with_reducible refine cD ?_) | exact HR295.out)) | (with_reducible refine cA ?_ _) | (with_reducible refine cN ?_ _) | (with_reducible refine cD ?_)))
                 (case aB => exact (by repeat first | exact HB.out | apply bA | apply bN | apply bD))
                 (case aF => exact (fun k_ hk => ⟨Kd.fresh' (rT (by (with_reducible repeat first | apply rA | apply rN | apply rD); exact HO_7.out)) k_ hk, Kd.fresh' (rT (by (with_reducible repeat first | apply rA | apply rN | apply rD); exact HO_9.out)) k_ hk⟩))
                 (case aO => exact ((Kd.R_nil _ _ _ _ (fun k_ => some k_ ≠ (v280 : Value).ownBlock ∧ some k_ ≠ (.slice Ao97 t282.length co97 : Value).ownBlock))))
                 (case aS => exact (bZ (by repeat first | exact HB.out | apply bA | apply bN | apply bD)))
                 (case aL => have := LMc44.out; omega)
                 intro v297 w99 ho hb hg hat
                 rw [← Ny296.out] at ho
                 have n0_ := m0 (Kd.R_after (Kd.R_apart_nil (by (with_reducible repeat first | apply rA | apply rN | apply rD); exact HO_7.out)) hg hat)
                 have n1_ := m0 (Kd.R_after (Kd.R_apart_nil (by (with_reducible repeat first | apply rA | apply rN | apply rD); exact HO_9.out)) hg hat)
                 have n2_ := m0 (hb)
                 have n3_ := m0 ((show Kd.C (Kd.int .i64) w99 Ao97 y292.length y292 from by rw [Ny292.out]; exact Kd.C_take (m := (ji5 : Int).toNat) ((rR (Kd.R_after (Kd.R_apart_nil (by (with_reducible repeat first | apply rA | apply rN | apply rD); exact HO_9.out)) hg hat)).2.2) KL96.out))
                 have n4_ := m0 ((show Kd.C (Kd.int .i64) w99 A98 y299.length y299 from by rw [Ny299.out, KA98.out]; exact Kd.C_drop (m := ((ji45) : Int).toNat) (c := co97) ((rR (Kd.R_after (Kd.R_apart_nil (by (with_reducible repeat first | apply rA | apply rN | apply rD); exact HO_9.out)) hg hat)).2.2) KL98.out ((rR (Kd.R_after (Kd.R_apart_nil (by (with_reducible repeat first | apply rA | apply rN | apply rD); exact HO_9.out)) hg hat)).2.1)))
                 have n5_ := m0 (ho)
                 clear HO_7
                 clear HO_9
                 clear HB
                 clear HR295
                 clear HR302
                 have HO_7 := n0_
                 have HO_9 := n1_
                 have HB := n2_
                 have HR295 := n3_
                 have HR302 := n4_
                 have HO298 := n5_
                 clear n0_ n1_ n2_ n3_ n4_ n5_
                 clear ho hb hg hat
                 refine hK.out _ _ trivial (fun hHeld => ?_)
                 clear hK K
                 refine norm_ (a' := ?_) ?_ ?_
                 rotate_left
                 ·
                  show Act.put _ (some 98) _ = _
                  simp only [Act.put, sT, s0, sS, i64_w, i32_w]
                  rfl
                 refine one_ (i := 9) (N := some 103) #[true, true, true, true, true, true, true, true, true, true, false] rfl rfl (one_of HT_.out (by kernel_rfl)) (by decide) (fun K hK => ?_)
                 refine Kd.R_append_rows_step (Kd.int .i64) (w0 := w) w.heap.size (by rfl) (.tmp 98) (.tmp 102) 22 2 (.int .i64 0) 8 rfl Tryd.underlying22 info2 rfl (by decide) (by omega) v297 y296 y299 _ _ _ (fun k_ => some k_ ≠ (v280 : Value).ownBlock ∧ some k_ ≠ (.slice Ao97 t282.length co97 : Value).ownBlock) (fun _ => False) rfl rfl ?aO ?aR (fun _ _ h => h) (fun _ h => h.elim) ?aF ?aB ?aS ?aL ?_
                 (case aR => repeat (first | exact (by repeat (first | (with_reducible exact HR302.out) | (with_reducible refine cA ?_ _) | (with_reducible refine cN ?_ _) | (with_reducible refine cD ?_) | exact HR302.out)) | (with_reducible refine cA ?_ _) | (with_reducible refine cN ?_ _) | (with_reducible refine cD ?_)))
                 (case aB => exact (by repeat first | exact HB.out | apply bA | apply bN | apply bD))
                 (case aF => exact (fun k_ hk => ⟨Kd.fresh' (rT (by (with_reducible repeat first | apply rA | apply rN | apply rD); exact HO_7.out)) k_ hk, Kd.fresh' (rT (by (with_reducible repeat first | apply rA | apply rN | apply rD); exact HO_9.out)) k_ hk⟩))
                 (case aO => exact (by (with_reducible repeat first | apply rA | apply rN | apply rD); exact HO298.out))
                 (case aS => exact (bZ (by repeat first | exact HB.out | apply bA | apply bN | apply bD)))
                 (case aL => have := LMc48.out; omega)
                 intro v304 w100 ho hb hg hat
                 rw [← Ny303.out] at ho
                 have n0_ := m0 (Kd.R_after (ok := (fun k_ => some k_ ≠ (.slice Ao97 t282.length co97 : Value).ownBlock)) (by (with_reducible repeat first | apply rA | apply rN | apply rD); exact HO_7.out) hg hat)
                 have n1_ := m0 (Kd.R_after (ok := (fun k_ => some k_ ≠ (v280 : Value).ownBlock)) (by (with_reducible repeat first | apply rA | apply rN | apply rD); exact HO_9.out) hg hat)
                 have n2_ := m0 (hb)
                 have n3_ := m0 ((show Kd.C (Kd.int .i64) w100 Ao97 y292.length y292 from by rw [Ny292.out]; exact Kd.C_take (m := (ji5 : Int).toNat) ((rR (Kd.R_after (ok := (fun k_ => some k_ ≠ (v280 : Value).ownBlock)) (by (with_reducible repeat first | apply rA | apply rN | apply rD); exact HO_9.out) hg hat)).2.2) KL96.out))
                 have n4_ := m0 ((show Kd.C (Kd.int .i64) w100 A98 y299.length y299 from by rw [Ny299.out, KA98.out]; exact Kd.C_drop (m := ((ji45) : Int).toNat) (c := co97) ((rR (Kd.R_after (ok := (fun k_ => some k_ ≠ (v280 : Value).ownBlock)) (by (with_reducible repeat first | apply rA | apply rN | apply rD); exact HO_9.out) hg hat)).2.2) KL98.out ((rR (Kd.R_after (ok := (fun k_ => some k_ ≠ (v280 : Value).ownBlock)) (by (with_reducible repeat first | apply rA | apply rN | apply rD); exact HO_9.out) hg hat)).2.1)))
                 have n5_ := m0 (ho)
                 clear HO_7
                 clear HO_9
                 clear HB
                 clear HR295
                 clear HR302
                 clear HO298
                 have HO_7 := n0_
                 have HO_9 := n1_
                 have HB := n2_
                 have HR295 := n3_
                 have HR302 := n4_
                 have HO305 := n5_
                 clear n0_ n1_ n2_ n3_ n4_ n5_
                 clear ho hb hg hat
                 refine hK.out _ _ trivial (fun hHeld => ?_)
                 clear hK K
                 refine norm_ (a' := ?_) ?_ ?_
                 rotate_left
                 ·
                  show Act.put _ (some 103) _ = _
                  simp only [Act.put, sT, s0, sS, i64_w, i32_w]
                  rfl
                 refine pure_ (i := 10) (N := some 17) (v := ?_) (a' := ?_) #[true, true, true, true, true, true, true, true, true, true, true] rfl rfl (any_of HT_.out (by kernel_rfl)) (fun _ _ _ h => h) (Or.inl ⟨by rfl, ?_⟩) ?_ ?_
                 rotate_left
                 ·
                  intro w'
                  go_simp
                  with_reducible rfl
                 rotate_left
                 ·
                  simp only [Act.put, sT, s0, sS, i64_w, i32_w]
                  rfl
                 refine done_ (done_of HT_.out (by kernel_rfl)) ?_
                 try go_wp2
                 go_ret
                 exact ⟨by first | rfl | (simp [errW_none, errW_some] <;> rfl) | (simp only [← hji4, ← hji5, ← hji45]; first | rfl | (simp [errW_none, errW_some] <;> rfl)) | (simp [*, errW_none, errW_some] <;> rfl), by repeat first | exact HB.out | apply bA | apply bN | apply bD⟩
               ·
                rw [if_neg c48] at H
                exact absurd H (by simp)
              ·
               rw [if_neg c47] at H
               exact absurd H (by simp)
             ·
              rw [if_neg c46] at H
              exact absurd H (by simp)
            ·
             rw [if_neg c44] at H
             exact absurd H (by simp)
           ·
            rw [if_neg c43] at H
            exact absurd H (by simp)
          ·
           rw [if_neg c42] at H
           exact absurd H (by simp)
      ·
       rw [if_neg c17] at H
       have c17b0 : (t279 == 0) = false := beq_eq_false_iff_ne.mpr c17
       have c17b1 : (t279 != 0) = true := bne_iff_ne.mpr c17
       by_cases c101 : t253 = true
       ·
        subst c101
        have H1 : (if t283 = t279 then (if t288 = t279 then (some (t291 == t279)) else (some false)) else (some false)) = some r := by rw [if_pos rfl] at H; exact H
        clear H
        have H := H1
        clear H1
        by_cases c102 : t283 = t279
        ·
         rw [if_pos c102] at H
         have c102b0 : (t283 == t279) = true := beq_iff_eq.mpr c102
         have c102b1 : (t283 != t279) = false := bne_eq_false_iff_eq.mpr c102
         clear c102
         by_cases c103 : t288 = t279
         ·
          rw [if_pos c103] at H
          have c103b0 : (t288 == t279) = true := beq_iff_eq.mpr c103
          have c103b1 : (t288 != t279) = false := bne_eq_false_iff_eq.mpr c103
          clear c103
          obtain rfl := Option.some.inj H
          go_enter Tryd.func6, Tryd.ntmps6
          try go_wp2_with (first | ((with_reducible refine gate_callee (f := 10) rfl ?_); refine goesL_ (some 18) rfl rfl Tryd.func10 (by kernel_rfl) rfl #[] rfl (by (try simp only [List.map_toArray, List.map_cons, List.map_nil]); first | done | rfl | (simp only [List.length_drop, List.length_take]; rfl)) ?_; (with_reducible refine (gutterlaw10_shown.calls k  true _ A3.out (GOK.below HG.out (by repeat first | exact HB.out | apply bA | apply bN | apply bD))).mono ?_); rintro e w104 ⟨rfl, hb⟩; refine ⟨_, rfl, ?_⟩; have n0_ := m0 (below_step (by repeat first | exact HB.out | apply bA | apply bN | apply bD) hb); clear HB; have HB := n0_; clear n0_; (try clear hb); (try clear hb2); (try clear hk); (try clear hi); have hroom105 : l0.length ≤ c0 := HC0.out; have hr105 := C_takeN 40 HR0.out; rw [← Ny254.out] at hr105; have hy105 : y254.length ≤ l0.length := (by rw [Ny254.out, List.length_take]; omega); have HR257 := m0 hr105; have HC257 := m0 (show y254.length ≤ c0 from by omega); have KR105 := m0 hroom105; clear hr105 hroom105; have KY105 := m0 hy105; clear hy105) | (go_at_call 14; refine calls_of_args (args' := #[.slice A0 l0.length c0]) (by (try simp only [List.map_toArray, List.map_cons, List.map_nil]); first | done | rfl) ?_; refine (cut_14 A0 c0 l0 y254 _ KR105.out Ny254.out).mono ?_; rintro e w' ⟨rfl, rfl⟩))
          have n0_ := m0 (bD HB.out)
          clear HB
          have HB := n0_
          clear n0_
          have q107 : ((ji5) : Int) ≤ ((y254.length : Int) : Int) := oT (by first | (with_reducible assumption) | assumption)
          obtain ⟨i0107, hi0107, _, hsz107, _⟩ := info_parts info42
          have hroom107 : y254.length ≤ c0 := HC257.out
          have hC107 : Kd.C k42 _ A0 y254.length y254 := HR257.out
          have hcut107 := cut_to (P := Tryd.prog) 30 42 .i64 Tryd.underlying30 hi0107 A0 y254.length c0 (ji5) (oT (by first | (with_reducible assumption) | assumption)) q107 hroom107
          have hr107 := Kd.C_take (m := ((ji5) : Int).toNat) hC107 (by omega)
          have hy107 : y258.length = ((ji5) : Int).toNat := (by rw [Ny258.out, List.length_take]; omega)
          rw [← Ny258.out] at hr107
          rw [← hy107] at hcut107
          have HR261 := m0 hr107
          have HC261 := m0 (show y258.length ≤ c0 from by omega)
          clear hr107 hC107 hroom107 hi0107 hsz107
          have KY107 := m0 hy107
          clear hy107
          replace q107 := eq_true q107
          have q108 : ((ji5) : Int) ≤ ((y254.length : Int) : Int) := oT (by first | (with_reducible assumption) | assumption)
          obtain ⟨i0108, hi0108, _, hsz108, _⟩ := info_parts info42
          have hroom108 : y254.length ≤ c0 := HC257.out
          have hC108 : Kd.C k42 _ A0 y254.length y254 := HR257.out
          have q0108 : (0 : Int) ≤ ((ji5) : Int) := oT (by first | (with_reducible assumption) | assumption)
          have hcut108 := cut_from (P := Tryd.prog) 30 42 .i64 Tryd.underlying30 hi0108 3 hsz108 A0 y254.length c0 (ji5) q0108 q108
          have hr108 := Kd.C_drop (m := ((ji5) : Int).toNat) (c := c0) hC108 (by omega) hroom108
          obtain ⟨A108, hA108⟩ : ∃ A1, A1 = (if c0 = ((ji5) : Int).toNat then A0 else (A0 : Option Addr).map (·.add (((ji5) : Int).toNat * 3))) := ⟨_, rfl⟩
          obtain ⟨c108, hc108⟩ : ∃ c1, c1 = c0 - ((ji5) : Int).toNat := ⟨_, rfl⟩
          have hy108 : y271.length = y254.length - ((ji5) : Int).toNat := (by rw [Ny271.out, List.length_drop] <;> omega)
          rw [show (y254).drop ((ji5) : Int).toNat = y271 from Ny271.out.symm] at hr108
          replace hr108 : Kd.C k42 _ A108 y271.length y271 := (by rw [hA108]; exact hr108)
          rw [← hy108, ← hA108, ← hc108] at hcut108
          have HR274 := m0 hr108
          have HC274 := m0 (show y271.length ≤ c108 from by rw [hy108, hc108]; exact Nat.sub_le_sub_right hroom108 _)
          clear hr108 hC108 hroom108 hi0108 hsz108 hc108
          have KY108 := m0 hy108
          have KA108 := m0 hA108
          clear hy108 hA108
          replace q108 := eq_true q108
          refine start_ (n := 13) (S := fun w' => True) (ds := []) #[false, false, false, false, false, false, false, false, false, false, false, false, false] (by kernel_rfl) rfl rfl trivial (fun hHeld => ?_); refine with_tabW gutterlaw10_MarginNothing.tab5 gutterlaw10_MarginNothing.bits5 (fun HT_ HW_ => ?_)
          generalize w104.drew = w106 at HB HR261 HR274 hHeld ⊢
          refine pure_ (i := 0) (N := some 26) (v := ?_) (a' := ?_) #[true, false, false, false, false, false, false, false, false, false, false, false, false] rfl rfl (any_of HT_.out (by kernel_rfl)) (fun _ _ _ h => h) (Or.inl ⟨by rfl, ?_⟩) ?_ ?_
          rotate_left
          ·
           intro w'
           go_simp
           with_reducible rfl
          rotate_left
          ·
           simp only [Act.put, sT, s0, sS, i64_w, i32_w]
           rfl
          refine pure_ (i := 1) (N := some 27) (v := ?_) (a' := ?_) #[true, true, false, false, false, false, false, false, false, false, false, false, false] rfl rfl (any_of HT_.out (by kernel_rfl)) (fun _ _ _ h => h) (Or.inl ⟨by rfl, ?_⟩) ?_ ?_
          rotate_left
          ·
           intro w'
           go_simp
           with_reducible rfl
          rotate_left
          ·
           simp only [Act.put, sT, s0, sS, i64_w, i32_w]
           rfl
          refine pure_ (i := 2) (N := some 28) (v := ?_) (a' := ?_) #[true, true, true, false, false, false, false, false, false, false, false, false, false] rfl rfl (any_of HT_.out (by kernel_rfl)) (fun _ _ _ h => h) (Or.inl ⟨by rfl, ?_⟩) ?_ ?_
          rotate_left
          ·
           intro w'
           go_simp
           with_reducible rfl
          rotate_left
          ·
           simp only [Act.put, sT, s0, sS, i64_w, i32_w]
           rfl
          refine pure_ (i := 3) (N := some 29) (v := ?_) (a' := ?_) #[true, true, true, true, false, false, false, false, false, false, false, false, false] rfl rfl (any_of HT_.out (by kernel_rfl)) (fun _ _ _ h => h) (Or.inl ⟨by rfl, ?_⟩) ?_ ?_
          rotate_left
          ·
           intro w'
           go_simp
           with_reducible rfl
          rotate_left
          ·
           simp only [Act.put, sT, s0, sS, i64_w, i32_w]
           rfl
          refine pure_ (i := 5) (N := some 31) (v := ?_) (a' := ?_) #[true, true, true, true, false, true, false, false, false, false, false, false, false] rfl rfl (any_of HT_.out (by kernel_rfl)) (fun _ _ _ h => h) (Or.inl ⟨by rfl, ?_⟩) ?_ ?_
          rotate_left
          ·
           intro w'
           go_simp
           with_reducible rfl
          rotate_left
          ·
           simp only [Act.put, sT, s0, sS, i64_w, i32_w]
           rfl
          refine pure_ (i := 8) (N := some 34) (v := ?_) (a' := ?_) #[true, true, true, true, false, true, false, false, true, false, false, false, false] rfl rfl (any_of HT_.out (by kernel_rfl)) (fun _ _ _ h => h) (Or.inl ⟨by rfl, ?_⟩) ?_ ?_
          rotate_left
          ·
           intro w'
           go_simp
           with_reducible rfl
          rotate_left
          ·
           simp only [Act.put, sT, s0, sS, i64_w, i32_w]
           rfl
          refine pure_ (i := 9) (N := some 35) (v := ?_) (a' := ?_) #[true, true, true, true, false, true, false, false, true, true, false, false, false] rfl rfl (any_of HT_.out (by kernel_rfl)) (fun _ _ _ h => h) (Or.inl ⟨by rfl, ?_⟩) ?_ ?_
          rotate_left
          ·
           intro w'
           go_simp
           with_reducible rfl
          rotate_left
          ·
           simp only [Act.put, sT, s0, sS, i64_w, i32_w]
           rfl
          refine pure_ (i := 10) (N := some 36) (v := ?_) (a' := ?_) #[true, true, true, true, false, true, false, false, true, true, true, false, false] rfl rfl (any_of HT_.out (by kernel_rfl)) (fun _ _ _ h => h) (Or.inl ⟨by rfl, ?_⟩) ?_ ?_
          rotate_left
          ·
           intro w'
           go_simp
           with_reducible rfl
          rotate_left
          ·
           simp only [Act.put, sT, s0, sS, i64_w, i32_w]
           rfl
          refine join_ (σ := Value × Value) 3 #[true, true, true, true, true, true, true, false, true, true, true, false, false] (fun s_ => [(30, s_.1), (32, s_.2)]) (fun s_ w' => (Kd.R k42 42 w' w.heap.size (fun k_ => some k_ ≠ (s_.2 : Value).ownBlock) s_.1 y262) ∧ (Kd.R k42 42 w' w.heap.size (fun k_ => some k_ ≠ (s_.1 : Value).ownBlock) s_.2 y265) ∧ (Below w.heap.size w w')) ?_ ?_
          rotate_left
          ·
           intro hCont
           refine two_ (i := 4) (j := 6) (Ni := some 30) (Nj := some 32) #[true, true, true, true, true, true, false, false, true, true, true, false, false] #[true, true, true, true, false, true, true, false, true, true, true, false, false] rfl rfl rfl rfl (two_of HT_.out (by kernel_rfl)) (by decide) (by decide) (fun K hK => ?_) (fun K hK => ?_)
           ·
            skip
            refine Kd.R_append_rows_step k42 (w0 := w) w.heap.size (by rfl) (.tmp 26) (.tmp 29) 30 42 (.agg #[(.int .i64 0), (.int .i64 0), (.int .i64 0)]) 24 rfl Tryd.underlying30 info42 rfl (by decide) (by omega) (.slice none 0 0) ([] : List (S42)) y258 _ _ _ (fun _ => True) (fun _ => False) rfl rfl ?aO ?aR (fun _ _ h => h) (fun _ h => h.elim) ?aF ?aB ?aS ?aL ?_
            (case aR => repeat (first | exact (cB HR261.out HB.out) | (with_reducible refine cA ?_ _) | (with_reducible refine cN ?_ _) | (with_reducible refine cD ?_)))
            (case aB => exact (by repeat first | exact HB.out | apply bA | apply bN | apply bD))
            (case aF => exact (fun _ _ => trivial))
            (case aO => exact ((Kd.R_nil _ _ _ _ (fun _ => True))))
            (case aS => exact (bZ (by repeat first | exact HB.out | apply bA | apply bN | apply bD)))
            (case aL => have := LMc8.out; omega)
            intro v263 w109 ho hb hg hat
            rw [← Ny262.out] at ho
            have n0_ := m0 (hb)
            have n1_ := m0 (ho)
            clear HB
            have HB := n0_
            have HO264 := n1_
            clear n0_ n1_
            clear ho hb hg hat
            refine hK.out _ _ trivial (fun hHeld => ?_)
            clear hK K
            refine norm_ (a' := ?_) ?_ ?_
            rotate_left
            ·
             show Act.put _ (some 30) _ = _
             simp only [Act.put, sT, s0, sS, i64_w, i32_w]
             rfl
            refine one_ (i := 6) (N := some 32) #[true, true, true, true, true, true, true, false, true, true, true, false, false] rfl rfl (one_of HT_.out (by kernel_rfl)) (by decide) (fun K hK => ?_)
            refine Kd.R_lit_step k42 _ 42 ?hg (N := 32) ?hd (xs := ([(⟨0, 0, 0⟩ : S42)] : List (S42))) (inner := [.int .i64 0, .int .i64 0, .int .i64 0]) (ok := fun _ => True) (okp := fun _ => True) ?hr ?hp (fun _ hk => hk) trivial (Below.refl _ _) (Nat.le_refl _) (by simp) ?_; (case hd => rfl); (case hg => rfl); (case hr => first | (go_simp; done) | (go_simp; rfl)); (case hp => exact (Reps.c3 (show Kd.M k42 _ _ _ (⟨0, 0, 0⟩ : S42) [.int .i64 0, .int .i64 0, .int .i64 0] from (k42_mkM _ _ _ (⟨0, 0, 0⟩ : S42) )) (Reps.none _ _)))
            intro v266 w110 ho111 hb hg_ hnew_
            clear hg_ hnew_
            (first | rw [← Ny265.out] at ho111 | (simp only [Int.reduceToNat] at ho111; rw [← Ny265.out] at ho111))
            have n0_ := m0 (Kd.R_elder' (by (with_reducible repeat first | apply rA | apply rN | apply rD); exact HO264.out) (Kd.R_base ho111) hb)
            have n1_ := m0 (rL (Kd.R_new' ho111 (rT (by (with_reducible repeat first | apply rA | apply rN | apply rD); exact HO264.out))) (bZ (by repeat first | exact HB.out | apply bA | apply bN | apply bD)))
            have n2_ := m0 (below_step (by repeat first | exact HB.out | apply bA | apply bN | apply bD) hb)
            clear HO264
            clear HB
            have HO264 := n0_
            have HO267 := n1_
            have HB := n2_
            clear n0_ n1_ n2_
            clear hb ho111
            refine hK.out _ _ trivial (fun hHeld => ?_)
            clear hK K
            refine norm_ (a' := ?_) ?_ ?_
            rotate_left
            ·
             show Act.put _ (some 32) _ = _
             simp only [Act.put, sT, s0, sS, i64_w, i32_w]
             rfl
            exact norm_ (by simp only [putAll, Act.put, sT, s0, sS]) (hCont (v263, v266) _ ⟨(by (with_reducible repeat first | apply rA | apply rN | apply rD); exact Kd.R_mono HO264.out (fun _ hk => hk.2)), (by (with_reducible repeat first | apply rA | apply rN | apply rD); exact Kd.R_mono HO267.out (fun _ hk => hk.2)), (by repeat first | exact HB.out | apply bA | apply bN | apply bD)⟩)
           ·
            skip
            refine Kd.R_lit_step k42 _ 42 ?hg (N := 32) ?hd (xs := ([(⟨0, 0, 0⟩ : S42)] : List (S42))) (inner := [.int .i64 0, .int .i64 0, .int .i64 0]) (ok := fun _ => True) (okp := fun _ => True) ?hr ?hp (fun _ hk => hk) trivial (Below.refl _ _) (Nat.le_refl _) (by simp) ?_; (case hd => rfl); (case hg => rfl); (case hr => first | (go_simp; done) | (go_simp; rfl)); (case hp => exact (Reps.c3 (show Kd.M k42 _ _ _ (⟨0, 0, 0⟩ : S42) [.int .i64 0, .int .i64 0, .int .i64 0] from (k42_mkM _ _ _ (⟨0, 0, 0⟩ : S42) )) (Reps.none _ _)))
            intro v266 w109 ho110 hb hg_ hnew_
            clear hg_ hnew_
            (first | rw [← Ny265.out] at ho110 | (simp only [Int.reduceToNat] at ho110; rw [← Ny265.out] at ho110))
            have n0_ := m0 (rL ho110 (bZ (by repeat first | exact HB.out | apply bA | apply bN | apply bD)))
            have n1_ := m0 (below_step (by repeat first | exact HB.out | apply bA | apply bN | apply bD) hb)
            clear HB
            have HO267 := n0_
            have HB := n1_
            clear n0_ n1_
            clear hb ho110
            refine hK.out _ _ trivial (fun hHeld => ?_)
            clear hK K
            refine norm_ (a' := ?_) ?_ ?_
            rotate_left
            ·
             show Act.put _ (some 32) _ = _
             simp only [Act.put, sT, s0, sS, i64_w, i32_w]
             rfl
            refine one_ (i := 4) (N := some 30) #[true, true, true, true, true, true, true, false, true, true, true, false, false] rfl rfl (one_of HT_.out (by kernel_rfl)) (by decide) (fun K hK => ?_)
            refine Kd.R_append_rows_step k42 (w0 := w) w.heap.size (by rfl) (.tmp 26) (.tmp 29) 30 42 (.agg #[(.int .i64 0), (.int .i64 0), (.int .i64 0)]) 24 rfl Tryd.underlying30 info42 rfl (by decide) (by omega) (.slice none 0 0) ([] : List (S42)) y258 _ _ _ (fun k_ => some k_ ≠ (v266 : Value).ownBlock) (fun _ => False) rfl rfl ?aO ?aR (fun _ _ h => h) (fun _ h => h.elim) ?aF ?aB ?aS ?aL ?_
            (case aR => repeat (first | exact (cB HR261.out HB.out) | (with_reducible refine cA ?_ _) | (with_reducible refine cN ?_ _) | (with_reducible refine cD ?_)))
            (case aB => exact (by repeat first | exact HB.out | apply bA | apply bN | apply bD))
            (case aF => exact (fun k_ hk => Kd.fresh' (rT (by (with_reducible repeat first | apply rA | apply rN | apply rD); exact HO267.out)) k_ hk))
            (case aO => exact ((Kd.R_nil _ _ _ _ (fun k_ => some k_ ≠ (v266 : Value).ownBlock))))
            (case aS => exact (bZ (by repeat first | exact HB.out | apply bA | apply bN | apply bD)))
            (case aL => have := LMc8.out; omega)
            intro v263 w111 ho hb hg hat
            rw [← Ny262.out] at ho
            have n0_ := m0 (Kd.R_after (Kd.R_apart_nil (by (with_reducible repeat first | apply rA | apply rN | apply rD); exact HO267.out)) hg hat)
            have n1_ := m0 (hb)
            have n2_ := m0 (ho)
            clear HO267
            clear HB
            have HO267 := n0_
            have HB := n1_
            have HO264 := n2_
            clear n0_ n1_ n2_
            clear ho hb hg hat
            refine hK.out _ _ trivial (fun hHeld => ?_)
            clear hK K
            refine norm_ (a' := ?_) ?_ ?_
            rotate_left
            ·
             show Act.put _ (some 30) _ = _
             simp only [Act.put, sT, s0, sS, i64_w, i32_w]
             rfl
            exact norm_ (by simp only [putAll, Act.put, sT, s0, sS]) (hCont (v263, v266) _ ⟨(by (with_reducible repeat first | apply rA | apply rN | apply rD); exact HO264.out), (by (with_reducible repeat first | apply rA | apply rN | apply rD); exact Kd.R_mono HO267.out (fun _ hk => hk.2)), (by repeat first | exact HB.out | apply bA | apply bN | apply bD)⟩)
          rintro ⟨v263, v266⟩ w112 ⟨h0_, h1_, h2_⟩
          have n0_ : Aside0 (Kd.R k42 42 w112 w.heap.size (fun k_ => some k_ ≠ (v266 : Value).ownBlock) v263 y262) := ⟨h0_⟩
          have n1_ : Aside0 (Kd.R k42 42 w112 w.heap.size (fun k_ => some k_ ≠ (v263 : Value).ownBlock) v266 y265) := ⟨h1_⟩
          have n2_ : Aside0 (Below w.heap.size w w112) := ⟨h2_⟩
          clear HB
          clear h0_ h1_ h2_
          have HO264 := n0_
          have HO267 := n1_
          have HB := n2_
          clear n0_ n1_ n2_
          have hHeld := trivial
          obtain ⟨Ao114, co114, eo114⟩ := Kd.R_slice HO267.out
          (first | subst eo114 | (injection eo114 with f1_ f2_ f3_; have f4_ := f1_.symm; have f5_ := f3_.symm; clear f1_ f2_ f3_; subst f4_; subst f5_))
          refine norm_ (a' := ?_) ?_ ?_
          rotate_left
          ·
           simp only [putAll, Act.put, sT, s0, sS]
           rfl
          refine one_ (i := 7) (N := some 33) #[true, true, true, true, true, true, true, true, true, true, true, false, false] rfl rfl (one_of HT_.out (by kernel_rfl)) (by decide) (fun K hK => ?_)
          refine Kd.R_append_rows_step k42 (w0 := w) w.heap.size (by rfl) (.tmp 30) (.tmp 32) 30 42 (.agg #[(.int .i64 0), (.int .i64 0), (.int .i64 0)]) 24 rfl Tryd.underlying30 info42 rfl (by decide) (by omega) v263 y262 y265 _ _ _ (fun k_ => some k_ ≠ (.slice Ao114 y265.length co114 : Value).ownBlock) (fun _ => False) rfl rfl ?aO ?aR (fun _ _ h => h) (fun _ h => h.elim) ?aF ?aB ?aS ?aL ?_
          (case aR => repeat (first | exact (rR HO267.out).2.2 | (with_reducible refine cA ?_ _) | (with_reducible refine cN ?_ _) | (with_reducible refine cD ?_)))
          (case aB => exact (by repeat first | exact HB.out | apply bA | apply bN | apply bD))
          (case aF => exact (fun k_ hk => Kd.fresh' (rT (by (with_reducible repeat first | apply rA | apply rN | apply rD); exact HO267.out)) k_ hk))
          (case aO => exact (by (with_reducible repeat first | apply rA | apply rN | apply rD); exact HO264.out))
          (case aS => exact (bZ (by repeat first | exact HB.out | apply bA | apply bN | apply bD)))
          (case aL => have := LMc9.out; omega)
          intro v269 w113 ho hb hg hat
          rw [← Ny268.out] at ho
          have n0_ := m0 (Kd.R_after (ok := (fun _ => True)) (by (with_reducible repeat first | apply rA | apply rN | apply rD); exact Kd.R_mono HO267.out (fun _ hk => ⟨trivial, hk⟩)) hg hat)
          have n1_ := m0 (hb)
          have n2_ := m0 (ho)
          clear HO267
          clear HB
          clear HO264
          have HO267 := n0_
          have HB := n1_
          have HO270 := n2_
          clear n0_ n1_ n2_
          clear ho hb hg hat
          refine hK.out _ _ trivial (fun hHeld => ?_)
          clear hK K
          refine norm_ (a' := ?_) ?_ ?_
          rotate_left
          ·
           show Act.put _ (some 33) _ = _
           simp only [Act.put, sT, s0, sS, i64_w, i32_w]
           rfl
          refine one_ (i := 11) (N := some 37) #[true, true, true, true, true, true, true, true, true, true, true, true, false] rfl rfl (one_of HT_.out (by kernel_rfl)) (by decide) (fun K hK => ?_)
          refine Kd.R_append_rows_step k42 (w0 := w) w.heap.size (by rfl) (.tmp 33) (.tmp 36) 30 42 (.agg #[(.int .i64 0), (.int .i64 0), (.int .i64 0)]) 24 rfl Tryd.underlying30 info42 rfl (by decide) (by omega) v269 y268 y271 _ _ _ (fun k_ => some k_ ≠ (.slice Ao114 y265.length co114 : Value).ownBlock) (fun _ => False) rfl rfl ?aO ?aR (fun _ _ h => h) (fun _ h => h.elim) ?aF ?aB ?aS ?aL ?_
          (case aR => repeat (first | exact (cB HR274.out HB.out) | (with_reducible refine cA ?_ _) | (with_reducible refine cN ?_ _) | (with_reducible refine cD ?_)))
          (case aB => exact (by repeat first | exact HB.out | apply bA | apply bN | apply bD))
          (case aF => exact (fun k_ hk => Kd.fresh' (rT (by (with_reducible repeat first | apply rA | apply rN | apply rD); exact HO267.out)) k_ hk))
          (case aO => exact (by (with_reducible repeat first | apply rA | apply rN | apply rD); exact HO270.out))
          (case aS => exact (bZ (by repeat first | exact HB.out | apply bA | apply bN | apply bD)))
          (case aL => have := LMc12.out; omega)
          intro v276 w115 ho hb hg hat
          rw [← Ny275.out] at ho
          have n0_ := m0 (Kd.R_after (ok := (fun _ => True)) (by (with_reducible repeat first | apply rA | apply rN | apply rD); exact HO267.out) hg hat)
          have n1_ := m0 (hb)
          have n2_ := m0 (ho)
          clear HO267
          clear HB
          clear HO270
          have HO267 := n0_
          have HB := n1_
          have HO277 := n2_
          clear n0_ n1_ n2_
          clear ho hb hg hat
          refine hK.out _ _ trivial (fun hHeld => ?_)
          clear hK K
          refine norm_ (a' := ?_) ?_ ?_
          rotate_left
          ·
           show Act.put _ (some 37) _ = _
           simp only [Act.put, sT, s0, sS, i64_w, i32_w]
           rfl
          refine pure_ (i := 12) (N := some 6) (v := ?_) (a' := ?_) #[true, true, true, true, true, true, true, true, true, true, true, true, true] rfl rfl (any_of HT_.out (by kernel_rfl)) (fun _ _ _ h => h) (Or.inl ⟨by rfl, ?_⟩) ?_ ?_
          rotate_left
          ·
           intro w'
           go_simp
           with_reducible rfl
          rotate_left
          ·
           simp only [Act.put, sT, s0, sS, i64_w, i32_w]
           rfl
          refine done_ (done_of HT_.out (by kernel_rfl)) ?_
          try go_wp2_with (first | ((with_reducible refine gate_callee (f := 15) rfl ?_); refine goesL_ (some 40) rfl rfl Tryd.func15 (by kernel_rfl) rfl #[.slice A0 y254.length c0] rfl (by (try simp only [List.map_toArray, List.map_cons, List.map_nil]); first | done | rfl | (simp only [List.length_drop, List.length_take]; rfl)) ?_; (with_reducible refine (margin_Tops.calls _ _ y254 t278 t279 _ ?side1 ?side2 A13.out (GOK.below HG.out (by repeat first | exact HB.out | apply bA | apply bN | apply bD))).mono ?_); (case side1 => repeat (first | exact (cB HR257.out HB.out) | (with_reducible refine cA ?_ _) | (with_reducible refine cN ?_ _) | (with_reducible refine cD ?_))); (case side2 => exact HC257.out); rintro e w116 ⟨v280, rfl, ho0, hb⟩; refine ⟨_, rfl, ?_⟩; have n0_ := m0 (rB (by (with_reducible repeat first | apply rA | apply rN | apply rD); exact HO267.out) hb); have n1_ := m0 (rB (by (with_reducible repeat first | apply rA | apply rN | apply rD); exact HO277.out) hb); have n2_ := m0 (rL ho0 (bZ (by repeat first | exact HB.out | apply bA | apply bN | apply bD))); have n3_ := m0 (below_step (by repeat first | exact HB.out | apply bA | apply bN | apply bD) hb); clear HO267; clear HO277; clear HB; have HO267 := n0_; have HO277 := n1_; have HO281 := n2_; have HB := n3_; clear n0_ n1_ n2_ n3_; (try clear hb); (try clear hb2); (try clear hk); (try clear hi); (try clear ho0); obtain ⟨Ao117, co117, eo117⟩ := Kd.R_slice HO277.out; subst eo117) | ((with_reducible refine gate_callee (f := 15) rfl ?_); refine goesL_ (some 45) rfl rfl Tryd.func15 (by kernel_rfl) rfl #[.slice Ao117 y275.length co117] rfl (by (try simp only [List.map_toArray, List.map_cons, List.map_nil]); first | done | rfl | (simp only [List.length_drop, List.length_take]; rfl)) ?_; (with_reducible refine (margin_Tops.calls _ _ y275 t282 t283 _ ?side1 ?side2 A14.out (GOK.below HG.out (by repeat first | exact HB.out | apply bA | apply bN | apply bD))).mono ?_); (case side1 => repeat (first | exact (rR HO277.out).2.2 | (with_reducible refine cA ?_ _) | (with_reducible refine cN ?_ _) | (with_reducible refine cD ?_))); (case side2 => exact (rR HO277.out).2.1); rintro e w118 ⟨v284, rfl, ho0, hb⟩; refine ⟨_, rfl, ?_⟩; have n0_ := m0 (rB (by (with_reducible repeat first | apply rA | apply rN | apply rD); exact HO267.out) hb); have n1_ := m0 (rB (by (with_reducible repeat first | apply rA | apply rN | apply rD); exact HO277.out) hb); have n2_ := m0 (Kd.R_elder' (by (with_reducible repeat first | apply rA | apply rN | apply rD); exact HO281.out) (Kd.R_base ho0) hb); have n3_ := m0 (rL (Kd.R_new' ho0 (rT (by (with_reducible repeat first | apply rA | apply rN | apply rD); exact HO281.out))) (bZ (by repeat first | exact HB.out | apply bA | apply bN | apply bD))); have n4_ := m0 (below_step (by repeat first | exact HB.out | apply bA | apply bN | apply bD) hb); clear HO267; clear HO277; clear HO281; clear HB; have HO267 := n0_; have HO277 := n1_; have HO281 := n2_; have HO285 := n3_; have HB := n4_; clear n0_ n1_ n2_ n3_ n4_; (try clear hb); (try clear hb2); (try clear hk); (try clear hi); (try clear ho0)) | ((with_reducible refine gate_callee (f := 17) rfl ?_); refine goesL_ (some 50) rfl rfl Tryd.func17 (by kernel_rfl) rfl #[.slice A0 y254.length c0] rfl (by (try simp only [List.map_toArray, List.map_cons, List.map_nil]); first | done | rfl | (simp only [List.length_drop, List.length_take]; rfl)) ?_; (with_reducible refine (margin_End.calls _ _ y254 t286 t287 t288 _ ?side1 ?side2 A15.out (GOK.below HG.out (by repeat first | exact HB.out | apply bA | apply bN | apply bD))).mono ?_); (case side1 => repeat (first | exact (cB HR257.out HB.out) | (with_reducible refine cA ?_ _) | (with_reducible refine cN ?_ _) | (with_reducible refine cD ?_))); (case side2 => exact HC257.out); rintro e w119 ⟨rfl, hb⟩; refine ⟨_, rfl, ?_⟩; have n0_ := m0 (rB (by (with_reducible repeat first | apply rA | apply rN | apply rD); exact HO267.out) hb); have n1_ := m0 (rB (by (with_reducible repeat first | apply rA | apply rN | apply rD); exact HO277.out) hb); have n2_ := m0 (rB (by (with_reducible repeat first | apply rA | apply rN | apply rD); exact HO281.out) hb); have n3_ := m0 (rB (by (with_reducible repeat first | apply rA | apply rN | apply rD); exact HO285.out) hb); have n4_ := m0 (below_step (by repeat first | exact HB.out | apply bA | apply bN | apply bD) hb); clear HO267; clear HO277; clear HO281; clear HO285; clear HB; have HO267 := n0_; have HO277 := n1_; have HO281 := n2_; have HO285 := n3_; have HB := n4_; clear n0_ n1_ n2_ n3_ n4_; (try clear hb); (try clear hb2); (try clear hk); (try clear hi)) | ((with_reducible refine gate_callee (f := 17) rfl ?_); refine goesL_ (some 56) rfl rfl Tryd.func17 (by kernel_rfl) rfl #[.slice Ao117 y275.length co117] rfl (by (try simp only [List.map_toArray, List.map_cons, List.map_nil]); first | done | rfl | (simp only [List.length_drop, List.length_take]; rfl)) ?_; (with_reducible refine (margin_End.calls _ _ y275 t289 t290 t291 _ ?side1 ?side2 A16.out (GOK.below HG.out (by repeat first | exact HB.out | apply bA | apply bN | apply bD))).mono ?_); (case side1 => repeat (first | exact (rR HO277.out).2.2 | (with_reducible refine cA ?_ _) | (with_reducible refine cN ?_ _) | (with_reducible refine cD ?_))); (case side2 => exact (rR HO277.out).2.1); rintro e w120 ⟨rfl, hb⟩; refine ⟨_, rfl, ?_⟩; have n0_ := m0 (rB (by (with_reducible repeat first | apply rA | apply rN | apply rD); exact HO267.out) hb); have n1_ := m0 (rB (by (with_reducible repeat first | apply rA | apply rN | apply rD); exact HO277.out) hb); have n2_ := m0 (rB (by (with_reducible repeat first | apply rA | apply rN | apply rD); exact HO281.out) hb); have n3_ := m0 (rB (by (with_reducible repeat first | apply rA | apply rN | apply rD); exact HO285.out) hb); have n4_ := m0 (below_step (by repeat first | exact HB.out | apply bA | apply bN | apply bD) hb); clear HO267; clear HO277; clear HO281; clear HO285; clear HB; have HO267 := n0_; have HO277 := n1_; have HO281 := n2_; have HO285 := n3_; have HB := n4_; clear n0_ n1_ n2_ n3_ n4_; (try clear hb); (try clear hb2); (try clear hk); (try clear hi)))
          go_ret
          exact ⟨by first | rfl | (simp [errW_none, errW_some] <;> rfl) | (simp only [← hji4, ← hji5]; first | rfl | (simp [errW_none, errW_some] <;> rfl)) | (simp [*, errW_none, errW_some] <;> rfl), by repeat first | exact HB.out | apply bA | apply bN | apply bD⟩
         ·
          rw [if_neg c103] at H
          have c103b0 : (t288 == t279) = false := beq_eq_false_iff_ne.mpr c103
          have c103b1 : (t288 != t279) = true := bne_iff_ne.mpr c103
          obtain rfl := Option.some.inj H
          go_enter Tryd.func6, Tryd.ntmps6
          try go_wp2_with (first | ((with_reducible refine gate_callee (f := 10) rfl ?_); refine goesL_ (some 18) rfl rfl Tryd.func10 (by kernel_rfl) rfl #[] rfl (by (try simp only [List.map_toArray, List.map_cons, List.map_nil]); first | done | rfl | (simp only [List.length_drop, List.length_take]; rfl)) ?_; (with_reducible refine (gutterlaw10_shown.calls k  true _ A3.out (GOK.below HG.out (by repeat first | exact HB.out | apply bA | apply bN | apply bD))).mono ?_); rintro e w121 ⟨rfl, hb⟩; refine ⟨_, rfl, ?_⟩; have n0_ := m0 (below_step (by repeat first | exact HB.out | apply bA | apply bN | apply bD) hb); clear HB; have HB := n0_; clear n0_; (try clear hb); (try clear hb2); (try clear hk); (try clear hi); have hroom122 : l0.length ≤ c0 := HC0.out; have hr122 := C_takeN 40 HR0.out; rw [← Ny254.out] at hr122; have hy122 : y254.length ≤ l0.length := (by rw [Ny254.out, List.length_take]; omega); have HR257 := m0 hr122; have HC257 := m0 (show y254.length ≤ c0 from by omega); have KR122 := m0 hroom122; clear hr122 hroom122; have KY122 := m0 hy122; clear hy122) | (go_at_call 14; refine calls_of_args (args' := #[.slice A0 l0.length c0]) (by (try simp only [List.map_toArray, List.map_cons, List.map_nil]); first | done | rfl) ?_; refine (cut_14 A0 c0 l0 y254 _ KR122.out Ny254.out).mono ?_; rintro e w' ⟨rfl, rfl⟩))
          have n0_ := m0 (bD HB.out)
          clear HB
          have HB := n0_
          clear n0_
          have q124 : ((ji5) : Int) ≤ ((y254.length : Int) : Int) := oT (by first | (with_reducible assumption) | assumption)
          obtain ⟨i0124, hi0124, _, hsz124, _⟩ := info_parts info42
          have hroom124 : y254.length ≤ c0 := HC257.out
          have hC124 : Kd.C k42 _ A0 y254.length y254 := HR257.out
          have hcut124 := cut_to (P := Tryd.prog) 30 42 .i64 Tryd.underlying30 hi0124 A0 y254.length c0 (ji5) (oT (by first | (with_reducible assumption) | assumption)) q124 hroom124
          have hr124 := Kd.C_take (m := ((ji5) : Int).toNat) hC124 (by omega)
          have hy124 : y258.length = ((ji5) : Int).toNat := (by rw [Ny258.out, List.length_take]; omega)
          rw [← Ny258.out] at hr124
          rw [← hy124] at hcut124
          have HR261 := m0 hr124
          have HC261 := m0 (show y258.length ≤ c0 from by omega)
          clear hr124 hC124 hroom124 hi0124 hsz124
          have KY124 := m0 hy124
          clear hy124
          replace q124 := eq_true q124
          have q125 : ((ji5) : Int) ≤ ((y254.length : Int) : Int) := oT (by first | (with_reducible assumption) | assumption)
          obtain ⟨i0125, hi0125, _, hsz125, _⟩ := info_parts info42
          have hroom125 : y254.length ≤ c0 := HC257.out
          have hC125 : Kd.C k42 _ A0 y254.length y254 := HR257.out
          have q0125 : (0 : Int) ≤ ((ji5) : Int) := oT (by first | (with_reducible assumption) | assumption)
          have hcut125 := cut_from (P := Tryd.prog) 30 42 .i64 Tryd.underlying30 hi0125 3 hsz125 A0 y254.length c0 (ji5) q0125 q125
          have hr125 := Kd.C_drop (m := ((ji5) : Int).toNat) (c := c0) hC125 (by omega) hroom125
          obtain ⟨A125, hA125⟩ : ∃ A1, A1 = (if c0 = ((ji5) : Int).toNat then A0 else (A0 : Option Addr).map (·.add (((ji5) : Int).toNat * 3))) := ⟨_, rfl⟩
          obtain ⟨c125, hc125⟩ : ∃ c1, c1 = c0 - ((ji5) : Int).toNat := ⟨_, rfl⟩
          have hy125 : y271.length = y254.length - ((ji5) : Int).toNat := (by rw [Ny271.out, List.length_drop] <;> omega)
          rw [show (y254).drop ((ji5) : Int).toNat = y271 from Ny271.out.symm] at hr125
          replace hr125 : Kd.C k42 _ A125 y271.length y271 := (by rw [hA125]; exact hr125)
          rw [← hy125, ← hA125, ← hc125] at hcut125
          have HR274 := m0 hr125
          have HC274 := m0 (show y271.length ≤ c125 from by rw [hy125, hc125]; exact Nat.sub_le_sub_right hroom125 _)
          clear hr125 hC125 hroom125 hi0125 hsz125 hc125
          have KY125 := m0 hy125
          have KA125 := m0 hA125
          clear hy125 hA125
          replace q125 := eq_true q125
          refine start_ (n := 13) (S := fun w' => True) (ds := []) #[false, false, false, false, false, false, false, false, false, false, false, false, false] (by kernel_rfl) rfl rfl trivial (fun hHeld => ?_); refine with_tabW gutterlaw10_MarginNothing.tab5 gutterlaw10_MarginNothing.bits5 (fun HT_ HW_ => ?_)
          generalize w121.drew = w123 at HB HR261 HR274 hHeld ⊢
          refine pure_ (i := 0) (N := some 26) (v := ?_) (a' := ?_) #[true, false, false, false, false, false, false, false, false, false, false, false, false] rfl rfl (any_of HT_.out (by kernel_rfl)) (fun _ _ _ h => h) (Or.inl ⟨by rfl, ?_⟩) ?_ ?_
          rotate_left
          ·
           intro w'
           go_simp
           with_reducible rfl
          rotate_left
          ·
           simp only [Act.put, sT, s0, sS, i64_w, i32_w]
           rfl
          refine pure_ (i := 1) (N := some 27) (v := ?_) (a' := ?_) #[true, true, false, false, false, false, false, false, false, false, false, false, false] rfl rfl (any_of HT_.out (by kernel_rfl)) (fun _ _ _ h => h) (Or.inl ⟨by rfl, ?_⟩) ?_ ?_
          rotate_left
          ·
           intro w'
           go_simp
           with_reducible rfl
          rotate_left
          ·
           simp only [Act.put, sT, s0, sS, i64_w, i32_w]
           rfl
          refine pure_ (i := 2) (N := some 28) (v := ?_) (a' := ?_) #[true, true, true, false, false, false, false, false, false, false, false, false, false] rfl rfl (any_of HT_.out (by kernel_rfl)) (fun _ _ _ h => h) (Or.inl ⟨by rfl, ?_⟩) ?_ ?_
          rotate_left
          ·
           intro w'
           go_simp
           with_reducible rfl
          rotate_left
          ·
           simp only [Act.put, sT, s0, sS, i64_w, i32_w]
           rfl
          refine pure_ (i := 3) (N := some 29) (v := ?_) (a' := ?_) #[true, true, true, true, false, false, false, false, false, false, false, false, false] rfl rfl (any_of HT_.out (by kernel_rfl)) (fun _ _ _ h => h) (Or.inl ⟨by rfl, ?_⟩) ?_ ?_
          rotate_left
          ·
           intro w'
           go_simp
           with_reducible rfl
          rotate_left
          ·
           simp only [Act.put, sT, s0, sS, i64_w, i32_w]
           rfl
          refine pure_ (i := 5) (N := some 31) (v := ?_) (a' := ?_) #[true, true, true, true, false, true, false, false, false, false, false, false, false] rfl rfl (any_of HT_.out (by kernel_rfl)) (fun _ _ _ h => h) (Or.inl ⟨by rfl, ?_⟩) ?_ ?_
          rotate_left
          ·
           intro w'
           go_simp
           with_reducible rfl
          rotate_left
          ·
           simp only [Act.put, sT, s0, sS, i64_w, i32_w]
           rfl
          refine pure_ (i := 8) (N := some 34) (v := ?_) (a' := ?_) #[true, true, true, true, false, true, false, false, true, false, false, false, false] rfl rfl (any_of HT_.out (by kernel_rfl)) (fun _ _ _ h => h) (Or.inl ⟨by rfl, ?_⟩) ?_ ?_
          rotate_left
          ·
           intro w'
           go_simp
           with_reducible rfl
          rotate_left
          ·
           simp only [Act.put, sT, s0, sS, i64_w, i32_w]
           rfl
          refine pure_ (i := 9) (N := some 35) (v := ?_) (a' := ?_) #[true, true, true, true, false, true, false, false, true, true, false, false, false] rfl rfl (any_of HT_.out (by kernel_rfl)) (fun _ _ _ h => h) (Or.inl ⟨by rfl, ?_⟩) ?_ ?_
          rotate_left
          ·
           intro w'
           go_simp
           with_reducible rfl
          rotate_left
          ·
           simp only [Act.put, sT, s0, sS, i64_w, i32_w]
           rfl
          refine pure_ (i := 10) (N := some 36) (v := ?_) (a' := ?_) #[true, true, true, true, false, true, false, false, true, true, true, false, false] rfl rfl (any_of HT_.out (by kernel_rfl)) (fun _ _ _ h => h) (Or.inl ⟨by rfl, ?_⟩) ?_ ?_
          rotate_left
          ·
           intro w'
           go_simp
           with_reducible rfl
          rotate_left
          ·
           simp only [Act.put, sT, s0, sS, i64_w, i32_w]
           rfl
          refine join_ (σ := Value × Value) 3 #[true, true, true, true, true, true, true, false, true, true, true, false, false] (fun s_ => [(30, s_.1), (32, s_.2)]) (fun s_ w' => (Kd.R k42 42 w' w.heap.size (fun k_ => some k_ ≠ (s_.2 : Value).ownBlock) s_.1 y262) ∧ (Kd.R k42 42 w' w.heap.size (fun k_ => some k_ ≠ (s_.1 : Value).ownBlock) s_.2 y265) ∧ (Below w.heap.size w w')) ?_ ?_
          rotate_left
          ·
           intro hCont
           refine two_ (i := 4) (j := 6) (Ni := some 30) (Nj := some 32) #[true, true, true, true, true, true, false, false, true, true, true, false, false] #[true, true, true, true, false, true, true, false, true, true, true, false, false] rfl rfl rfl rfl (two_of HT_.out (by kernel_rfl)) (by decide) (by decide) (fun K hK => ?_) (fun K hK => ?_)
           ·
            skip
            refine Kd.R_append_rows_step k42 (w0 := w) w.heap.size (by rfl) (.tmp 26) (.tmp 29) 30 42 (.agg #[(.int .i64 0), (.int .i64 0), (.int .i64 0)]) 24 rfl Tryd.underlying30 info42 rfl (by decide) (by omega) (.slice none 0 0) ([] : List (S42)) y258 _ _ _ (fun _ => True) (fun _ => False) rfl rfl ?aO ?aR (fun _ _ h => h) (fun _ h => h.elim) ?aF ?aB ?aS ?aL ?_
            (case aR => repeat (first | exact (cB HR261.out HB.out) | (with_reducible refine cA ?_ _) | (with_reducible refine cN ?_ _) | (with_reducible refine cD ?_)))
            (case aB => exact (by repeat first | exact HB.out | apply bA | apply bN | apply bD))
            (case aF => exact (fun _ _ => trivial))
            (case aO => exact ((Kd.R_nil _ _ _ _ (fun _ => True))))
            (case aS => exact (bZ (by repeat first | exact HB.out | apply bA | apply bN | apply bD)))
            (case aL => have := LMc8.out; omega)
            intro v263 w126 ho hb hg hat
            rw [← Ny262.out] at ho
            have n0_ := m0 (hb)
            have n1_ := m0 (ho)
            clear HB
            have HB := n0_
            have HO264 := n1_
            clear n0_ n1_
            clear ho hb hg hat
            refine hK.out _ _ trivial (fun hHeld => ?_)
            clear hK K
            refine norm_ (a' := ?_) ?_ ?_
            rotate_left
            ·
             show Act.put _ (some 30) _ = _
             simp only [Act.put, sT, s0, sS, i64_w, i32_w]
             rfl
            refine one_ (i := 6) (N := some 32) #[true, true, true, true, true, true, true, false, true, true, true, false, false] rfl rfl (one_of HT_.out (by kernel_rfl)) (by decide) (fun K hK => ?_)
            refine Kd.R_lit_step k42 _ 42 ?hg (N := 32) ?hd (xs := ([(⟨0, 0, 0⟩ : S42)] : List (S42))) (inner := [.int .i64 0, .int .i64 0, .int .i64 0]) (ok := fun _ => True) (okp := fun _ => True) ?hr ?hp (fun _ hk => hk) trivial (Below.refl _ _) (Nat.le_refl _) (by simp) ?_; (case hd => rfl); (case hg => rfl); (case hr => first | (go_simp; done) | (go_simp; rfl)); (case hp => exact (Reps.c3 (show Kd.M k42 _ _ _ (⟨0, 0, 0⟩ : S42) [.int .i64 0, .int .i64 0, .int .i64 0] from (k42_mkM _ _ _ (⟨0, 0, 0⟩ : S42) )) (Reps.none _ _)))
            intro v266 w127 ho128 hb hg_ hnew_
            clear hg_ hnew_
            (first | rw [← Ny265.out] at ho128 | (simp only [Int.reduceToNat] at ho128; rw [← Ny265.out] at ho128))
            have n0_ := m0 (Kd.R_elder' (by (with_reducible repeat first | apply rA | apply rN | apply rD); exact HO264.out) (Kd.R_base ho128) hb)
            have n1_ := m0 (rL (Kd.R_new' ho128 (rT (by (with_reducible repeat first | apply rA | apply rN | apply rD); exact HO264.out))) (bZ (by repeat first | exact HB.out | apply bA | apply bN | apply bD)))
            have n2_ := m0 (below_step (by repeat first | exact HB.out | apply bA | apply bN | apply bD) hb)
            clear HO264
            clear HB
            have HO264 := n0_
            have HO267 := n1_
            have HB := n2_
            clear n0_ n1_ n2_
            clear hb ho128
            refine hK.out _ _ trivial (fun hHeld => ?_)
            clear hK K
            refine norm_ (a' := ?_) ?_ ?_
            rotate_left
            ·
             show Act.put _ (some 32) _ = _
             simp only [Act.put, sT, s0, sS, i64_w, i32_w]
             rfl
            exact norm_ (by simp only [putAll, Act.put, sT, s0, sS]) (hCont (v263, v266) _ ⟨(by (with_reducible repeat first | apply rA | apply rN | apply rD); exact Kd.R_mono HO264.out (fun _ hk => hk.2)), (by (with_reducible repeat first | apply rA | apply rN | apply rD); exact Kd.R_mono HO267.out (fun _ hk => hk.2)), (by repeat first | exact HB.out | apply bA | apply bN | apply bD)⟩)
           ·
            skip
            refine Kd.R_lit_step k42 _ 42 ?hg (N := 32) ?hd (xs := ([(⟨0, 0, 0⟩ : S42)] : List (S42))) (inner := [.int .i64 0, .int .i64 0, .int .i64 0]) (ok := fun _ => True) (okp := fun _ => True) ?hr ?hp (fun _ hk => hk) trivial (Below.refl _ _) (Nat.le_refl _) (by simp) ?_; (case hd => rfl); (case hg => rfl); (case hr => first | (go_simp; done) | (go_simp; rfl)); (case hp => exact (Reps.c3 (show Kd.M k42 _ _ _ (⟨0, 0, 0⟩ : S42) [.int .i64 0, .int .i64 0, .int .i64 0] from (k42_mkM _ _ _ (⟨0, 0, 0⟩ : S42) )) (Reps.none _ _)))
            intro v266 w126 ho127 hb hg_ hnew_
            clear hg_ hnew_
            (first | rw [← Ny265.out] at ho127 | (simp only [Int.reduceToNat] at ho127; rw [← Ny265.out] at ho127))
            have n0_ := m0 (rL ho127 (bZ (by repeat first | exact HB.out | apply bA | apply bN | apply bD)))
            have n1_ := m0 (below_step (by repeat first | exact HB.out | apply bA | apply bN | apply bD) hb)
            clear HB
            have HO267 := n0_
            have HB := n1_
            clear n0_ n1_
            clear hb ho127
            refine hK.out _ _ trivial (fun hHeld => ?_)
            clear hK K
            refine norm_ (a' := ?_) ?_ ?_
            rotate_left
            ·
             show Act.put _ (some 32) _ = _
             simp only [Act.put, sT, s0, sS, i64_w, i32_w]
             rfl
            refine one_ (i := 4) (N := some 30) #[true, true, true, true, true, true, true, false, true, true, true, false, false] rfl rfl (one_of HT_.out (by kernel_rfl)) (by decide) (fun K hK => ?_)
            refine Kd.R_append_rows_step k42 (w0 := w) w.heap.size (by rfl) (.tmp 26) (.tmp 29) 30 42 (.agg #[(.int .i64 0), (.int .i64 0), (.int .i64 0)]) 24 rfl Tryd.underlying30 info42 rfl (by decide) (by omega) (.slice none 0 0) ([] : List (S42)) y258 _ _ _ (fun k_ => some k_ ≠ (v266 : Value).ownBlock) (fun _ => False) rfl rfl ?aO ?aR (fun _ _ h => h) (fun _ h => h.elim) ?aF ?aB ?aS ?aL ?_
            (case aR => repeat (first | exact (cB HR261.out HB.out) | (with_reducible refine cA ?_ _) | (with_reducible refine cN ?_ _) | (with_reducible refine cD ?_)))
            (case aB => exact (by repeat first | exact HB.out | apply bA | apply bN | apply bD))
            (case aF => exact (fun k_ hk => Kd.fresh' (rT (by (with_reducible repeat first | apply rA | apply rN | apply rD); exact HO267.out)) k_ hk))
            (case aO => exact ((Kd.R_nil _ _ _ _ (fun k_ => some k_ ≠ (v266 : Value).ownBlock))))
            (case aS => exact (bZ (by repeat first | exact HB.out | apply bA | apply bN | apply bD)))
            (case aL => have := LMc8.out; omega)
            intro v263 w128 ho hb hg hat
            rw [← Ny262.out] at ho
            have n0_ := m0 (Kd.R_after (Kd.R_apart_nil (by (with_reducible repeat first | apply rA | apply rN | apply rD); exact HO267.out)) hg hat)
            have n1_ := m0 (hb)
            have n2_ := m0 (ho)
            clear HO267
            clear HB
            have HO267 := n0_
            have HB := n1_
            have HO264 := n2_
            clear n0_ n1_ n2_
            clear ho hb hg hat
            refine hK.out _ _ trivial (fun hHeld => ?_)
            clear hK K
            refine norm_ (a' := ?_) ?_ ?_
            rotate_left
            ·
             show Act.put _ (some 30) _ = _
             simp only [Act.put, sT, s0, sS, i64_w, i32_w]
             rfl
            exact norm_ (by simp only [putAll, Act.put, sT, s0, sS]) (hCont (v263, v266) _ ⟨(by (with_reducible repeat first | apply rA | apply rN | apply rD); exact HO264.out), (by (with_reducible repeat first | apply rA | apply rN | apply rD); exact Kd.R_mono HO267.out (fun _ hk => hk.2)), (by repeat first | exact HB.out | apply bA | apply bN | apply bD)⟩)
          rintro ⟨v263, v266⟩ w129 ⟨h0_, h1_, h2_⟩
          have n0_ : Aside0 (Kd.R k42 42 w129 w.heap.size (fun k_ => some k_ ≠ (v266 : Value).ownBlock) v263 y262) := ⟨h0_⟩
          have n1_ : Aside0 (Kd.R k42 42 w129 w.heap.size (fun k_ => some k_ ≠ (v263 : Value).ownBlock) v266 y265) := ⟨h1_⟩
          have n2_ : Aside0 (Below w.heap.size w w129) := ⟨h2_⟩
          clear HB
          clear h0_ h1_ h2_
          have HO264 := n0_
          have HO267 := n1_
          have HB := n2_
          clear n0_ n1_ n2_
          have hHeld := trivial
          obtain ⟨Ao131, co131, eo131⟩ := Kd.R_slice HO267.out
          (first | subst eo131 | (injection eo131 with f1_ f2_ f3_; have f4_ := f1_.symm; have f5_ := f3_.symm; clear f1_ f2_ f3_; subst f4_; subst f5_))
          refine norm_ (a' := ?_) ?_ ?_
          rotate_left
          ·
           simp only [putAll, Act.put, sT, s0, sS]
           rfl
          refine one_ (i := 7) (N := some 33) #[true, true, true, true, true, true, true, true, true, true, true, false, false] rfl rfl (one_of HT_.out (by kernel_rfl)) (by decide) (fun K hK => ?_)
          refine Kd.R_append_rows_step k42 (w0 := w) w.heap.size (by rfl) (.tmp 30) (.tmp 32) 30 42 (.agg #[(.int .i64 0), (.int .i64 0), (.int .i64 0)]) 24 rfl Tryd.underlying30 info42 rfl (by decide) (by omega) v263 y262 y265 _ _ _ (fun k_ => some k_ ≠ (.slice Ao131 y265.length co131 : Value).ownBlock) (fun _ => False) rfl rfl ?aO ?aR (fun _ _ h => h) (fun _ h => h.elim) ?aF ?aB ?aS ?aL ?_
          (case aR => repeat (first | exact (rR HO267.out).2.2 | (with_reducible refine cA ?_ _) | (with_reducible refine cN ?_ _) | (with_reducible refine cD ?_)))
          (case aB => exact (by repeat first | exact HB.out | apply bA | apply bN | apply bD))
          (case aF => exact (fun k_ hk => Kd.fresh' (rT (by (with_reducible repeat first | apply rA | apply rN | apply rD); exact HO267.out)) k_ hk))
          (case aO => exact (by (with_reducible repeat first | apply rA | apply rN | apply rD); exact HO264.out))
          (case aS => exact (bZ (by repeat first | exact HB.out | apply bA | apply bN | apply bD)))
          (case aL => have := LMc9.out; omega)
          intro v269 w130 ho hb hg hat
          rw [← Ny268.out] at ho
          have n0_ := m0 (Kd.R_after (ok := (fun _ => True)) (by (with_reducible repeat first | apply rA | apply rN | apply rD); exact Kd.R_mono HO267.out (fun _ hk => ⟨trivial, hk⟩)) hg hat)
          have n1_ := m0 (hb)
          have n2_ := m0 (ho)
          clear HO267
          clear HB
          clear HO264
          have HO267 := n0_
          have HB := n1_
          have HO270 := n2_
          clear n0_ n1_ n2_
          clear ho hb hg hat
          refine hK.out _ _ trivial (fun hHeld => ?_)
          clear hK K
          refine norm_ (a' := ?_) ?_ ?_
          rotate_left
          ·
           show Act.put _ (some 33) _ = _
           simp only [Act.put, sT, s0, sS, i64_w, i32_w]
           rfl
          refine one_ (i := 11) (N := some 37) #[true, true, true, true, true, true, true, true, true, true, true, true, false] rfl rfl (one_of HT_.out (by kernel_rfl)) (by decide) (fun K hK => ?_)
          refine Kd.R_append_rows_step k42 (w0 := w) w.heap.size (by rfl) (.tmp 33) (.tmp 36) 30 42 (.agg #[(.int .i64 0), (.int .i64 0), (.int .i64 0)]) 24 rfl Tryd.underlying30 info42 rfl (by decide) (by omega) v269 y268 y271 _ _ _ (fun k_ => some k_ ≠ (.slice Ao131 y265.length co131 : Value).ownBlock) (fun _ => False) rfl rfl ?aO ?aR (fun _ _ h => h) (fun _ h => h.elim) ?aF ?aB ?aS ?aL ?_
          (case aR => repeat (first | exact (cB HR274.out HB.out) | (with_reducible refine cA ?_ _) | (with_reducible refine cN ?_ _) | (with_reducible refine cD ?_)))
          (case aB => exact (by repeat first | exact HB.out | apply bA | apply bN | apply bD))
          (case aF => exact (fun k_ hk => Kd.fresh' (rT (by (with_reducible repeat first | apply rA | apply rN | apply rD); exact HO267.out)) k_ hk))
          (case aO => exact (by (with_reducible repeat first | apply rA | apply rN | apply rD); exact HO270.out))
          (case aS => exact (bZ (by repeat first | exact HB.out | apply bA | apply bN | apply bD)))
          (case aL => have := LMc12.out; omega)
          intro v276 w132 ho hb hg hat
          rw [← Ny275.out] at ho
          have n0_ := m0 (Kd.R_after (ok := (fun _ => True)) (by (with_reducible repeat first | apply rA | apply rN | apply rD); exact HO267.out) hg hat)
          have n1_ := m0 (hb)
          have n2_ := m0 (ho)
          clear HO267
          clear HB
          clear HO270
          have HO267 := n0_
          have HB := n1_
          have HO277 := n2_
          clear n0_ n1_ n2_
          clear ho hb hg hat
          refine hK.out _ _ trivial (fun hHeld => ?_)
          clear hK K
          refine norm_ (a' := ?_) ?_ ?_
          rotate_left
          ·
           show Act.put _ (some 37) _ = _
           simp only [Act.put, sT, s0, sS, i64_w, i32_w]
           rfl
          refine pure_ (i := 12) (N := some 6) (v := ?_) (a' := ?_) #[true, true, true, true, true, true, true, true, true, true, true, true, true] rfl rfl (any_of HT_.out (by kernel_rfl)) (fun _ _ _ h => h) (Or.inl ⟨by rfl, ?_⟩) ?_ ?_
          rotate_left
          ·
           intro w'
           go_simp
           with_reducible rfl
          rotate_left
          ·
           simp only [Act.put, sT, s0, sS, i64_w, i32_w]
           rfl
          refine done_ (done_of HT_.out (by kernel_rfl)) ?_
          try go_wp2_with (first | ((with_reducible refine gate_callee (f := 15) rfl ?_); refine goesL_ (some 40) rfl rfl Tryd.func15 (by kernel_rfl) rfl #[.slice A0 y254.length c0] rfl (by (try simp only [List.map_toArray, List.map_cons, List.map_nil]); first | done | rfl | (simp only [List.length_drop, List.length_take]; rfl)) ?_; (with_reducible refine (margin_Tops.calls _ _ y254 t278 t279 _ ?side1 ?side2 A13.out (GOK.below HG.out (by repeat first | exact HB.out | apply bA | apply bN | apply bD))).mono ?_); (case side1 => repeat (first | exact (cB HR257.out HB.out) | (with_reducible refine cA ?_ _) | (with_reducible refine cN ?_ _) | (with_reducible refine cD ?_))); (case side2 => exact HC257.out); rintro e w133 ⟨v280, rfl, ho0, hb⟩; refine ⟨_, rfl, ?_⟩; have n0_ := m0 (rB (by (with_reducible repeat first | apply rA | apply rN | apply rD); exact HO267.out) hb); have n1_ := m0 (rB (by (with_reducible repeat first | apply rA | apply rN | apply rD); exact HO277.out) hb); have n2_ := m0 (rL ho0 (bZ (by repeat first | exact HB.out | apply bA | apply bN | apply bD))); have n3_ := m0 (below_step (by repeat first | exact HB.out | apply bA | apply bN | apply bD) hb); clear HO267; clear HO277; clear HB; have HO267 := n0_; have HO277 := n1_; have HO281 := n2_; have HB := n3_; clear n0_ n1_ n2_ n3_; (try clear hb); (try clear hb2); (try clear hk); (try clear hi); (try clear ho0); obtain ⟨Ao134, co134, eo134⟩ := Kd.R_slice HO277.out; subst eo134) | ((with_reducible refine gate_callee (f := 15) rfl ?_); refine goesL_ (some 45) rfl rfl Tryd.func15 (by kernel_rfl) rfl #[.slice Ao134 y275.length co134] rfl (by (try simp only [List.map_toArray, List.map_cons, List.map_nil]); first | done | rfl | (simp only [List.length_drop, List.length_take]; rfl)) ?_; (with_reducible refine (margin_Tops.calls _ _ y275 t282 t283 _ ?side1 ?side2 A14.out (GOK.below HG.out (by repeat first | exact HB.out | apply bA | apply bN | apply bD))).mono ?_); (case side1 => repeat (first | exact (rR HO277.out).2.2 | (with_reducible refine cA ?_ _) | (with_reducible refine cN ?_ _) | (with_reducible refine cD ?_))); (case side2 => exact (rR HO277.out).2.1); rintro e w135 ⟨v284, rfl, ho0, hb⟩; refine ⟨_, rfl, ?_⟩; have n0_ := m0 (rB (by (with_reducible repeat first | apply rA | apply rN | apply rD); exact HO267.out) hb); have n1_ := m0 (rB (by (with_reducible repeat first | apply rA | apply rN | apply rD); exact HO277.out) hb); have n2_ := m0 (Kd.R_elder' (by (with_reducible repeat first | apply rA | apply rN | apply rD); exact HO281.out) (Kd.R_base ho0) hb); have n3_ := m0 (rL (Kd.R_new' ho0 (rT (by (with_reducible repeat first | apply rA | apply rN | apply rD); exact HO281.out))) (bZ (by repeat first | exact HB.out | apply bA | apply bN | apply bD))); have n4_ := m0 (below_step (by repeat first | exact HB.out | apply bA | apply bN | apply bD) hb); clear HO267; clear HO277; clear HO281; clear HB; have HO267 := n0_; have HO277 := n1_; have HO281 := n2_; have HO285 := n3_; have HB := n4_; clear n0_ n1_ n2_ n3_ n4_; (try clear hb); (try clear hb2); (try clear hk); (try clear hi); (try clear ho0)) | ((with_reducible refine gate_callee (f := 17) rfl ?_); refine goesL_ (some 50) rfl rfl Tryd.func17 (by kernel_rfl) rfl #[.slice A0 y254.length c0] rfl (by (try simp only [List.map_toArray, List.map_cons, List.map_nil]); first | done | rfl | (simp only [List.length_drop, List.length_take]; rfl)) ?_; (with_reducible refine (margin_End.calls _ _ y254 t286 t287 t288 _ ?side1 ?side2 A15.out (GOK.below HG.out (by repeat first | exact HB.out | apply bA | apply bN | apply bD))).mono ?_); (case side1 => repeat (first | exact (cB HR257.out HB.out) | (with_reducible refine cA ?_ _) | (with_reducible refine cN ?_ _) | (with_reducible refine cD ?_))); (case side2 => exact HC257.out); rintro e w136 ⟨rfl, hb⟩; refine ⟨_, rfl, ?_⟩; have n0_ := m0 (rB (by (with_reducible repeat first | apply rA | apply rN | apply rD); exact HO267.out) hb); have n1_ := m0 (rB (by (with_reducible repeat first | apply rA | apply rN | apply rD); exact HO277.out) hb); have n2_ := m0 (rB (by (with_reducible repeat first | apply rA | apply rN | apply rD); exact HO281.out) hb); have n3_ := m0 (rB (by (with_reducible repeat first | apply rA | apply rN | apply rD); exact HO285.out) hb); have n4_ := m0 (below_step (by repeat first | exact HB.out | apply bA | apply bN | apply bD) hb); clear HO267; clear HO277; clear HO281; clear HO285; clear HB; have HO267 := n0_; have HO277 := n1_; have HO281 := n2_; have HO285 := n3_; have HB := n4_; clear n0_ n1_ n2_ n3_ n4_; (try clear hb); (try clear hb2); (try clear hk); (try clear hi)) | ((with_reducible refine gate_callee (f := 17) rfl ?_); refine goesL_ (some 56) rfl rfl Tryd.func17 (by kernel_rfl) rfl #[.slice Ao134 y275.length co134] rfl (by (try simp only [List.map_toArray, List.map_cons, List.map_nil]); first | done | rfl | (simp only [List.length_drop, List.length_take]; rfl)) ?_; (with_reducible refine (margin_End.calls _ _ y275 t289 t290 t291 _ ?side1 ?side2 A16.out (GOK.below HG.out (by repeat first | exact HB.out | apply bA | apply bN | apply bD))).mono ?_); (case side1 => repeat (first | exact (rR HO277.out).2.2 | (with_reducible refine cA ?_ _) | (with_reducible refine cN ?_ _) | (with_reducible refine cD ?_))); (case side2 => exact (rR HO277.out).2.1); rintro e w137 ⟨rfl, hb⟩; refine ⟨_, rfl, ?_⟩; have n0_ := m0 (rB (by (with_reducible repeat first | apply rA | apply rN | apply rD); exact HO267.out) hb); have n1_ := m0 (rB (by (with_reducible repeat first | apply rA | apply rN | apply rD); exact HO277.out) hb); have n2_ := m0 (rB (by (with_reducible repeat first | apply rA | apply rN | apply rD); exact HO281.out) hb); have n3_ := m0 (rB (by (with_reducible repeat first | apply rA | apply rN | apply rD); exact HO285.out) hb); have n4_ := m0 (below_step (by repeat first | exact HB.out | apply bA | apply bN | apply bD) hb); clear HO267; clear HO277; clear HO281; clear HO285; clear HB; have HO267 := n0_; have HO277 := n1_; have HO281 := n2_; have HO285 := n3_; have HB := n4_; clear n0_ n1_ n2_ n3_ n4_; (try clear hb); (try clear hb2); (try clear hk); (try clear hi)))
          go_ret
          exact ⟨by first | rfl | (simp [errW_none, errW_some] <;> rfl) | (simp only [← hji4, ← hji5]; first | rfl | (simp [errW_none, errW_some] <;> rfl)) | (simp [*, errW_none, errW_some] <;> rfl), by repeat first | exact HB.out | apply bA | apply bN | apply bD⟩
        ·
         rw [if_neg c102] at H
         have c102b0 : (t283 == t279) = false := beq_eq_false_iff_ne.mpr c102
         have c102b1 : (t283 != t279) = true := bne_iff_ne.mpr c102
         obtain rfl := Option.some.inj H
         go_enter Tryd.func6, Tryd.ntmps6
         try go_wp2_with (first | ((with_reducible refine gate_callee (f := 10) rfl ?_); refine goesL_ (some 18) rfl rfl Tryd.func10 (by kernel_rfl) rfl #[] rfl (by (try simp only [List.map_toArray, List.map_cons, List.map_nil]); first | done | rfl | (simp only [List.length_drop, List.length_take]; rfl)) ?_; (with_reducible refine (gutterlaw10_shown.calls k  true _ A3.out (GOK.below HG.out (by repeat first | exact HB.out | apply bA | apply bN | apply bD))).mono ?_); rintro e w138 ⟨rfl, hb⟩; refine ⟨_, rfl, ?_⟩; have n0_ := m0 (below_step (by repeat first | exact HB.out | apply bA | apply bN | apply bD) hb); clear HB; have HB := n0_; clear n0_; (try clear hb); (try clear hb2); (try clear hk); (try clear hi); have hroom139 : l0.length ≤ c0 := HC0.out; have hr139 := C_takeN 40 HR0.out; rw [← Ny254.out] at hr139; have hy139 : y254.length ≤ l0.length := (by rw [Ny254.out, List.length_take]; omega); have HR257 := m0 hr139; have HC257 := m0 (show y254.length ≤ c0 from by omega); have KR139 := m0 hroom139; clear hr139 hroom139; have KY139 := m0 hy139; clear hy139) | (go_at_call 14; refine calls_of_args (args' := #[.slice A0 l0.length c0]) (by (try simp only [List.map_toArray, List.map_cons, List.map_nil]); first | done | rfl) ?_; refine (cut_14 A0 c0 l0 y254 _ KR139.out Ny254.out).mono ?_; rintro e w' ⟨rfl, rfl⟩))
         have n0_ := m0 (bD HB.out)
         clear HB
         have HB := n0_
         clear n0_
         have q141 : ((ji5) : Int) ≤ ((y254.length : Int) : Int) := oT (by first | (with_reducible assumption) | assumption)
         obtain ⟨i0141, hi0141, _, hsz141, _⟩ := info_parts info42
         have hroom141 : y254.length ≤ c0 := HC257.out
         have hC141 : Kd.C k42 _ A0 y254.length y254 := HR257.out
         have hcut141 := cut_to (P := Tryd.prog) 30 42 .i64 Tryd.underlying30 hi0141 A0 y254.length c0 (ji5) (oT (by first | (with_reducible assumption) | assumption)) q141 hroom141
         have hr141 := Kd.C_take (m := ((ji5) : Int).toNat) hC141 (by omega)
         have hy141 : y258.length = ((ji5) : Int).toNat := (by rw [Ny258.out, List.length_take]; omega)
         rw [← Ny258.out] at hr141
         rw [← hy141] at hcut141
         have HR261 := m0 hr141
         have HC261 := m0 (show y258.length ≤ c0 from by omega)
         clear hr141 hC141 hroom141 hi0141 hsz141
         have KY141 := m0 hy141
         clear hy141
         replace q141 := eq_true q141
         have q142 : ((ji5) : Int) ≤ ((y254.length : Int) : Int) := oT (by first | (with_reducible assumption) | assumption)
         obtain ⟨i0142, hi0142, _, hsz142, _⟩ := info_parts info42
         have hroom142 : y254.length ≤ c0 := HC257.out
         have hC142 : Kd.C k42 _ A0 y254.length y254 := HR257.out
         have q0142 : (0 : Int) ≤ ((ji5) : Int) := oT (by first | (with_reducible assumption) | assumption)
         have hcut142 := cut_from (P := Tryd.prog) 30 42 .i64 Tryd.underlying30 hi0142 3 hsz142 A0 y254.length c0 (ji5) q0142 q142
         have hr142 := Kd.C_drop (m := ((ji5) : Int).toNat) (c := c0) hC142 (by omega) hroom142
         obtain ⟨A142, hA142⟩ : ∃ A1, A1 = (if c0 = ((ji5) : Int).toNat then A0 else (A0 : Option Addr).map (·.add (((ji5) : Int).toNat * 3))) := ⟨_, rfl⟩
         obtain ⟨c142, hc142⟩ : ∃ c1, c1 = c0 - ((ji5) : Int).toNat := ⟨_, rfl⟩
         have hy142 : y271.length = y254.length - ((ji5) : Int).toNat := (by rw [Ny271.out, List.length_drop] <;> omega)
         rw [show (y254).drop ((ji5) : Int).toNat = y271 from Ny271.out.symm] at hr142
         replace hr142 : Kd.C k42 _ A142 y271.length y271 := (by rw [hA142]; exact hr142)
         rw [← hy142, ← hA142, ← hc142] at hcut142
         have HR274 := m0 hr142
         have HC274 := m0 (show y271.length ≤ c142 from by rw [hy142, hc142]; exact Nat.sub_le_sub_right hroom142 _)
         clear hr142 hC142 hroom142 hi0142 hsz142 hc142
         have KY142 := m0 hy142
         have KA142 := m0 hA142
         clear hy142 hA142
         replace q142 := eq_true q142
         refine start_ (n := 13) (S := fun w' => True) (ds := []) #[false, false, false, false, false, false, false, false, false, false, false, false, false] (by kernel_rfl) rfl rfl trivial (fun hHeld => ?_); refine with_tabW gutterlaw10_MarginNothing.tab5 gutterlaw10_MarginNothing.bits5 (fun HT_ HW_ => ?_)
         generalize w138.drew = w140 at HB HR261 HR274 hHeld ⊢
         refine pure_ (i := 0) (N := some 26) (v := ?_) (a' := ?_) #[true, false, false, false, false, false, false, false, false, false, false, false, false] rfl rfl (any_of HT_.out (by kernel_rfl)) (fun _ _ _ h => h) (Or.inl ⟨by rfl, ?_⟩) ?_ ?_
         rotate_left
         ·
          intro w'
          go_simp
          with_reducible rfl
         rotate_left
         ·
          simp only [Act.put, sT, s0, sS, i64_w, i32_w]
          rfl
         refine pure_ (i := 1) (N := some 27) (v := ?_) (a' := ?_) #[true, true, false, false, false, false, false, false, false, false, false, false, false] rfl rfl (any_of HT_.out (by kernel_rfl)) (fun _ _ _ h => h) (Or.inl ⟨by rfl, ?_⟩) ?_ ?_
         rotate_left
         ·
          intro w'
          go_simp
          with_reducible rfl
         rotate_left
         ·
          simp only [Act.put, sT, s0, sS, i64_w, i32_w]
          rfl
         refine pure_ (i := 2) (N := some 28) (v := ?_) (a' := ?_) #[true, true, true, false, false, false, false, false, false, false, false, false, false] rfl rfl (any_of HT_.out (by kernel_rfl)) (fun _ _ _ h => h) (Or.inl ⟨by rfl, ?_⟩) ?_ ?_
         rotate_left
         ·
          intro w'
          go_simp
          with_reducible rfl
         rotate_left
         ·
          simp only [Act.put, sT, s0, sS, i64_w, i32_w]
          rfl
         refine pure_ (i := 3) (N := some 29) (v := ?_) (a' := ?_) #[true, true, true, true, false, false, false, false, false, false, false, false, false] rfl rfl (any_of HT_.out (by kernel_rfl)) (fun _ _ _ h => h) (Or.inl ⟨by rfl, ?_⟩) ?_ ?_
         rotate_left
         ·
          intro w'
          go_simp
          with_reducible rfl
         rotate_left
         ·
          simp only [Act.put, sT, s0, sS, i64_w, i32_w]
          rfl
         refine pure_ (i := 5) (N := some 31) (v := ?_) (a' := ?_) #[true, true, true, true, false, true, false, false, false, false, false, false, false] rfl rfl (any_of HT_.out (by kernel_rfl)) (fun _ _ _ h => h) (Or.inl ⟨by rfl, ?_⟩) ?_ ?_
         rotate_left
         ·
          intro w'
          go_simp
          with_reducible rfl
         rotate_left
         ·
          simp only [Act.put, sT, s0, sS, i64_w, i32_w]
          rfl
         refine pure_ (i := 8) (N := some 34) (v := ?_) (a' := ?_) #[true, true, true, true, false, true, false, false, true, false, false, false, false] rfl rfl (any_of HT_.out (by kernel_rfl)) (fun _ _ _ h => h) (Or.inl ⟨by rfl, ?_⟩) ?_ ?_
         rotate_left
         ·
          intro w'
          go_simp
          with_reducible rfl
         rotate_left
         ·
          simp only [Act.put, sT, s0, sS, i64_w, i32_w]
          rfl
         refine pure_ (i := 9) (N := some 35) (v := ?_) (a' := ?_) #[true, true, true, true, false, true, false, false, true, true, false, false, false] rfl rfl (any_of HT_.out (by kernel_rfl)) (fun _ _ _ h => h) (Or.inl ⟨by rfl, ?_⟩) ?_ ?_
         rotate_left
         ·
          intro w'
          go_simp
          with_reducible rfl
         rotate_left
         ·
          simp only [Act.put, sT, s0, sS, i64_w, i32_w]
          rfl
         refine pure_ (i := 10) (N := some 36) (v := ?_) (a' := ?_) #[true, true, true, true, false, true, false, false, true, true, true, false, false] rfl rfl (any_of HT_.out (by kernel_rfl)) (fun _ _ _ h => h) (Or.inl ⟨by rfl, ?_⟩) ?_ ?_
         rotate_left
         ·
          intro w'
          go_simp
          with_reducible rfl
         rotate_left
         ·
          simp only [Act.put, sT, s0, sS, i64_w, i32_w]
          rfl
         refine join_ (σ := Value × Value) 3 #[true, true, true, true, true, true, true, false, true, true, true, false, false] (fun s_ => [(30, s_.1), (32, s_.2)]) (fun s_ w' => (Kd.R k42 42 w' w.heap.size (fun k_ => some k_ ≠ (s_.2 : Value).ownBlock) s_.1 y262) ∧ (Kd.R k42 42 w' w.heap.size (fun k_ => some k_ ≠ (s_.1 : Value).ownBlock) s_.2 y265) ∧ (Below w.heap.size w w')) ?_ ?_
         rotate_left
         ·
          intro hCont
          refine two_ (i := 4) (j := 6) (Ni := some 30) (Nj := some 32) #[true, true, true, true, true, true, false, false, true, true, true, false, false] #[true, true, true, true, false, true, true, false, true, true, true, false, false] rfl rfl rfl rfl (two_of HT_.out (by kernel_rfl)) (by decide) (by decide) (fun K hK => ?_) (fun K hK => ?_)
          ·
           skip
           refine Kd.R_append_rows_step k42 (w0 := w) w.heap.size (by rfl) (.tmp 26) (.tmp 29) 30 42 (.agg #[(.int .i64 0), (.int .i64 0), (.int .i64 0)]) 24 rfl Tryd.underlying30 info42 rfl (by decide) (by omega) (.slice none 0 0) ([] : List (S42)) y258 _ _ _ (fun _ => True) (fun _ => False) rfl rfl ?aO ?aR (fun _ _ h => h) (fun _ h => h.elim) ?aF ?aB ?aS ?aL ?_
           (case aR => repeat (first | exact (cB HR261.out HB.out) | (with_reducible refine cA ?_ _) | (with_reducible refine cN ?_ _) | (with_reducible refine cD ?_)))
           (case aB => exact (by repeat first | exact HB.out | apply bA | apply bN | apply bD))
           (case aF => exact (fun _ _ => trivial))
           (case aO => exact ((Kd.R_nil _ _ _ _ (fun _ => True))))
           (case aS => exact (bZ (by repeat first | exact HB.out | apply bA | apply bN | apply bD)))
           (case aL => have := LMc8.out; omega)
           intro v263 w143 ho hb hg hat
           rw [← Ny262.out] at ho
           have n0_ := m0 (hb)
           have n1_ := m0 (ho)
           clear HB
           have HB := n0_
           have HO264 := n1_
           clear n0_ n1_
           clear ho hb hg hat
           refine hK.out _ _ trivial (fun hHeld => ?_)
           clear hK K
           refine norm_ (a' := ?_) ?_ ?_
           rotate_left
           ·
            show Act.put _ (some 30) _ = _
            simp only [Act.put, sT, s0, sS, i64_w, i32_w]
            rfl
           refine one_ (i := 6) (N := some 32) #[true, true, true, true, true, true, true, false, true, true, true, false, false] rfl rfl (one_of HT_.out (by kernel_rfl)) (by decide) (fun K hK => ?_)
           refine Kd.R_lit_step k42 _ 42 ?hg (N := 32) ?hd (xs := ([(⟨0, 0, 0⟩ : S42)] : List (S42))) (inner := [.int .i64 0, .int .i64 0, .int .i64 0]) (ok := fun _ => True) (okp := fun _ => True) ?hr ?hp (fun _ hk => hk) trivial (Below.refl _ _) (Nat.le_refl _) (by simp) ?_; (case hd => rfl); (case hg => rfl); (case hr => first | (go_simp; done) | (go_simp; rfl)); (case hp => exact (Reps.c3 (show Kd.M k42 _ _ _ (⟨0, 0, 0⟩ : S42) [.int .i64 0, .int .i64 0, .int .i64 0] from (k42_mkM _ _ _ (⟨0, 0, 0⟩ : S42) )) (Reps.none _ _)))
           intro v266 w144 ho145 hb hg_ hnew_
           clear hg_ hnew_
           (first | rw [← Ny265.out] at ho145 | (simp only [Int.reduceToNat] at ho145; rw [← Ny265.out] at ho145))
           have n0_ := m0 (Kd.R_elder' (by (with_reducible repeat first | apply rA | apply rN | apply rD); exact HO264.out) (Kd.R_base ho145) hb)
           have n1_ := m0 (rL (Kd.R_new' ho145 (rT (by (with_reducible repeat first | apply rA | apply rN | apply rD); exact HO264.out))) (bZ (by repeat first | exact HB.out | apply bA | apply bN | apply bD)))
           have n2_ := m0 (below_step (by repeat first | exact HB.out | apply bA | apply bN | apply bD) hb)
           clear HO264
           clear HB
           have HO264 := n0_
           have HO267 := n1_
           have HB := n2_
           clear n0_ n1_ n2_
           clear hb ho145
           refine hK.out _ _ trivial (fun hHeld => ?_)
           clear hK K
           refine norm_ (a' := ?_) ?_ ?_
           rotate_left
           ·
            show Act.put _ (some 32) _ = _
            simp only [Act.put, sT, s0, sS, i64_w, i32_w]
            rfl
           exact norm_ (by simp only [putAll, Act.put, sT, s0, sS]) (hCont (v263, v266) _ ⟨(by (with_reducible repeat first | apply rA | apply rN | apply rD); exact Kd.R_mono HO264.out (fun _ hk => hk.2)), (by (with_reducible repeat first | apply rA | apply rN | apply rD); exact Kd.R_mono HO267.out (fun _ hk => hk.2)), (by repeat first | exact HB.out | apply bA | apply bN | apply bD)⟩)
          ·
           skip
           refine Kd.R_lit_step k42 _ 42 ?hg (N := 32) ?hd (xs := ([(⟨0, 0, 0⟩ : S42)] : List (S42))) (inner := [.int .i64 0, .int .i64 0, .int .i64 0]) (ok := fun _ => True) (okp := fun _ => True) ?hr ?hp (fun _ hk => hk) trivial (Below.refl _ _) (Nat.le_refl _) (by simp) ?_; (case hd => rfl); (case hg => rfl); (case hr => first | (go_simp; done) | (go_simp; rfl)); (case hp => exact (Reps.c3 (show Kd.M k42 _ _ _ (⟨0, 0, 0⟩ : S42) [.int .i64 0, .int .i64 0, .int .i64 0] from (k42_mkM _ _ _ (⟨0, 0, 0⟩ : S42) )) (Reps.none _ _)))
           intro v266 w143 ho144 hb hg_ hnew_
           clear hg_ hnew_
           (first | rw [← Ny265.out] at ho144 | (simp only [Int.reduceToNat] at ho144; rw [← Ny265.out] at ho144))
           have n0_ := m0 (rL ho144 (bZ (by repeat first | exact HB.out | apply bA | apply bN | apply bD)))
           have n1_ := m0 (below_step (by repeat first | exact HB.out | apply bA | apply bN | apply bD) hb)
           clear HB
           have HO267 := n0_
           have HB := n1_
           clear n0_ n1_
           clear hb ho144
           refine hK.out _ _ trivial (fun hHeld => ?_)
           clear hK K
           refine norm_ (a' := ?_) ?_ ?_
           rotate_left
           ·
            show Act.put _ (some 32) _ = _
            simp only [Act.put, sT, s0, sS, i64_w, i32_w]
            rfl
           refine one_ (i := 4) (N := some 30) #[true, true, true, true, true, true, true, false, true, true, true, false, false] rfl rfl (one_of HT_.out (by kernel_rfl)) (by decide) (fun K hK => ?_)
           refine Kd.R_append_rows_step k42 (w0 := w) w.heap.size (by rfl) (.tmp 26) (.tmp 29) 30 42 (.agg #[(.int .i64 0), (.int .i64 0), (.int .i64 0)]) 24 rfl Tryd.underlying30 info42 rfl (by decide) (by omega) (.slice none 0 0) ([] : List (S42)) y258 _ _ _ (fun k_ => some k_ ≠ (v266 : Value).ownBlock) (fun _ => False) rfl rfl ?aO ?aR (fun _ _ h => h) (fun _ h => h.elim) ?aF ?aB ?aS ?aL ?_
           (case aR => repeat (first | exact (cB HR261.out HB.out) | (with_reducible refine cA ?_ _) | (with_reducible refine cN ?_ _) | (with_reducible refine cD ?_)))
           (case aB => exact (by repeat first | exact HB.out | apply bA | apply bN | apply bD))
           (case aF => exact (fun k_ hk => Kd.fresh' (rT (by (with_reducible repeat first | apply rA | apply rN | apply rD); exact HO267.out)) k_ hk))
           (case aO => exact ((Kd.R_nil _ _ _ _ (fun k_ => some k_ ≠ (v266 : Value).ownBlock))))
           (case aS => exact (bZ (by repeat first | exact HB.out | apply bA | apply bN | apply bD)))
           (case aL => have := LMc8.out; omega)
           intro v263 w145 ho hb hg hat
           rw [← Ny262.out] at ho
           have n0_ := m0 (Kd.R_after (Kd.R_apart_nil (by (with_reducible repeat first | apply rA | apply rN | apply rD); exact HO267.out)) hg hat)
           have n1_ := m0 (hb)
           have n2_ := m0 (ho)
           clear HO267
           clear HB
           have HO267 := n0_
           have HB := n1_
           have HO264 := n2_
           clear n0_ n1_ n2_
           clear ho hb hg hat
           refine hK.out _ _ trivial (fun hHeld => ?_)
           clear hK K
           refine norm_ (a' := ?_) ?_ ?_
           rotate_left
           ·
            show Act.put _ (some 30) _ = _
            simp only [Act.put, sT, s0, sS, i64_w, i32_w]
            rfl
           exact norm_ (by simp only [putAll, Act.put, sT, s0, sS]) (hCont (v263, v266) _ ⟨(by (with_reducible repeat first | apply rA | apply rN | apply rD); exact HO264.out), (by (with_reducible repeat first | apply rA | apply rN | apply rD); exact Kd.R_mono HO267.out (fun _ hk => hk.2)), (by repeat first | exact HB.out | apply bA | apply bN | apply bD)⟩)
         rintro ⟨v263, v266⟩ w146 ⟨h0_, h1_, h2_⟩
         have n0_ : Aside0 (Kd.R k42 42 w146 w.heap.size (fun k_ => some k_ ≠ (v266 : Value).ownBlock) v263 y262) := ⟨h0_⟩
         have n1_ : Aside0 (Kd.R k42 42 w146 w.heap.size (fun k_ => some k_ ≠ (v263 : Value).ownBlock) v266 y265) := ⟨h1_⟩
         have n2_ : Aside0 (Below w.heap.size w w146) := ⟨h2_⟩
         clear HB
         clear h0_ h1_ h2_
         have HO264 := n0_
         have HO267 := n1_
         have HB := n2_
         clear n0_ n1_ n2_
         have hHeld := trivial
         obtain ⟨Ao148, co148, eo148⟩ := Kd.R_slice HO267.out
         (first | subst eo148 | (injection eo148 with f1_ f2_ f3_; have f4_ := f1_.symm; have f5_ := f3_.symm; clear f1_ f2_ f3_; subst f4_; subst f5_))
         refine norm_ (a' := ?_) ?_ ?_
         rotate_left
         ·
          simp only [putAll, Act.put, sT, s0, sS]
          rfl
         refine one_ (i := 7) (N := some 33) #[true, true, true, true, true, true, true, true, true, true, true, false, false] rfl rfl (one_of HT_.out (by kernel_rfl)) (by decide) (fun K hK => ?_)
         refine Kd.R_append_rows_step k42 (w0 := w) w.heap.size (by rfl) (.tmp 30) (.tmp 32) 30 42 (.agg #[(.int .i64 0), (.int .i64 0), (.int .i64 0)]) 24 rfl Tryd.underlying30 info42 rfl (by decide) (by omega) v263 y262 y265 _ _ _ (fun k_ => some k_ ≠ (.slice Ao148 y265.length co148 : Value).ownBlock) (fun _ => False) rfl rfl ?aO ?aR (fun _ _ h => h) (fun _ h => h.elim) ?aF ?aB ?aS ?aL ?_
         (case aR => repeat (first | exact (rR HO267.out).2.2 | (with_reducible refine cA ?_ _) | (with_reducible refine cN ?_ _) | (with_reducible refine cD ?_)))
         (case aB => exact (by repeat first | exact HB.out | apply bA | apply bN | apply bD))
         (case aF => exact (fun k_ hk => Kd.fresh' (rT (by (with_reducible repeat first | apply rA | apply rN | apply rD); exact HO267.out)) k_ hk))
         (case aO => exact (by (with_reducible repeat first | apply rA | apply rN | apply rD); exact HO264.out))
         (case aS => exact (bZ (by repeat first | exact HB.out | apply bA | apply bN | apply bD)))
         (case aL => have := LMc9.out; omega)
         intro v269 w147 ho hb hg hat
         rw [← Ny268.out] at ho
         have n0_ := m0 (Kd.R_after (ok := (fun _ => True)) (by (with_reducible repeat first | apply rA | apply rN | apply rD); exact Kd.R_mono HO267.out (fun _ hk => ⟨trivial, hk⟩)) hg hat)
         have n1_ := m0 (hb)
         have n2_ := m0 (ho)
         clear HO267
         clear HB
         clear HO264
         have HO267 := n0_
         have HB := n1_
         have HO270 := n2_
         clear n0_ n1_ n2_
         clear ho hb hg hat
         refine hK.out _ _ trivial (fun hHeld => ?_)
         clear hK K
         refine norm_ (a' := ?_) ?_ ?_
         rotate_left
         ·
          show Act.put _ (some 33) _ = _
          simp only [Act.put, sT, s0, sS, i64_w, i32_w]
          rfl
         refine one_ (i := 11) (N := some 37) #[true, true, true, true, true, true, true, true, true, true, true, true, false] rfl rfl (one_of HT_.out (by kernel_rfl)) (by decide) (fun K hK => ?_)
         refine Kd.R_append_rows_step k42 (w0 := w) w.heap.size (by rfl) (.tmp 33) (.tmp 36) 30 42 (.agg #[(.int .i64 0), (.int .i64 0), (.int .i64 0)]) 24 rfl Tryd.underlying30 info42 rfl (by decide) (by omega) v269 y268 y271 _ _ _ (fun k_ => some k_ ≠ (.slice Ao148 y265.length co148 : Value).ownBlock) (fun _ => False) rfl rfl ?aO ?aR (fun _ _ h => h) (fun _ h => h.elim) ?aF ?aB ?aS ?aL ?_
         (case aR => repeat (first | exact (cB HR274.out HB.out) | (with_reducible refine cA ?_ _) | (with_reducible refine cN ?_ _) | (with_reducible refine cD ?_)))
         (case aB => exact (by repeat first | exact HB.out | apply bA | apply bN | apply bD))
         (case aF => exact (fun k_ hk => Kd.fresh' (rT (by (with_reducible repeat first | apply rA | apply rN | apply rD); exact HO267.out)) k_ hk))
         (case aO => exact (by (with_reducible repeat first | apply rA | apply rN | apply rD); exact HO270.out))
         (case aS => exact (bZ (by repeat first | exact HB.out | apply bA | apply bN | apply bD)))
         (case aL => have := LMc12.out; omega)
         intro v276 w149 ho hb hg hat
         rw [← Ny275.out] at ho
         have n0_ := m0 (Kd.R_after (ok := (fun _ => True)) (by (with_reducible repeat first | apply rA | apply rN | apply rD); exact HO267.out) hg hat)
         have n1_ := m0 (hb)
         have n2_ := m0 (ho)
         clear HO267
         clear HB
         clear HO270
         have HO267 := n0_
         have HB := n1_
         have HO277 := n2_
         clear n0_ n1_ n2_
         clear ho hb hg hat
         refine hK.out _ _ trivial (fun hHeld => ?_)
         clear hK K
         refine norm_ (a' := ?_) ?_ ?_
         rotate_left
         ·
          show Act.put _ (some 37) _ = _
          simp only [Act.put, sT, s0, sS, i64_w, i32_w]
          rfl
         refine pure_ (i := 12) (N := some 6) (v := ?_) (a' := ?_) #[true, true, true, true, true, true, true, true, true, true, true, true, true] rfl rfl (any_of HT_.out (by kernel_rfl)) (fun _ _ _ h => h) (Or.inl ⟨by rfl, ?_⟩) ?_ ?_
         rotate_left
         ·
          intro w'
          go_simp
          with_reducible rfl
         rotate_left
         ·
          simp only [Act.put, sT, s0, sS, i64_w, i32_w]
          rfl
         refine done_ (done_of HT_.out (by kernel_rfl)) ?_
         try go_wp2_with (first | ((with_reducible refine gate_callee (f := 15) rfl ?_); refine goesL_ (some 40) rfl rfl Tryd.func15 (by kernel_rfl) rfl #[.slice A0 y254.length c0] rfl (by (try simp only [List.map_toArray, List.map_cons, List.map_nil]); first | done | rfl | (simp only [List.length_drop, List.length_take]; rfl)) ?_; (with_reducible refine (margin_Tops.calls _ _ y254 t278 t279 _ ?side1 ?side2 A13.out (GOK.below HG.out (by repeat first | exact HB.out | apply bA | apply bN | apply bD))).mono ?_); (case side1 => repeat (first | exact (cB HR257.out HB.out) | (with_reducible refine cA ?_ _) | (with_reducible refine cN ?_ _) | (with_reducible refine cD ?_))); (case side2 => exact HC257.out); rintro e w150 ⟨v280, rfl, ho0, hb⟩; refine ⟨_, rfl, ?_⟩; have n0_ := m0 (rB (by (with_reducible repeat first | apply rA | apply rN | apply rD); exact HO267.out) hb); have n1_ := m0 (rB (by (with_reducible repeat first | apply rA | apply rN | apply rD); exact HO277.out) hb); have n2_ := m0 (rL ho0 (bZ (by repeat first | exact HB.out | apply bA | apply bN | apply bD))); have n3_ := m0 (below_step (by repeat first | exact HB.out | apply bA | apply bN | apply bD) hb); clear HO267; clear HO277; clear HB; have HO267 := n0_; have HO277 := n1_; have HO281 := n2_; have HB := n3_; clear n0_ n1_ n2_ n3_; (try clear hb); (try clear hb2); (try clear hk); (try clear hi); (try clear ho0); obtain ⟨Ao151, co151, eo151⟩ := Kd.R_slice HO277.out; subst eo151) | ((with_reducible refine gate_callee (f := 15) rfl ?_); refine goesL_ (some 45) rfl rfl Tryd.func15 (by kernel_rfl) rfl #[.slice Ao151 y275.length co151] rfl (by (try simp only [List.map_toArray, List.map_cons, List.map_nil]); first | done | rfl | (simp only [List.length_drop, List.length_take]; rfl)) ?_; (with_reducible refine (margin_Tops.calls _ _ y275 t282 t283 _ ?side1 ?side2 A14.out (GOK.below HG.out (by repeat first | exact HB.out | apply bA | apply bN | apply bD))).mono ?_); (case side1 => repeat (first | exact (rR HO277.out).2.2 | (with_reducible refine cA ?_ _) | (with_reducible refine cN ?_ _) | (with_reducible refine cD ?_))); (case side2 => exact (rR HO277.out).2.1); rintro e w152 ⟨v284, rfl, ho0, hb⟩; refine ⟨_, rfl, ?_⟩; have n0_ := m0 (rB (by (with_reducible repeat first | apply rA | apply rN | apply rD); exact HO267.out) hb); have n1_ := m0 (rB (by (with_reducible repeat first | apply rA | apply rN | apply rD); exact HO277.out) hb); have n2_ := m0 (Kd.R_elder' (by (with_reducible repeat first | apply rA | apply rN | apply rD); exact HO281.out) (Kd.R_base ho0) hb); have n3_ := m0 (rL (Kd.R_new' ho0 (rT (by (with_reducible repeat first | apply rA | apply rN | apply rD); exact HO281.out))) (bZ (by repeat first | exact HB.out | apply bA | apply bN | apply bD))); have n4_ := m0 (below_step (by repeat first | exact HB.out | apply bA | apply bN | apply bD) hb); clear HO267; clear HO277; clear HO281; clear HB; have HO267 := n0_; have HO277 := n1_; have HO281 := n2_; have HO285 := n3_; have HB := n4_; clear n0_ n1_ n2_ n3_ n4_; (try clear hb); (try clear hb2); (try clear hk); (try clear hi); (try clear ho0)) | ((with_reducible refine gate_callee (f := 17) rfl ?_); refine goesL_ (some 50) rfl rfl Tryd.func17 (by kernel_rfl) rfl #[.slice A0 y254.length c0] rfl (by (try simp only [List.map_toArray, List.map_cons, List.map_nil]); first | done | rfl | (simp only [List.length_drop, List.length_take]; rfl)) ?_; (with_reducible refine (margin_End.calls _ _ y254 t286 t287 t288 _ ?side1 ?side2 A15.out (GOK.below HG.out (by repeat first | exact HB.out | apply bA | apply bN | apply bD))).mono ?_); (case side1 => repeat (first | exact (cB HR257.out HB.out) | (with_reducible refine cA ?_ _) | (with_reducible refine cN ?_ _) | (with_reducible refine cD ?_))); (case side2 => exact HC257.out); rintro e w153 ⟨rfl, hb⟩; refine ⟨_, rfl, ?_⟩; have n0_ := m0 (rB (by (with_reducible repeat first | apply rA | apply rN | apply rD); exact HO267.out) hb); have n1_ := m0 (rB (by (with_reducible repeat first | apply rA | apply rN | apply rD); exact HO277.out) hb); have n2_ := m0 (rB (by (with_reducible repeat first | apply rA | apply rN | apply rD); exact HO281.out) hb); have n3_ := m0 (rB (by (with_reducible repeat first | apply rA | apply rN | apply rD); exact HO285.out) hb); have n4_ := m0 (below_step (by repeat first | exact HB.out | apply bA | apply bN | apply bD) hb); clear HO267; clear HO277; clear HO281; clear HO285; clear HB; have HO267 := n0_; have HO277 := n1_; have HO281 := n2_; have HO285 := n3_; have HB := n4_; clear n0_ n1_ n2_ n3_ n4_; (try clear hb); (try clear hb2); (try clear hk); (try clear hi)) | ((with_reducible refine gate_callee (f := 17) rfl ?_); refine goesL_ (some 56) rfl rfl Tryd.func17 (by kernel_rfl) rfl #[.slice Ao151 y275.length co151] rfl (by (try simp only [List.map_toArray, List.map_cons, List.map_nil]); first | done | rfl | (simp only [List.length_drop, List.length_take]; rfl)) ?_; (with_reducible refine (margin_End.calls _ _ y275 t289 t290 t291 _ ?side1 ?side2 A16.out (GOK.below HG.out (by repeat first | exact HB.out | apply bA | apply bN | apply bD))).mono ?_); (case side1 => repeat (first | exact (rR HO277.out).2.2 | (with_reducible refine cA ?_ _) | (with_reducible refine cN ?_ _) | (with_reducible refine cD ?_))); (case side2 => exact (rR HO277.out).2.1); rintro e w154 ⟨rfl, hb⟩; refine ⟨_, rfl, ?_⟩; have n0_ := m0 (rB (by (with_reducible repeat first | apply rA | apply rN | apply rD); exact HO267.out) hb); have n1_ := m0 (rB (by (with_reducible repeat first | apply rA | apply rN | apply rD); exact HO277.out) hb); have n2_ := m0 (rB (by (with_reducible repeat first | apply rA | apply rN | apply rD); exact HO281.out) hb); have n3_ := m0 (rB (by (with_reducible repeat first | apply rA | apply rN | apply rD); exact HO285.out) hb); have n4_ := m0 (below_step (by repeat first | exact HB.out | apply bA | apply bN | apply bD) hb); clear HO267; clear HO277; clear HO281; clear HO285; clear HB; have HO267 := n0_; have HO277 := n1_; have HO281 := n2_; have HO285 := n3_; have HB := n4_; clear n0_ n1_ n2_ n3_ n4_; (try clear hb); (try clear hb2); (try clear hk); (try clear hi)))
         go_ret
         exact ⟨by first | rfl | (simp [errW_none, errW_some] <;> rfl) | (simp only [← hji4, ← hji5]; first | rfl | (simp [errW_none, errW_some] <;> rfl)) | (simp [*, errW_none, errW_some] <;> rfl), by repeat first | exact HB.out | apply bA | apply bN | apply bD⟩
       ·
        replace c101 := Bool.eq_false_iff.mpr c101
        subst c101
        have H1 : (some false) = some r := by rw [if_neg (show ¬ (false = true) by decide)] at H; exact H
        clear H
        have H := H1
        clear H1
        obtain rfl := Option.some.inj H
        go_enter Tryd.func6, Tryd.ntmps6
        try go_wp2_with (first | ((with_reducible refine gate_callee (f := 10) rfl ?_); refine goesL_ (some 18) rfl rfl Tryd.func10 (by kernel_rfl) rfl #[] rfl (by (try simp only [List.map_toArray, List.map_cons, List.map_nil]); first | done | rfl | (simp only [List.length_drop, List.length_take]; rfl)) ?_; (with_reducible refine (gutterlaw10_shown.calls k  false _ A3.out (GOK.below HG.out (by repeat first | exact HB.out | apply bA | apply bN | apply bD))).mono ?_); rintro e w155 ⟨rfl, hb⟩; refine ⟨_, rfl, ?_⟩; have n0_ := m0 (below_step (by repeat first | exact HB.out | apply bA | apply bN | apply bD) hb); clear HB; have HB := n0_; clear n0_; (try clear hb); (try clear hb2); (try clear hk); (try clear hi); have hroom156 : l0.length ≤ c0 := HC0.out; have hr156 := C_takeN 40 HR0.out; rw [← Ny254.out] at hr156; have hy156 : y254.length ≤ l0.length := (by rw [Ny254.out, List.length_take]; omega); have HR257 := m0 hr156; have HC257 := m0 (show y254.length ≤ c0 from by omega); have KR156 := m0 hroom156; clear hr156 hroom156; have KY156 := m0 hy156; clear hy156) | (go_at_call 14; refine calls_of_args (args' := #[.slice A0 l0.length c0]) (by (try simp only [List.map_toArray, List.map_cons, List.map_nil]); first | done | rfl) ?_; refine (cut_14 A0 c0 l0 y254 _ KR156.out Ny254.out).mono ?_; rintro e w' ⟨rfl, rfl⟩))
        have n0_ := m0 (bD HB.out)
        clear HB
        have HB := n0_
        clear n0_
        have q158 : ((ji5) : Int) ≤ ((y254.length : Int) : Int) := oT (by first | (with_reducible assumption) | assumption)
        obtain ⟨i0158, hi0158, _, hsz158, _⟩ := info_parts info42
        have hroom158 : y254.length ≤ c0 := HC257.out
        have hC158 : Kd.C k42 _ A0 y254.length y254 := HR257.out
        have hcut158 := cut_to (P := Tryd.prog) 30 42 .i64 Tryd.underlying30 hi0158 A0 y254.length c0 (ji5) (oT (by first | (with_reducible assumption) | assumption)) q158 hroom158
        have hr158 := Kd.C_take (m := ((ji5) : Int).toNat) hC158 (by omega)
        have hy158 : y258.length = ((ji5) : Int).toNat := (by rw [Ny258.out, List.length_take]; omega)
        rw [← Ny258.out] at hr158
        rw [← hy158] at hcut158
        have HR261 := m0 hr158
        have HC261 := m0 (show y258.length ≤ c0 from by omega)
        clear hr158 hC158 hroom158 hi0158 hsz158
        have KY158 := m0 hy158
        clear hy158
        replace q158 := eq_true q158
        have q159 : ((ji5) : Int) ≤ ((y254.length : Int) : Int) := oT (by first | (with_reducible assumption) | assumption)
        obtain ⟨i0159, hi0159, _, hsz159, _⟩ := info_parts info42
        have hroom159 : y254.length ≤ c0 := HC257.out
        have hC159 : Kd.C k42 _ A0 y254.length y254 := HR257.out
        have q0159 : (0 : Int) ≤ ((ji5) : Int) := oT (by first | (with_reducible assumption) | assumption)
        have hcut159 := cut_from (P := Tryd.prog) 30 42 .i64 Tryd.underlying30 hi0159 3 hsz159 A0 y254.length c0 (ji5) q0159 q159
        have hr159 := Kd.C_drop (m := ((ji5) : Int).toNat) (c := c0) hC159 (by omega) hroom159
        obtain ⟨A159, hA159⟩ : ∃ A1, A1 = (if c0 = ((ji5) : Int).toNat then A0 else (A0 : Option Addr).map (·.add (((ji5) : Int).toNat * 3))) := ⟨_, rfl⟩
        obtain ⟨c159, hc159⟩ : ∃ c1, c1 = c0 - ((ji5) : Int).toNat := ⟨_, rfl⟩
        have hy159 : y271.length = y254.length - ((ji5) : Int).toNat := (by rw [Ny271.out, List.length_drop] <;> omega)
        rw [show (y254).drop ((ji5) : Int).toNat = y271 from Ny271.out.symm] at hr159
        replace hr159 : Kd.C k42 _ A159 y271.length y271 := (by rw [hA159]; exact hr159)
        rw [← hy159, ← hA159, ← hc159] at hcut159
        have HR274 := m0 hr159
        have HC274 := m0 (show y271.length ≤ c159 from by rw [hy159, hc159]; exact Nat.sub_le_sub_right hroom159 _)
        clear hr159 hC159 hroom159 hi0159 hsz159 hc159
        have KY159 := m0 hy159
        have KA159 := m0 hA159
        clear hy159 hA159
        replace q159 := eq_true q159
        refine start_ (n := 13) (S := fun w' => True) (ds := []) #[false, false, false, false, false, false, false, false, false, false, false, false, false] (by kernel_rfl) rfl rfl trivial (fun hHeld => ?_); refine with_tabW gutterlaw10_MarginNothing.tab5 gutterlaw10_MarginNothing.bits5 (fun HT_ HW_ => ?_)
        generalize w155.drew = w157 at HB HR261 HR274 hHeld ⊢
        refine pure_ (i := 0) (N := some 26) (v := ?_) (a' := ?_) #[true, false, false, false, false, false, false, false, false, false, false, false, false] rfl rfl (any_of HT_.out (by kernel_rfl)) (fun _ _ _ h => h) (Or.inl ⟨by rfl, ?_⟩) ?_ ?_
        rotate_left
        ·
         intro w'
         go_simp
         with_reducible rfl
        rotate_left
        ·
         simp only [Act.put, sT, s0, sS, i64_w, i32_w]
         rfl
        refine pure_ (i := 1) (N := some 27) (v := ?_) (a' := ?_) #[true, true, false, false, false, false, false, false, false, false, false, false, false] rfl rfl (any_of HT_.out (by kernel_rfl)) (fun _ _ _ h => h) (Or.inl ⟨by rfl, ?_⟩) ?_ ?_
        rotate_left
        ·
         intro w'
         go_simp
         with_reducible rfl
        rotate_left
        ·
         simp only [Act.put, sT, s0, sS, i64_w, i32_w]
         rfl
        refine pure_ (i := 2) (N := some 28) (v := ?_) (a' := ?_) #[true, true, true, false, false, false, false, false, false, false, false, false, false] rfl rfl (any_of HT_.out (by kernel_rfl)) (fun _ _ _ h => h) (Or.inl ⟨by rfl, ?_⟩) ?_ ?_
        rotate_left
        ·
         intro w'
         go_simp
         with_reducible rfl
        rotate_left
        ·
         simp only [Act.put, sT, s0, sS, i64_w, i32_w]
         rfl
        refine pure_ (i := 3) (N := some 29) (v := ?_) (a' := ?_) #[true, true, true, true, false, false, false, false, false, false, false, false, false] rfl rfl (any_of HT_.out (by kernel_rfl)) (fun _ _ _ h => h) (Or.inl ⟨by rfl, ?_⟩) ?_ ?_
        rotate_left
        ·
         intro w'
         go_simp
         with_reducible rfl
        rotate_left
        ·
         simp only [Act.put, sT, s0, sS, i64_w, i32_w]
         rfl
        refine pure_ (i := 5) (N := some 31) (v := ?_) (a' := ?_) #[true, true, true, true, false, true, false, false, false, false, false, false, false] rfl rfl (any_of HT_.out (by kernel_rfl)) (fun _ _ _ h => h) (Or.inl ⟨by rfl, ?_⟩) ?_ ?_
        rotate_left
        ·
         intro w'
         go_simp
         with_reducible rfl
        rotate_left
        ·
         simp only [Act.put, sT, s0, sS, i64_w, i32_w]
         rfl
        refine pure_ (i := 8) (N := some 34) (v := ?_) (a' := ?_) #[true, true, true, true, false, true, false, false, true, false, false, false, false] rfl rfl (any_of HT_.out (by kernel_rfl)) (fun _ _ _ h => h) (Or.inl ⟨by rfl, ?_⟩) ?_ ?_
        rotate_left
        ·
         intro w'
         go_simp
         with_reducible rfl
        rotate_left
        ·
         simp only [Act.put, sT, s0, sS, i64_w, i32_w]
         rfl
        refine pure_ (i := 9) (N := some 35) (v := ?_) (a' := ?_) #[true, true, true, true, false, true, false, false, true, true, false, false, false] rfl rfl (any_of HT_.out (by kernel_rfl)) (fun _ _ _ h => h) (Or.inl ⟨by rfl, ?_⟩) ?_ ?_
        rotate_left
        ·
         intro w'
         go_simp
         with_reducible rfl
        rotate_left
        ·
         simp only [Act.put, sT, s0, sS, i64_w, i32_w]
         rfl
        refine pure_ (i := 10) (N := some 36) (v := ?_) (a' := ?_) #[true, true, true, true, false, true, false, false, true, true, true, false, false] rfl rfl (any_of HT_.out (by kernel_rfl)) (fun _ _ _ h => h) (Or.inl ⟨by rfl, ?_⟩) ?_ ?_
        rotate_left
        ·
         intro w'
         go_simp
         with_reducible rfl
        rotate_left
        ·
         simp only [Act.put, sT, s0, sS, i64_w, i32_w]
         rfl
        refine join_ (σ := Value × Value) 3 #[true, true, true, true, true, true, true, false, true, true, true, false, false] (fun s_ => [(30, s_.1), (32, s_.2)]) (fun s_ w' => (Kd.R k42 42 w' w.heap.size (fun k_ => some k_ ≠ (s_.2 : Value).ownBlock) s_.1 y262) ∧ (Kd.R k42 42 w' w.heap.size (fun k_ => some k_ ≠ (s_.1 : Value).ownBlock) s_.2 y265) ∧ (Below w.heap.size w w')) ?_ ?_
        rotate_left
        ·
         intro hCont
         refine two_ (i := 4) (j := 6) (Ni := some 30) (Nj := some 32) #[true, true, true, true, true, true, false, false, true, true, true, false, false] #[true, true, true, true, false, true, true, false, true, true, true, false, false] rfl rfl rfl rfl (two_of HT_.out (by kernel_rfl)) (by decide) (by decide) (fun K hK => ?_) (fun K hK => ?_)
         ·
          skip
          refine Kd.R_append_rows_step k42 (w0 := w) w.heap.size (by rfl) (.tmp 26) (.tmp 29) 30 42 (.agg #[(.int .i64 0), (.int .i64 0), (.int .i64 0)]) 24 rfl Tryd.underlying30 info42 rfl (by decide) (by omega) (.slice none 0 0) ([] : List (S42)) y258 _ _ _ (fun _ => True) (fun _ => False) rfl rfl ?aO ?aR (fun _ _ h => h) (fun _ h => h.elim) ?aF ?aB ?aS ?aL ?_
          (case aR => repeat (first | exact (cB HR261.out HB.out) | (with_reducible refine cA ?_ _) | (with_reducible refine cN ?_ _) | (with_reducible refine cD ?_)))
          (case aB => exact (by repeat first | exact HB.out | apply bA | apply bN | apply bD))
          (case aF => exact (fun _ _ => trivial))
          (case aO => exact ((Kd.R_nil _ _ _ _ (fun _ => True))))
          (case aS => exact (bZ (by repeat first | exact HB.out | apply bA | apply bN | apply bD)))
          (case aL => have := LMc8.out; omega)
          intro v263 w160 ho hb hg hat
          rw [← Ny262.out] at ho
          have n0_ := m0 (hb)
          have n1_ := m0 (ho)
          clear HB
          have HB := n0_
          have HO264 := n1_
          clear n0_ n1_
          clear ho hb hg hat
          refine hK.out _ _ trivial (fun hHeld => ?_)
          clear hK K
          refine norm_ (a' := ?_) ?_ ?_
          rotate_left
          ·
           show Act.put _ (some 30) _ = _
           simp only [Act.put, sT, s0, sS, i64_w, i32_w]
           rfl
          refine one_ (i := 6) (N := some 32) #[true, true, true, true, true, true, true, false, true, true, true, false, false] rfl rfl (one_of HT_.out (by kernel_rfl)) (by decide) (fun K hK => ?_)
          refine Kd.R_lit_step k42 _ 42 ?hg (N := 32) ?hd (xs := ([(⟨0, 0, 0⟩ : S42)] : List (S42))) (inner := [.int .i64 0, .int .i64 0, .int .i64 0]) (ok := fun _ => True) (okp := fun _ => True) ?hr ?hp (fun _ hk => hk) trivial (Below.refl _ _) (Nat.le_refl _) (by simp) ?_; (case hd => rfl); (case hg => rfl); (case hr => first | (go_simp; done) | (go_simp; rfl)); (case hp => exact (Reps.c3 (show Kd.M k42 _ _ _ (⟨0, 0, 0⟩ : S42) [.int .i64 0, .int .i64 0, .int .i64 0] from (k42_mkM _ _ _ (⟨0, 0, 0⟩ : S42) )) (Reps.none _ _)))
          intro v266 w161 ho162 hb hg_ hnew_
          clear hg_ hnew_
          (first | rw [← Ny265.out] at ho162 | (simp only [Int.reduceToNat] at ho162; rw [← Ny265.out] at ho162))
          have n0_ := m0 (Kd.R_elder' (by (with_reducible repeat first | apply rA | apply rN | apply rD); exact HO264.out) (Kd.R_base ho162) hb)
          have n1_ := m0 (rL (Kd.R_new' ho162 (rT (by (with_reducible repeat first | apply rA | apply rN | apply rD); exact HO264.out))) (bZ (by repeat first | exact HB.out | apply bA | apply bN | apply bD)))
          have n2_ := m0 (below_step (by repeat first | exact HB.out | apply bA | apply bN | apply bD) hb)
          clear HO264
          clear HB
          have HO264 := n0_
          have HO267 := n1_
          have HB := n2_
          clear n0_ n1_ n2_
          clear hb ho162
          refine hK.out _ _ trivial (fun hHeld => ?_)
          clear hK K
          refine norm_ (a' := ?_) ?_ ?_
          rotate_left
          ·
           show Act.put _ (some 32) _ = _
           simp only [Act.put, sT, s0, sS, i64_w, i32_w]
           rfl
          exact norm_ (by simp only [putAll, Act.put, sT, s0, sS]) (hCont (v263, v266) _ ⟨(by (with_reducible repeat first | apply rA | apply rN | apply rD); exact Kd.R_mono HO264.out (fun _ hk => hk.2)), (by (with_reducible repeat first | apply rA | apply rN | apply rD); exact Kd.R_mono HO267.out (fun _ hk => hk.2)), (by repeat first | exact HB.out | apply bA | apply bN | apply bD)⟩)
         ·
          skip
          refine Kd.R_lit_step k42 _ 42 ?hg (N := 32) ?hd (xs := ([(⟨0, 0, 0⟩ : S42)] : List (S42))) (inner := [.int .i64 0, .int .i64 0, .int .i64 0]) (ok := fun _ => True) (okp := fun _ => True) ?hr ?hp (fun _ hk => hk) trivial (Below.refl _ _) (Nat.le_refl _) (by simp) ?_; (case hd => rfl); (case hg => rfl); (case hr => first | (go_simp; done) | (go_simp; rfl)); (case hp => exact (Reps.c3 (show Kd.M k42 _ _ _ (⟨0, 0, 0⟩ : S42) [.int .i64 0, .int .i64 0, .int .i64 0] from (k42_mkM _ _ _ (⟨0, 0, 0⟩ : S42) )) (Reps.none _ _)))
          intro v266 w160 ho161 hb hg_ hnew_
          clear hg_ hnew_
          (first | rw [← Ny265.out] at ho161 | (simp only [Int.reduceToNat] at ho161; rw [← Ny265.out] at ho161))
          have n0_ := m0 (rL ho161 (bZ (by repeat first | exact HB.out | apply bA | apply bN | apply bD)))
          have n1_ := m0 (below_step (by repeat first | exact HB.out | apply bA | apply bN | apply bD) hb)
          clear HB
          have HO267 := n0_
          have HB := n1_
          clear n0_ n1_
          clear hb ho161
          refine hK.out _ _ trivial (fun hHeld => ?_)
          clear hK K
          refine norm_ (a' := ?_) ?_ ?_
          rotate_left
          ·
           show Act.put _ (some 32) _ = _
           simp only [Act.put, sT, s0, sS, i64_w, i32_w]
           rfl
          refine one_ (i := 4) (N := some 30) #[true, true, true, true, true, true, true, false, true, true, true, false, false] rfl rfl (one_of HT_.out (by kernel_rfl)) (by decide) (fun K hK => ?_)
          refine Kd.R_append_rows_step k42 (w0 := w) w.heap.size (by rfl) (.tmp 26) (.tmp 29) 30 42 (.agg #[(.int .i64 0), (.int .i64 0), (.int .i64 0)]) 24 rfl Tryd.underlying30 info42 rfl (by decide) (by omega) (.slice none 0 0) ([] : List (S42)) y258 _ _ _ (fun k_ => some k_ ≠ (v266 : Value).ownBlock) (fun _ => False) rfl rfl ?aO ?aR (fun _ _ h => h) (fun _ h => h.elim) ?aF ?aB ?aS ?aL ?_
          (case aR => repeat (first | exact (cB HR261.out HB.out) | (with_reducible refine cA ?_ _) | (with_reducible refine cN ?_ _) | (with_reducible refine cD ?_)))
          (case aB => exact (by repeat first | exact HB.out | apply bA | apply bN | apply bD))
          (case aF => exact (fun k_ hk => Kd.fresh' (rT (by (with_reducible repeat first | apply rA | apply rN | apply rD); exact HO267.out)) k_ hk))
          (case aO => exact ((Kd.R_nil _ _ _ _ (fun k_ => some k_ ≠ (v266 : Value).ownBlock))))
          (case aS => exact (bZ (by repeat first | exact HB.out | apply bA | apply bN | apply bD)))
          (case aL => have := LMc8.out; omega)
          intro v263 w162 ho hb hg hat
          rw [← Ny262.out] at ho
          have n0_ := m0 (Kd.R_after (Kd.R_apart_nil (by (with_reducible repeat first | apply rA | apply rN | apply rD); exact HO267.out)) hg hat)
          have n1_ := m0 (hb)
          have n2_ := m0 (ho)
          clear HO267
          clear HB
          have HO267 := n0_
          have HB := n1_
          have HO264 := n2_
          clear n0_ n1_ n2_
          clear ho hb hg hat
          refine hK.out _ _ trivial (fun hHeld => ?_)
          clear hK K
          refine norm_ (a' := ?_) ?_ ?_
          rotate_left
          ·
           show Act.put _ (some 30) _ = _
           simp only [Act.put, sT, s0, sS, i64_w, i32_w]
           rfl
          exact norm_ (by simp only [putAll, Act.put, sT, s0, sS]) (hCont (v263, v266) _ ⟨(by (with_reducible repeat first | apply rA | apply rN | apply rD); exact HO264.out), (by (with_reducible repeat first | apply rA | apply rN | apply rD); exact Kd.R_mono HO267.out (fun _ hk => hk.2)), (by repeat first | exact HB.out | apply bA | apply bN | apply bD)⟩)
        rintro ⟨v263, v266⟩ w163 ⟨h0_, h1_, h2_⟩
        have n0_ : Aside0 (Kd.R k42 42 w163 w.heap.size (fun k_ => some k_ ≠ (v266 : Value).ownBlock) v263 y262) := ⟨h0_⟩
        have n1_ : Aside0 (Kd.R k42 42 w163 w.heap.size (fun k_ => some k_ ≠ (v263 : Value).ownBlock) v266 y265) := ⟨h1_⟩
        have n2_ : Aside0 (Below w.heap.size w w163) := ⟨h2_⟩
        clear HB
        clear h0_ h1_ h2_
        have HO264 := n0_
        have HO267 := n1_
        have HB := n2_
        clear n0_ n1_ n2_
        have hHeld := trivial
        obtain ⟨Ao165, co165, eo165⟩ := Kd.R_slice HO267.out
        (first | subst eo165 | (injection eo165 with f1_ f2_ f3_; have f4_ := f1_.symm; have f5_ := f3_.symm; clear f1_ f2_ f3_; subst f4_; subst f5_))
        refine norm_ (a' := ?_) ?_ ?_
        rotate_left
        ·
         simp only [putAll, Act.put, sT, s0, sS]
         rfl
        refine one_ (i := 7) (N := some 33) #[true, true, true, true, true, true, true, true, true, true, true, false, false] rfl rfl (one_of HT_.out (by kernel_rfl)) (by decide) (fun K hK => ?_)
        refine Kd.R_append_rows_step k42 (w0 := w) w.heap.size (by rfl) (.tmp 30) (.tmp 32) 30 42 (.agg #[(.int .i64 0), (.int .i64 0), (.int .i64 0)]) 24 rfl Tryd.underlying30 info42 rfl (by decide) (by omega) v263 y262 y265 _ _ _ (fun k_ => some k_ ≠ (.slice Ao165 y265.length co165 : Value).ownBlock) (fun _ => False) rfl rfl ?aO ?aR (fun _ _ h => h) (fun _ h => h.elim) ?aF ?aB ?aS ?aL ?_
        (case aR => repeat (first | exact (rR HO267.out).2.2 | (with_reducible refine cA ?_ _) | (with_reducible refine cN ?_ _) | (with_reducible refine cD ?_)))
        (case aB => exact (by repeat first | exact HB.out | apply bA | apply bN | apply bD))
        (case aF => exact (fun k_ hk => Kd.fresh' (rT (by (with_reducible repeat first | apply rA | apply rN | apply rD); exact HO267.out)) k_ hk))
        (case aO => exact (by (with_reducible repeat first | apply rA | apply rN | apply rD); exact HO264.out))
        (case aS => exact (bZ (by repeat first | exact HB.out | apply bA | apply bN | apply bD)))
        (case aL => have := LMc9.out; omega)
        intro v269 w164 ho hb hg hat
        rw [← Ny268.out] at ho
        have n0_ := m0 (Kd.R_after (ok := (fun _ => True)) (by (with_reducible repeat first | apply rA | apply rN | apply rD); exact Kd.R_mono HO267.out (fun _ hk => ⟨trivial, hk⟩)) hg hat)
        have n1_ := m0 (hb)
        have n2_ := m0 (ho)
        clear HO267
        clear HB
        clear HO264
        have HO267 := n0_
        have HB := n1_
        have HO270 := n2_
        clear n0_ n1_ n2_
        clear ho hb hg hat
        refine hK.out _ _ trivial (fun hHeld => ?_)
        clear hK K
        refine norm_ (a' := ?_) ?_ ?_
        rotate_left
        ·
         show Act.put _ (some 33) _ = _
         simp only [Act.put, sT, s0, sS, i64_w, i32_w]
         rfl
        refine one_ (i := 11) (N := some 37) #[true, true, true, true, true, true, true, true, true, true, true, true, false] rfl rfl (one_of HT_.out (by kernel_rfl)) (by decide) (fun K hK => ?_)
        refine Kd.R_append_rows_step k42 (w0 := w) w.heap.size (by rfl) (.tmp 33) (.tmp 36) 30 42 (.agg #[(.int .i64 0), (.int .i64 0), (.int .i64 0)]) 24 rfl Tryd.underlying30 info42 rfl (by decide) (by omega) v269 y268 y271 _ _ _ (fun k_ => some k_ ≠ (.slice Ao165 y265.length co165 : Value).ownBlock) (fun _ => False) rfl rfl ?aO ?aR (fun _ _ h => h) (fun _ h => h.elim) ?aF ?aB ?aS ?aL ?_
        (case aR => repeat (first | exact (cB HR274.out HB.out) | (with_reducible refine cA ?_ _) | (with_reducible refine cN ?_ _) | (with_reducible refine cD ?_)))
        (case aB => exact (by repeat first | exact HB.out | apply bA | apply bN | apply bD))
        (case aF => exact (fun k_ hk => Kd.fresh' (rT (by (with_reducible repeat first | apply rA | apply rN | apply rD); exact HO267.out)) k_ hk))
        (case aO => exact (by (with_reducible repeat first | apply rA | apply rN | apply rD); exact HO270.out))
        (case aS => exact (bZ (by repeat first | exact HB.out | apply bA | apply bN | apply bD)))
        (case aL => have := LMc12.out; omega)
        intro v276 w166 ho hb hg hat
        rw [← Ny275.out] at ho
        have n0_ := m0 (Kd.R_after (ok := (fun _ => True)) (by (with_reducible repeat first | apply rA | apply rN | apply rD); exact HO267.out) hg hat)
        have n1_ := m0 (hb)
        have n2_ := m0 (ho)
        clear HO267
        clear HB
        clear HO270
        have HO267 := n0_
        have HB := n1_
        have HO277 := n2_
        clear n0_ n1_ n2_
        clear ho hb hg hat
        refine hK.out _ _ trivial (fun hHeld => ?_)
        clear hK K
        refine norm_ (a' := ?_) ?_ ?_
        rotate_left
        ·
         show Act.put _ (some 37) _ = _
         simp only [Act.put, sT, s0, sS, i64_w, i32_w]
         rfl
        refine pure_ (i := 12) (N := some 6) (v := ?_) (a' := ?_) #[true, true, true, true, true, true, true, true, true, true, true, true, true] rfl rfl (any_of HT_.out (by kernel_rfl)) (fun _ _ _ h => h) (Or.inl ⟨by rfl, ?_⟩) ?_ ?_
        rotate_left
        ·
         intro w'
         go_simp
         with_reducible rfl
        rotate_left
        ·
         simp only [Act.put, sT, s0, sS, i64_w, i32_w]
         rfl
        refine done_ (done_of HT_.out (by kernel_rfl)) ?_
        try go_wp2_with (first | ((with_reducible refine gate_callee (f := 15) rfl ?_); refine goesL_ (some 40) rfl rfl Tryd.func15 (by kernel_rfl) rfl #[.slice A0 y254.length c0] rfl (by (try simp only [List.map_toArray, List.map_cons, List.map_nil]); first | done | rfl | (simp only [List.length_drop, List.length_take]; rfl)) ?_; (with_reducible refine (margin_Tops.calls _ _ y254 t278 t279 _ ?side1 ?side2 A13.out (GOK.below HG.out (by repeat first | exact HB.out | apply bA | apply bN | apply bD))).mono ?_); (case side1 => repeat (first | exact (cB HR257.out HB.out) | (with_reducible refine cA ?_ _) | (with_reducible refine cN ?_ _) | (with_reducible refine cD ?_))); (case side2 => exact HC257.out); rintro e w167 ⟨v280, rfl, ho0, hb⟩; refine ⟨_, rfl, ?_⟩; have n0_ := m0 (rB (by (with_reducible repeat first | apply rA | apply rN | apply rD); exact HO267.out) hb); have n1_ := m0 (rB (by (with_reducible repeat first | apply rA | apply rN | apply rD); exact HO277.out) hb); have n2_ := m0 (rL ho0 (bZ (by repeat first | exact HB.out | apply bA | apply bN | apply bD))); have n3_ := m0 (below_step (by repeat first | exact HB.out | apply bA | apply bN | apply bD) hb); clear HO267; clear HO277; clear HB; have HO267 := n0_; have HO277 := n1_; have HO281 := n2_; have HB := n3_; clear n0_ n1_ n2_ n3_; (try clear hb); (try clear hb2); (try clear hk); (try clear hi); (try clear ho0); obtain ⟨Ao168, co168, eo168⟩ := Kd.R_slice HO277.out; subst eo168) | ((with_reducible refine gate_callee (f := 15) rfl ?_); refine goesL_ (some 45) rfl rfl Tryd.func15 (by kernel_rfl) rfl #[.slice Ao168 y275.length co168] rfl (by (try simp only [List.map_toArray, List.map_cons, List.map_nil]); first | done | rfl | (simp only [List.length_drop, List.length_take]; rfl)) ?_; (with_reducible refine (margin_Tops.calls _ _ y275 t282 t283 _ ?side1 ?side2 A14.out (GOK.below HG.out (by repeat first | exact HB.out | apply bA | apply bN | apply bD))).mono ?_); (case side1 => repeat (first | exact (rR HO277.out).2.2 | (with_reducible refine cA ?_ _) | (with_reducible refine cN ?_ _) | (with_reducible refine cD ?_))); (case side2 => exact (rR HO277.out).2.1); rintro e w169 ⟨v284, rfl, ho0, hb⟩; refine ⟨_, rfl, ?_⟩; have n0_ := m0 (rB (by (with_reducible repeat first | apply rA | apply rN | apply rD); exact HO267.out) hb); have n1_ := m0 (rB (by (with_reducible repeat first | apply rA | apply rN | apply rD); exact HO277.out) hb); have n2_ := m0 (Kd.R_elder' (by (with_reducible repeat first | apply rA | apply rN | apply rD); exact HO281.out) (Kd.R_base ho0) hb); have n3_ := m0 (rL (Kd.R_new' ho0 (rT (by (with_reducible repeat first | apply rA | apply rN | apply rD); exact HO281.out))) (bZ (by repeat first | exact HB.out | apply bA | apply bN | apply bD))); have n4_ := m0 (below_step (by repeat first | exact HB.out | apply bA | apply bN | apply bD) hb); clear HO267; clear HO277; clear HO281; clear HB; have HO267 := n0_; have HO277 := n1_; have HO281 := n2_; have HO285 := n3_; have HB := n4_; clear n0_ n1_ n2_ n3_ n4_; (try clear hb); (try clear hb2); (try clear hk); (try clear hi); (try clear ho0)) | ((with_reducible refine gate_callee (f := 17) rfl ?_); refine goesL_ (some 50) rfl rfl Tryd.func17 (by kernel_rfl) rfl #[.slice A0 y254.length c0] rfl (by (try simp only [List.map_toArray, List.map_cons, List.map_nil]); first | done | rfl | (simp only [List.length_drop, List.length_take]; rfl)) ?_; (with_reducible refine (margin_End.calls _ _ y254 t286 t287 t288 _ ?side1 ?side2 A15.out (GOK.below HG.out (by repeat first | exact HB.out | apply bA | apply bN | apply bD))).mono ?_); (case side1 => repeat (first | exact (cB HR257.out HB.out) | (with_reducible refine cA ?_ _) | (with_reducible refine cN ?_ _) | (with_reducible refine cD ?_))); (case side2 => exact HC257.out); rintro e w170 ⟨rfl, hb⟩; refine ⟨_, rfl, ?_⟩; have n0_ := m0 (rB (by (with_reducible repeat first | apply rA | apply rN | apply rD); exact HO267.out) hb); have n1_ := m0 (rB (by (with_reducible repeat first | apply rA | apply rN | apply rD); exact HO277.out) hb); have n2_ := m0 (rB (by (with_reducible repeat first | apply rA | apply rN | apply rD); exact HO281.out) hb); have n3_ := m0 (rB (by (with_reducible repeat first | apply rA | apply rN | apply rD); exact HO285.out) hb); have n4_ := m0 (below_step (by repeat first | exact HB.out | apply bA | apply bN | apply bD) hb); clear HO267; clear HO277; clear HO281; clear HO285; clear HB; have HO267 := n0_; have HO277 := n1_; have HO281 := n2_; have HO285 := n3_; have HB := n4_; clear n0_ n1_ n2_ n3_ n4_; (try clear hb); (try clear hb2); (try clear hk); (try clear hi)) | ((with_reducible refine gate_callee (f := 17) rfl ?_); refine goesL_ (some 56) rfl rfl Tryd.func17 (by kernel_rfl) rfl #[.slice Ao168 y275.length co168] rfl (by (try simp only [List.map_toArray, List.map_cons, List.map_nil]); first | done | rfl | (simp only [List.length_drop, List.length_take]; rfl)) ?_; (with_reducible refine (margin_End.calls _ _ y275 t289 t290 t291 _ ?side1 ?side2 A16.out (GOK.below HG.out (by repeat first | exact HB.out | apply bA | apply bN | apply bD))).mono ?_); (case side1 => repeat (first | exact (rR HO277.out).2.2 | (with_reducible refine cA ?_ _) | (with_reducible refine cN ?_ _) | (with_reducible refine cD ?_))); (case side2 => exact (rR HO277.out).2.1); rintro e w171 ⟨rfl, hb⟩; refine ⟨_, rfl, ?_⟩; have n0_ := m0 (rB (by (with_reducible repeat first | apply rA | apply rN | apply rD); exact HO267.out) hb); have n1_ := m0 (rB (by (with_reducible repeat first | apply rA | apply rN | apply rD); exact HO277.out) hb); have n2_ := m0 (rB (by (with_reducible repeat first | apply rA | apply rN | apply rD); exact HO281.out) hb); have n3_ := m0 (rB (by (with_reducible repeat first | apply rA | apply rN | apply rD); exact HO285.out) hb); have n4_ := m0 (below_step (by repeat first | exact HB.out | apply bA | apply bN | apply bD) hb); clear HO267; clear HO277; clear HO281; clear HO285; clear HB; have HO267 := n0_; have HO277 := n1_; have HO281 := n2_; have HO285 := n3_; have HB := n4_; clear n0_ n1_ n2_ n3_ n4_; (try clear hb); (try clear hb2); (try clear hk); (try clear hi)))
        go_ret
        exact ⟨by first | rfl | (simp [errW_none, errW_some] <;> rfl) | (simp only [← hji4, ← hji5]; first | rfl | (simp [errW_none, errW_some] <;> rfl)) | (simp [*, errW_none, errW_some] <;> rfl), by repeat first | exact HB.out | apply bA | apply bN | apply bD⟩
     ·
      rw [if_neg c12] at H
      exact absurd H (by simp)
    ·
     rw [if_neg c9] at H
     exact absurd H (by simp)
   ·
    rw [if_neg c8] at H
    exact absurd H (by simp)
  ·
   rw [if_neg c7] at H
   exact absurd H (by simp)
 ·
  rw [if_neg c6] at H
  exact absurd H (by simp)

end Go.Proofs.YtiodlbfdfnideaaDoor.G
