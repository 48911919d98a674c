/- Functions of the law and of what it calls as plain Lean functions, and that the calls come to their answers: written by fprint.py. -/
import Derived.Test.YtkmddhljfjjglaaDoorF17
import Derived.Test.YtkmddhljfjjglaaDoorG0
import Derived.Test.YtkmddhljfjjglaaDoorG22
namespace Go.Proofs.YtkmddhljfjjglaaDoor.G
open Go.RowKit Go.Proofs.YtkmddhljfjjglaaDoorW.PrintWords Go.Proofs.YtkmddhljfjjglaaDoorW.PrintLast Go.Proofs.YtkmddhljfjjglaaDoorW.PrintMore
attribute [local go_sem] max2_int min2_int max_two min_two max_three min_three max_four min_four   -- for this text's walks alone
set_option linter.unusedVariables false
set_option linter.unusedSimpArgs false

/-! ### gutterref18_Print: function 26 -/
theorem sz32 : (⟨#[32]⟩ : ByteArray).size = 1 := rfl
theorem sz110 : (⟨#[110, 111, 100, 101, 32]⟩ : ByteArray).size = 5 := rfl
mutual
def gutterref18_Print.l0 : Nat → List (S39) → ByteArray → Int → Option (ByteArray)
 | 0, _, _, _ => none
 | k + 1, x0, x3, x4 => if x4 < (x0.length : Int) then (if 0 ≤ x4 then (if (rd_T39 x0 x4).f0 = true then (if x3.size + 4 ≤ 9223372036854775807 then (gutterref18_Print.j1 k x0 (x3 ++ (⟨#[114, 117, 108, 101]⟩ : ByteArray)) x4) else (none)) else (if x3.size + 5 ≤ 9223372036854775807 then ((gutterref18_number.f k ((rd_T39 x0 x4).f1)).bind fun t182 => (if (x3 ++ (⟨#[110, 111, 100, 101, 32]⟩ : ByteArray)).size + t182.size ≤ 9223372036854775807 then (gutterref18_Print.j1 k x0 ((x3 ++ (⟨#[110, 111, 100, 101, 32]⟩ : ByteArray)) ++ t182) x4) else (none))) else (none))) else (none)) else (some x3)
def gutterref18_Print.j1 : Nat → List (S39) → ByteArray → Int → Option (ByteArray)
 | 0, _, _, _ => none
 | k + 1, x0, x3, x4 => if 0 ≤ x4 then (if x4 < (x0.length : Int) then (if x3.size + 1 ≤ 9223372036854775807 then ((gutterref18_number.f k ((rd_T39 x0 x4).f2.f0)).bind fun t185 => (if (x3 ++ (⟨#[32]⟩ : ByteArray)).size + t185.size ≤ 9223372036854775807 then (if ((x3 ++ (⟨#[32]⟩ : ByteArray)) ++ t185).size + 1 ≤ 9223372036854775807 then ((gutterref18_number.f k ((rd_T39 x0 x4).f2.f1)).bind fun t186 => (if (((x3 ++ (⟨#[32]⟩ : ByteArray)) ++ t185) ++ (⟨#[32]⟩ : ByteArray)).size + t186.size ≤ 9223372036854775807 then (if ((((x3 ++ (⟨#[32]⟩ : ByteArray)) ++ t185) ++ (⟨#[32]⟩ : ByteArray)) ++ t186).size + 1 ≤ 9223372036854775807 then ((gutterref18_number.f k ((rd_T39 x0 x4).f2.f2)).bind fun t187 => (if (((((x3 ++ (⟨#[32]⟩ : ByteArray)) ++ t185) ++ (⟨#[32]⟩ : ByteArray)) ++ t186) ++ (⟨#[32]⟩ : ByteArray)).size + t187.size ≤ 9223372036854775807 then (if ((((((x3 ++ (⟨#[32]⟩ : ByteArray)) ++ t185) ++ (⟨#[32]⟩ : ByteArray)) ++ t186) ++ (⟨#[32]⟩ : ByteArray)) ++ t187).size + 1 ≤ 9223372036854775807 then ((gutterref18_number.f k ((rd_T39 x0 x4).f2.f3)).bind fun t188 => (if (((((((x3 ++ (⟨#[32]⟩ : ByteArray)) ++ t185) ++ (⟨#[32]⟩ : ByteArray)) ++ t186) ++ (⟨#[32]⟩ : ByteArray)) ++ t187) ++ (⟨#[32]⟩ : ByteArray)).size + t188.size ≤ 9223372036854775807 then (if ((((((((x3 ++ (⟨#[32]⟩ : ByteArray)) ++ t185) ++ (⟨#[32]⟩ : ByteArray)) ++ t186) ++ (⟨#[32]⟩ : ByteArray)) ++ t187) ++ (⟨#[32]⟩ : ByteArray)) ++ t188).size + 1 ≤ 9223372036854775807 then (gutterref18_Print.l0 k x0 (((((((((x3 ++ (⟨#[32]⟩ : ByteArray)) ++ t185) ++ (⟨#[32]⟩ : ByteArray)) ++ t186) ++ (⟨#[32]⟩ : ByteArray)) ++ t187) ++ (⟨#[32]⟩ : ByteArray)) ++ t188) ++ (⟨#[10]⟩ : ByteArray)) (wrap64 (x4 + 1))) else (none)) else (none))) else (none)) else (none))) else (none)) else (none))) else (none)) else (none))) else (none)) else (none)) else (none)
end
def gutterref18_Print.f (k : Nat) (l0 : List (S39)) : Option (ByteArray) := gutterref18_Print.l0 k l0 (⟨#[]⟩ : ByteArray) 0
theorem gutterref18_Print.mono_l : ∀ k, (∀ y0 y1 y2, LeO (gutterref18_Print.l0 k y0 y1 y2) (gutterref18_Print.l0 (k + 1) y0 y1 y2)) ∧ (∀ y0 y1 y2, LeO (gutterref18_Print.j1 k y0 y1 y2) (gutterref18_Print.j1 (k + 1) y0 y1 y2))
 | 0 => ⟨fun _ _ _ r h => by simp [gutterref18_Print.l0] at h, fun _ _ _ r h => by simp [gutterref18_Print.j1] at h⟩
 | k + 1 => by
  obtain ⟨ih0, ih1⟩ := gutterref18_Print.mono_l k
  refine ⟨?_, ?_⟩
  ·
   intro y0 y1 y2
   unfold gutterref18_Print.l0
   repeat' first
   | (with_reducible exact ih0 _ _ _)
   | (with_reducible exact ih1 _ _ _)
   | (with_reducible exact gutterref18_number.mono _ _)
   | (with_reducible exact LeO.refl _)
   | (with_reducible exact LeO.none _)
   | (with_reducible refine LeO.ite ?_ ?_)
   | (with_reducible refine LeO.bind ?_ (fun _ => ?_))
   | exact ih0 _ _ _
   | exact ih1 _ _ _
   | exact gutterref18_number.mono _ _
   | exact LeO.none _
   | refine LeO.ite ?_ ?_
   | refine LeO.bind ?_ (fun _ => ?_)
  ·
   intro y0 y1 y2
   unfold gutterref18_Print.j1
   repeat' first
   | (with_reducible exact ih0 _ _ _)
   | (with_reducible exact ih1 _ _ _)
   | (with_reducible exact gutterref18_number.mono _ _)
   | (with_reducible exact LeO.refl _)
   | (with_reducible exact LeO.none _)
   | (with_reducible refine LeO.ite ?_ ?_)
   | (with_reducible refine LeO.bind ?_ (fun _ => ?_))
   | exact ih0 _ _ _
   | exact ih1 _ _ _
   | exact gutterref18_number.mono _ _
   | exact LeO.none _
   | refine LeO.ite ?_ ?_
   | refine LeO.bind ?_ (fun _ => ?_)
theorem gutterref18_Print.mono : ∀ a0 k, LeO (gutterref18_Print.f k a0) (gutterref18_Print.f (k + 1) a0) := by
 intro a0 k
 obtain ⟨ih0, ih1⟩ := gutterref18_Print.mono_l k
 unfold gutterref18_Print.f
 repeat' first
   | (with_reducible exact ih0 _ _ _)
   | (with_reducible exact ih1 _ _ _)
   | (with_reducible exact gutterref18_number.mono _ _)
   | (with_reducible exact LeO.refl _)
   | (with_reducible exact LeO.none _)
   | (with_reducible refine LeO.ite ?_ ?_)
   | (with_reducible refine LeO.bind ?_ (fun _ => ?_))
   | exact ih0 _ _ _
   | exact ih1 _ _ _
   | exact gutterref18_number.mono _ _
   | exact LeO.none _
   | refine LeO.ite ?_ ?_
   | refine LeO.bind ?_ (fun _ => ?_)
def gutterref18_Print.T9 : Bool × List (List Nat × List Nat) := (true, [([], []), ([0], [0]), ([], []), ([2], [2]), ([3], [3]), ([1, 4], [1, 4]), ([5], [5]), ([], []), ([7], [7]), ([8, 4], [8]), ([6, 9], [6, 9]), ([10], [10]), ([], []), ([12], [12]), ([13, 9], [13]), ([11, 14], [11, 14]), ([15], [15]), ([], []), ([17], [17]), ([18, 14], [18]), ([16, 19], [16, 19]), ([20], [20]), ([21, 19, 0, 1, 2, 3, 4, 5, 6, 7, 8, 9, 10, 11, 12, 13, 14, 15, 16, 17, 18, 19, 20, 21], [0, 21])])
def gutterref18_Print.B9 : List Nat := [0, 1, 0, 4, 12, 31, 63, 0, 128, 412, 1023, 2047, 0, 4096, 13212, 32767, 65535, 0, 131072, 422812, 1048575, 2097151, 4194303]
theorem gutterref18_Print.tab9 : rtab .any (opsOf Tryd.f26 9) = gutterref18_Print.T9 := by kernel_rfl
theorem gutterref18_Print.bits9 : waitsOk gutterref18_Print.T9.2 gutterref18_Print.B9 = true := by kernel_rfl
set_option maxHeartbeats 8000000 in
set_option maxRecDepth 100000 in
theorem gutterref18_Print.calls (k : Nat) (A0 : Option Addr) (c0 : Nat) (l0 : List (S39)) (r : ByteArray) (w : World) (hr0 : Kd.C k39 w A0 l0.length l0) (hc0 : l0.length ≤ c0) (h : gutterref18_Print.f k l0 = some r) :
  Calls Tryd.prog 26 #[.slice A0 l0.length c0] w fun e w' => e = .returned (.string r) ∧ Below w.heap.size w w' := by
 have hu30 := Tryd.underlying30
 have HR0 := Aside0.mk hr0
 have HC0 := Aside0.mk hc0
 clear hr0 hc0
 have HB := Aside0.mk (Below.refl w.heap.size w)
 have H : (gutterref18_Print.l0 k l0 (⟨#[]⟩ : ByteArray) 0) = some r := h
 clear h
 have H' := Aside0.mk H
 clear H
 go_enter Tryd.func26, Tryd.ntmps26
 go_wp2
 go_loopg [3, 4] k (fun kq v3 v4 w' => ∃ (x3_1 : ByteArray) (x4_1 : Int), v3 = .string x3_1 ∧ v4 = .int .i64 x4_1 ∧ Aside0 (gutterref18_Print.l0 kq l0 x3_1 x4_1 = some r) ∧ Aside0 (kq ≤ k) ∧ Aside0 (Below w.heap.size w w'))
 case atStart => exact ⟨((⟨#[]⟩ : ByteArray)), (0), (by first | rfl | (simp; done) | (simp [*]; done)), (by first | rfl | (simp; done) | (simp [*]; done)), H', ⟨Nat.le_refl _⟩, ⟨by repeat (first | (with_reducible first | exact HB.out | apply below_alloc | apply pw_below_drewN | apply below_drew1) | exact HB.out)⟩⟩
 case round =>
  clear H'
  obtain ⟨x3_1, x4_1, rfl, rfl, HA, HK1, HB⟩ := hrel
  cases gk with
  | zero => exact absurd HA.out (by simp [gutterref18_Print.l0])
  | succ k1 =>
   have H := HA.out
   clear HA
   simp only [gutterref18_Print.l0] at H
   by_cases c2 : x4_1 < (l0.length : Int)
   ·
    rw [if_pos c2] at H
    have c2b0 : decide (x4_1 < (l0.length : Int)) = true := decide_eq_true c2
    clear c2
    by_cases c3 : 0 ≤ x4_1
    ·
     rw [if_pos c3] at H
     have c3b0 : decide (0 ≤ x4_1) = true := decide_eq_true c3
     clear c3
     have HC4 := Aside0.mk H
     clear H
     have p180 : 0 ≤ (x4_1 : Int) := of_decide_eq_true (by first | (with_reducible assumption) | assumption)
     have q180 : x4_1 < (l0.length : Int) := of_decide_eq_true (by first | (with_reducible assumption) | assumption)
     obtain ⟨ad180, e180, hx180_0, hx180_1, hx180_2, hx180_3, hx180_4, hx180_5⟩ := at_T39 HR0.out x4_1 p180 q180
     cases e180
     replace hx180_0 := (HB.out.cell (World.block_lt_of_cell? w _ hx180_0)).trans hx180_0
     replace hx180_1 := (HB.out.cell (World.block_lt_of_cell? w _ hx180_1)).trans hx180_1
     replace hx180_2 := (HB.out.cell (World.block_lt_of_cell? w _ hx180_2)).trans hx180_2
     replace hx180_3 := (HB.out.cell (World.block_lt_of_cell? w _ hx180_3)).trans hx180_3
     replace hx180_4 := (HB.out.cell (World.block_lt_of_cell? w _ hx180_4)).trans hx180_4
     replace hx180_5 := (HB.out.cell (World.block_lt_of_cell? w _ hx180_5)).trans hx180_5
     replace p180 := eq_true p180
     replace q180 := eq_true q180
     go_upto_if 16 with (fail)
     go_cut [3] (fun v3 wc => ∃ (kq : Nat) (x3_3 : ByteArray), v3 = .string x3_3 ∧ Aside0 (gutterref18_Print.j1 kq l0 x3_3 x4_1 = some r) ∧ Aside0 (kq ≤ k1) ∧ Aside0 (Below w.heap.size w wc))
     case first =>
      have H := HC4.out
      clear HC4
      obtain ⟨bq5, hbq5⟩ : ∃ b_ : Bool, b_ = ((rd_T39 l0 x4_1).f0) := ⟨_, rfl⟩
      replace H : (if bq5 = true then (if x3_1.size + 4 ≤ 9223372036854775807 then (gutterref18_Print.j1 k1 l0 (x3_1 ++ (⟨#[114, 117, 108, 101]⟩ : ByteArray)) x4_1) else (none)) else (if x3_1.size + 5 ≤ 9223372036854775807 then ((gutterref18_number.f k1 ((rd_T39 l0 x4_1).f1)).bind fun t182 => (if (x3_1 ++ (⟨#[110, 111, 100, 101, 32]⟩ : ByteArray)).size + t182.size ≤ 9223372036854775807 then (gutterref18_Print.j1 k1 l0 ((x3_1 ++ (⟨#[110, 111, 100, 101, 32]⟩ : ByteArray)) ++ t182) x4_1) else (none))) else (none))) = some r := by rw [← hbq5] at H; exact H
      have Nbq5 := Aside0.mk hbq5
      clear hbq5
      (try rw [← Nbq5.out])
      by_cases c6 : bq5 = true
      ·
       subst c6
       have H1 : (if x3_1.size + 4 ≤ 9223372036854775807 then (gutterref18_Print.j1 k1 l0 (x3_1 ++ (⟨#[114, 117, 108, 101]⟩ : ByteArray)) x4_1) else (none)) = some r := by rw [if_pos rfl] at H; exact H
       clear H
       have H := H1
       clear H1
       by_cases c7 : x3_1.size + 4 ≤ 9223372036854775807
       ·
        rw [if_pos c7] at H
        have c7b0 := eq_true c7
        have c7b1 : decide (x3_1.size + 4 ≤ 9223372036854775807) = true := decide_eq_true c7
        try have c7b2 : (9223372036854775807 < x3_1.size + 4) = False := eq_false (Nat.not_lt.2 c7)
        have H' := Aside0.mk H
        clear H
        go_wp2
        go_meet
        case rel => exact ⟨_, (x3_1 ++ (⟨#[114, 117, 108, 101]⟩ : ByteArray)), (by first | rfl | (simp; done) | (simp [*]; done)), H', ⟨by have := HK1.out; first | omega | exact Nat.le_refl _⟩, ⟨by repeat (first | (with_reducible first | exact HB.out | apply below_alloc | apply pw_below_drewN | apply below_drew1) | exact HB.out)⟩⟩
       ·
        rw [if_neg c7] at H
        exact absurd H (by simp)
      ·
       replace c6 := Bool.eq_false_iff.mpr c6
       subst c6
       have H1 : (if x3_1.size + 5 ≤ 9223372036854775807 then ((gutterref18_number.f k1 ((rd_T39 l0 x4_1).f1)).bind fun t182 => (if (x3_1 ++ (⟨#[110, 111, 100, 101, 32]⟩ : ByteArray)).size + t182.size ≤ 9223372036854775807 then (gutterref18_Print.j1 k1 l0 ((x3_1 ++ (⟨#[110, 111, 100, 101, 32]⟩ : ByteArray)) ++ t182) x4_1) else (none))) else (none)) = some r := by rw [if_neg (show ¬ (false = true) by decide)] at H; exact H
       clear H
       have H := H1
       clear H1
       by_cases c8 : x3_1.size + 5 ≤ 9223372036854775807
       ·
        rw [if_pos c8] at H
        have c8b0 := eq_true c8
        have c8b1 : decide (x3_1.size + 5 ≤ 9223372036854775807) = true := decide_eq_true c8
        try have c8b2 : (9223372036854775807 < x3_1.size + 5) = False := eq_false (Nat.not_lt.2 c8)
        replace H := Option.bind_eq_some_iff.mp H
        obtain ⟨t182, A90, H⟩ := H
        replace H : (if (x3_1 ++ (⟨#[110, 111, 100, 101, 32]⟩ : ByteArray)).size + t182.size ≤ 9223372036854775807 then (gutterref18_Print.j1 k1 l0 ((x3_1 ++ (⟨#[110, 111, 100, 101, 32]⟩ : ByteArray)) ++ t182) x4_1) else (none)) = some r := H
        have A9 := Aside0.mk A90
        clear A90
        by_cases c10 : (x3_1 ++ (⟨#[110, 111, 100, 101, 32]⟩ : ByteArray)).size + t182.size ≤ 9223372036854775807
        ·
         rw [if_pos c10] at H
         have c10b0 := eq_true c10
         have c10b1 : decide ((x3_1 ++ (⟨#[110, 111, 100, 101, 32]⟩ : ByteArray)).size + t182.size ≤ 9223372036854775807) = true := decide_eq_true c10
         try have c10b2 : (9223372036854775807 < (x3_1 ++ (⟨#[110, 111, 100, 101, 32]⟩ : ByteArray)).size + t182.size) = False := eq_false (Nat.not_lt.2 c10)
         have c10b3 : (9223372036854775807 < x3_1.size + 5 + t182.size) = False := eq_false (Nat.not_lt.2 (by simpa [ByteArray.size_append, sz32, sz110] using c10))
         have c10b4 : ¬ (9223372036854775807 < x3_1.size + 5 + t182.size) := by rw [c10b3]; exact not_false
         have H' := Aside0.mk H
         clear H
         have p181 : 0 ≤ (x4_1 : Int) := of_decide_eq_true (by first | (with_reducible assumption) | assumption)
         have q181 : x4_1 < (l0.length : Int) := of_decide_eq_true (by first | (with_reducible assumption) | assumption)
         obtain ⟨ad181, e181, hx181_0, hx181_1, hx181_2, hx181_3, hx181_4, hx181_5⟩ := at_T39 HR0.out x4_1 p181 q181
         (try rw [← Nbq5.out] at hx181_0)
         obtain rfl : ad180 = ad181 := (by injection e181)
         replace hx181_0 := (HB.out.cell (World.block_lt_of_cell? w _ hx181_0)).trans hx181_0
         replace hx181_1 := (HB.out.cell (World.block_lt_of_cell? w _ hx181_1)).trans hx181_1
         replace hx181_2 := (HB.out.cell (World.block_lt_of_cell? w _ hx181_2)).trans hx181_2
         replace hx181_3 := (HB.out.cell (World.block_lt_of_cell? w _ hx181_3)).trans hx181_3
         replace hx181_4 := (HB.out.cell (World.block_lt_of_cell? w _ hx181_4)).trans hx181_4
         replace hx181_5 := (HB.out.cell (World.block_lt_of_cell? w _ hx181_5)).trans hx181_5
         replace p181 := eq_true p181
         replace q181 := eq_true q181
         go_wp2_with (first | ((with_reducible refine gate_callee (f := 51) rfl ?_); refine goesL_ (some 26) rfl rfl Tryd.func51 (by kernel_rfl) rfl #[.int .i64 ((rd_T39 l0 x4_1).f1)] rfl (by (try simp only [List.map_toArray, List.map_cons, List.map_nil]); first | done | rfl | (simp only [List.length_drop, List.length_take]; rfl)) ?_; (with_reducible refine (gutterref18_number.calls k1 ((rd_T39 l0 x4_1).f1) t182 _ A9.out).mono ?_); rintro e w11 ⟨rfl, hb⟩; refine ⟨_, rfl, ?_⟩; have n0_ := Aside0.mk (below_step (by repeat (first | (with_reducible first | exact HB.out | apply below_alloc | apply pw_below_drewN | apply below_drew1) | exact HB.out)) hb); clear HB; have HB := n0_; clear n0_; (try clear hb); (try clear hb2); (try clear hk); (try clear hi)))
         go_meet
         case rel => exact ⟨_, ((x3_1 ++ (⟨#[110, 111, 100, 101, 32]⟩ : ByteArray)) ++ t182), (by first | rfl | (simp; done) | (simp [*]; done)), H', ⟨by have := HK1.out; first | omega | exact Nat.le_refl _⟩, ⟨by repeat (first | (with_reducible first | exact HB.out | apply below_alloc | apply pw_below_drewN | apply below_drew1) | exact HB.out)⟩⟩
        ·
         rw [if_neg c10] at H
         exact absurd H (by simp)
       ·
        rw [if_neg c8] at H
        exact absurd H (by simp)
     case rest =>
      clear HC4
      try clear c1
      try clear p1
      try clear q1
      try clear hx1
      try clear c2
      try clear c2b0
      try clear p2
      try clear c3
      try clear c3b0
      try clear c5
      try clear q5
      try clear c6
      try clear c7
      try clear c7b0
      try clear c7b1
      try clear c7b2
      try clear c8
      try clear c8b0
      try clear c8b1
      try clear c8b2
      try clear c10
      try clear c10b0
      try clear c10b1
      try clear c10b2
      try clear hx180_0
      try clear hx180_1
      try clear hx180_2
      try clear hx180_3
      try clear hx180_4
      try clear hx180_5
      try clear hx181_0
      try clear hx181_1
      try clear hx181_2
      try clear hx181_3
      try clear hx181_4
      try clear hx181_5
      try clear p180
      try clear p181
      try clear q180
      try clear q181
      obtain ⟨kq, x3_3, rfl, HA, HJ3, HB⟩ := hcut
      cases kq with
      | zero => exact absurd HA.out (by simp [gutterref18_Print.j1])
      | succ kj3 =>
       have H := HA.out
       clear HA
       simp only [gutterref18_Print.j1] at H
       by_cases c12 : 0 ≤ x4_1
       ·
        rw [if_pos c12] at H
        have c12b0 : decide (0 ≤ x4_1) = true := decide_eq_true c12
        clear c12
        by_cases c13 : x4_1 < (l0.length : Int)
        ·
         rw [if_pos c13] at H
         have c13b0 : decide (x4_1 < (l0.length : Int)) = true := decide_eq_true c13
         clear c13
         by_cases c14 : x3_3.size + 1 ≤ 9223372036854775807
         ·
          rw [if_pos c14] at H
          have c14b0 := eq_true c14
          have c14b1 : decide (x3_3.size + 1 ≤ 9223372036854775807) = true := decide_eq_true c14
          try have c14b2 : (9223372036854775807 < x3_3.size + 1) = False := eq_false (Nat.not_lt.2 c14)
          replace H := Option.bind_eq_some_iff.mp H
          obtain ⟨t185, A150, H⟩ := H
          replace H : (if (x3_3 ++ (⟨#[32]⟩ : ByteArray)).size + t185.size ≤ 9223372036854775807 then (if ((x3_3 ++ (⟨#[32]⟩ : ByteArray)) ++ t185).size + 1 ≤ 9223372036854775807 then ((gutterref18_number.f kj3 ((rd_T39 l0 x4_1).f2.f1)).bind fun t186 => (if (((x3_3 ++ (⟨#[32]⟩ : ByteArray)) ++ t185) ++ (⟨#[32]⟩ : ByteArray)).size + t186.size ≤ 9223372036854775807 then (if ((((x3_3 ++ (⟨#[32]⟩ : ByteArray)) ++ t185) ++ (⟨#[32]⟩ : ByteArray)) ++ t186).size + 1 ≤ 9223372036854775807 then ((gutterref18_number.f kj3 ((rd_T39 l0 x4_1).f2.f2)).bind fun t187 => (if (((((x3_3 ++ (⟨#[32]⟩ : ByteArray)) ++ t185) ++ (⟨#[32]⟩ : ByteArray)) ++ t186) ++ (⟨#[32]⟩ : ByteArray)).size + t187.size ≤ 9223372036854775807 then (if ((((((x3_3 ++ (⟨#[32]⟩ : ByteArray)) ++ t185) ++ (⟨#[32]⟩ : ByteArray)) ++ t186) ++ (⟨#[32]⟩ : ByteArray)) ++ t187).size + 1 ≤ 9223372036854775807 then ((gutterref18_number.f kj3 ((rd_T39 l0 x4_1).f2.f3)).bind fun t188 => (if (((((((x3_3 ++ (⟨#[32]⟩ : ByteArray)) ++ t185) ++ (⟨#[32]⟩ : ByteArray)) ++ t186) ++ (⟨#[32]⟩ : ByteArray)) ++ t187) ++ (⟨#[32]⟩ : ByteArray)).size + t188.size ≤ 9223372036854775807 then (if ((((((((x3_3 ++ (⟨#[32]⟩ : ByteArray)) ++ t185) ++ (⟨#[32]⟩ : ByteArray)) ++ t186) ++ (⟨#[32]⟩ : ByteArray)) ++ t187) ++ (⟨#[32]⟩ : ByteArray)) ++ t188).size + 1 ≤ 9223372036854775807 then (gutterref18_Print.l0 kj3 l0 (((((((((x3_3 ++ (⟨#[32]⟩ : ByteArray)) ++ t185) ++ (⟨#[32]⟩ : ByteArray)) ++ t186) ++ (⟨#[32]⟩ : ByteArray)) ++ t187) ++ (⟨#[32]⟩ : ByteArray)) ++ t188) ++ (⟨#[10]⟩ : ByteArray)) (wrap64 (x4_1 + 1))) else (none)) else (none))) else (none)) else (none))) else (none)) else (none))) else (none)) else (none)) = some r := H
          have A15 := Aside0.mk A150
          clear A150
          by_cases c16 : (x3_3 ++ (⟨#[32]⟩ : ByteArray)).size + t185.size ≤ 9223372036854775807
          ·
           rw [if_pos c16] at H
           have c16b0 := eq_true c16
           have c16b1 : decide ((x3_3 ++ (⟨#[32]⟩ : ByteArray)).size + t185.size ≤ 9223372036854775807) = true := decide_eq_true c16
           try have c16b2 : (9223372036854775807 < (x3_3 ++ (⟨#[32]⟩ : ByteArray)).size + t185.size) = False := eq_false (Nat.not_lt.2 c16)
           have c16b3 : (9223372036854775807 < x3_3.size + 1 + t185.size) = False := eq_false (Nat.not_lt.2 (by simpa [ByteArray.size_append, sz32, sz110] using c16))
           have c16b4 : ¬ (9223372036854775807 < x3_3.size + 1 + t185.size) := by rw [c16b3]; exact not_false
           by_cases c17 : ((x3_3 ++ (⟨#[32]⟩ : ByteArray)) ++ t185).size + 1 ≤ 9223372036854775807
           ·
            rw [if_pos c17] at H
            have c17b0 := eq_true c17
            have c17b1 : decide (((x3_3 ++ (⟨#[32]⟩ : ByteArray)) ++ t185).size + 1 ≤ 9223372036854775807) = true := decide_eq_true c17
            try have c17b2 : (9223372036854775807 < ((x3_3 ++ (⟨#[32]⟩ : ByteArray)) ++ t185).size + 1) = False := eq_false (Nat.not_lt.2 c17)
            have c17b3 : (9223372036854775807 < x3_3.size + 1 + t185.size + 1) = False := eq_false (Nat.not_lt.2 (by simpa [ByteArray.size_append, sz32, sz110] using c17))
            have c17b4 : ¬ (9223372036854775807 < x3_3.size + 1 + t185.size + 1) := by rw [c17b3]; exact not_false
            replace H := Option.bind_eq_some_iff.mp H
            obtain ⟨t186, A180, H⟩ := H
            replace H : (if (((x3_3 ++ (⟨#[32]⟩ : ByteArray)) ++ t185) ++ (⟨#[32]⟩ : ByteArray)).size + t186.size ≤ 9223372036854775807 then (if ((((x3_3 ++ (⟨#[32]⟩ : ByteArray)) ++ t185) ++ (⟨#[32]⟩ : ByteArray)) ++ t186).size + 1 ≤ 9223372036854775807 then ((gutterref18_number.f kj3 ((rd_T39 l0 x4_1).f2.f2)).bind fun t187 => (if (((((x3_3 ++ (⟨#[32]⟩ : ByteArray)) ++ t185) ++ (⟨#[32]⟩ : ByteArray)) ++ t186) ++ (⟨#[32]⟩ : ByteArray)).size + t187.size ≤ 9223372036854775807 then (if ((((((x3_3 ++ (⟨#[32]⟩ : ByteArray)) ++ t185) ++ (⟨#[32]⟩ : ByteArray)) ++ t186) ++ (⟨#[32]⟩ : ByteArray)) ++ t187).size + 1 ≤ 9223372036854775807 then ((gutterref18_number.f kj3 ((rd_T39 l0 x4_1).f2.f3)).bind fun t188 => (if (((((((x3_3 ++ (⟨#[32]⟩ : ByteArray)) ++ t185) ++ (⟨#[32]⟩ : ByteArray)) ++ t186) ++ (⟨#[32]⟩ : ByteArray)) ++ t187) ++ (⟨#[32]⟩ : ByteArray)).size + t188.size ≤ 9223372036854775807 then (if ((((((((x3_3 ++ (⟨#[32]⟩ : ByteArray)) ++ t185) ++ (⟨#[32]⟩ : ByteArray)) ++ t186) ++ (⟨#[32]⟩ : ByteArray)) ++ t187) ++ (⟨#[32]⟩ : ByteArray)) ++ t188).size + 1 ≤ 9223372036854775807 then (gutterref18_Print.l0 kj3 l0 (((((((((x3_3 ++ (⟨#[32]⟩ : ByteArray)) ++ t185) ++ (⟨#[32]⟩ : ByteArray)) ++ t186) ++ (⟨#[32]⟩ : ByteArray)) ++ t187) ++ (⟨#[32]⟩ : ByteArray)) ++ t188) ++ (⟨#[10]⟩ : ByteArray)) (wrap64 (x4_1 + 1))) else (none)) else (none))) else (none)) else (none))) else (none)) else (none)) = some r := H
            have A18 := Aside0.mk A180
            clear A180
            by_cases c19 : (((x3_3 ++ (⟨#[32]⟩ : ByteArray)) ++ t185) ++ (⟨#[32]⟩ : ByteArray)).size + t186.size ≤ 9223372036854775807
            ·
             rw [if_pos c19] at H
             have c19b0 := eq_true c19
             have c19b1 : decide ((((x3_3 ++ (⟨#[32]⟩ : ByteArray)) ++ t185) ++ (⟨#[32]⟩ : ByteArray)).size + t186.size ≤ 9223372036854775807) = true := decide_eq_true c19
             try have c19b2 : (9223372036854775807 < (((x3_3 ++ (⟨#[32]⟩ : ByteArray)) ++ t185) ++ (⟨#[32]⟩ : ByteArray)).size + t186.size) = False := eq_false (Nat.not_lt.2 c19)
             have c19b3 : (9223372036854775807 < x3_3.size + 1 + t185.size + 1 + t186.size) = False := eq_false (Nat.not_lt.2 (by simpa [ByteArray.size_append, sz32, sz110] using c19))
             have c19b4 : ¬ (9223372036854775807 < x3_3.size + 1 + t185.size + 1 + t186.size) := by rw [c19b3]; exact not_false
             by_cases c20 : ((((x3_3 ++ (⟨#[32]⟩ : ByteArray)) ++ t185) ++ (⟨#[32]⟩ : ByteArray)) ++ t186).size + 1 ≤ 9223372036854775807
             ·
              rw [if_pos c20] at H
              have c20b0 := eq_true c20
              have c20b1 : decide (((((x3_3 ++ (⟨#[32]⟩ : ByteArray)) ++ t185) ++ (⟨#[32]⟩ : ByteArray)) ++ t186).size + 1 ≤ 9223372036854775807) = true := decide_eq_true c20
              try have c20b2 : (9223372036854775807 < ((((x3_3 ++ (⟨#[32]⟩ : ByteArray)) ++ t185) ++ (⟨#[32]⟩ : ByteArray)) ++ t186).size + 1) = False := eq_false (Nat.not_lt.2 c20)
              have c20b3 : (9223372036854775807 < x3_3.size + 1 + t185.size + 1 + t186.size + 1) = False := eq_false (Nat.not_lt.2 (by simpa [ByteArray.size_append, sz32, sz110] using c20))
              have c20b4 : ¬ (9223372036854775807 < x3_3.size + 1 + t185.size + 1 + t186.size + 1) := by rw [c20b3]; exact not_false
              replace H := Option.bind_eq_some_iff.mp H
              obtain ⟨t187, A210, H⟩ := H
              replace H : (if (((((x3_3 ++ (⟨#[32]⟩ : ByteArray)) ++ t185) ++ (⟨#[32]⟩ : ByteArray)) ++ t186) ++ (⟨#[32]⟩ : ByteArray)).size + t187.size ≤ 9223372036854775807 then (if ((((((x3_3 ++ (⟨#[32]⟩ : ByteArray)) ++ t185) ++ (⟨#[32]⟩ : ByteArray)) ++ t186) ++ (⟨#[32]⟩ : ByteArray)) ++ t187).size + 1 ≤ 9223372036854775807 then ((gutterref18_number.f kj3 ((rd_T39 l0 x4_1).f2.f3)).bind fun t188 => (if (((((((x3_3 ++ (⟨#[32]⟩ : ByteArray)) ++ t185) ++ (⟨#[32]⟩ : ByteArray)) ++ t186) ++ (⟨#[32]⟩ : ByteArray)) ++ t187) ++ (⟨#[32]⟩ : ByteArray)).size + t188.size ≤ 9223372036854775807 then (if ((((((((x3_3 ++ (⟨#[32]⟩ : ByteArray)) ++ t185) ++ (⟨#[32]⟩ : ByteArray)) ++ t186) ++ (⟨#[32]⟩ : ByteArray)) ++ t187) ++ (⟨#[32]⟩ : ByteArray)) ++ t188).size + 1 ≤ 9223372036854775807 then (gutterref18_Print.l0 kj3 l0 (((((((((x3_3 ++ (⟨#[32]⟩ : ByteArray)) ++ t185) ++ (⟨#[32]⟩ : ByteArray)) ++ t186) ++ (⟨#[32]⟩ : ByteArray)) ++ t187) ++ (⟨#[32]⟩ : ByteArray)) ++ t188) ++ (⟨#[10]⟩ : ByteArray)) (wrap64 (x4_1 + 1))) else (none)) else (none))) else (none)) else (none)) = some r := H
              have A21 := Aside0.mk A210
              clear A210
              by_cases c22 : (((((x3_3 ++ (⟨#[32]⟩ : ByteArray)) ++ t185) ++ (⟨#[32]⟩ : ByteArray)) ++ t186) ++ (⟨#[32]⟩ : ByteArray)).size + t187.size ≤ 9223372036854775807
              ·
               rw [if_pos c22] at H
               have c22b0 := eq_true c22
               have c22b1 : decide ((((((x3_3 ++ (⟨#[32]⟩ : ByteArray)) ++ t185) ++ (⟨#[32]⟩ : ByteArray)) ++ t186) ++ (⟨#[32]⟩ : ByteArray)).size + t187.size ≤ 9223372036854775807) = true := decide_eq_true c22
               try have c22b2 : (9223372036854775807 < (((((x3_3 ++ (⟨#[32]⟩ : ByteArray)) ++ t185) ++ (⟨#[32]⟩ : ByteArray)) ++ t186) ++ (⟨#[32]⟩ : ByteArray)).size + t187.size) = False := eq_false (Nat.not_lt.2 c22)
               have c22b3 : (9223372036854775807 < x3_3.size + 1 + t185.size + 1 + t186.size + 1 + t187.size) = False := eq_false (Nat.not_lt.2 (by simpa [ByteArray.size_append, sz32, sz110] using c22))
               have c22b4 : ¬ (9223372036854775807 < x3_3.size + 1 + t185.size + 1 + t186.size + 1 + t187.size) := by rw [c22b3]; exact not_false
               by_cases c23 : ((((((x3_3 ++ (⟨#[32]⟩ : ByteArray)) ++ t185) ++ (⟨#[32]⟩ : ByteArray)) ++ t186) ++ (⟨#[32]⟩ : ByteArray)) ++ t187).size + 1 ≤ 9223372036854775807
               ·
                rw [if_pos c23] at H
                have c23b0 := eq_true c23
                have c23b1 : decide (((((((x3_3 ++ (⟨#[32]⟩ : ByteArray)) ++ t185) ++ (⟨#[32]⟩ : ByteArray)) ++ t186) ++ (⟨#[32]⟩ : ByteArray)) ++ t187).size + 1 ≤ 9223372036854775807) = true := decide_eq_true c23
                try have c23b2 : (9223372036854775807 < ((((((x3_3 ++ (⟨#[32]⟩ : ByteArray)) ++ t185) ++ (⟨#[32]⟩ : ByteArray)) ++ t186) ++ (⟨#[32]⟩ : ByteArray)) ++ t187).size + 1) = False := eq_false (Nat.not_lt.2 c23)
                have c23b3 : (9223372036854775807 < x3_3.size + 1 + t185.size + 1 + t186.size + 1 + t187.size + 1) = False := eq_false (Nat.not_lt.2 (by simpa [ByteArray.size_append, sz32, sz110] using c23))
                have c23b4 : ¬ (9223372036854775807 < x3_3.size + 1 + t185.size + 1 + t186.size + 1 + t187.size + 1) := by rw [c23b3]; exact not_false
                replace H := Option.bind_eq_some_iff.mp H
                obtain ⟨t188, A240, H⟩ := H
                replace H : (if (((((((x3_3 ++ (⟨#[32]⟩ : ByteArray)) ++ t185) ++ (⟨#[32]⟩ : ByteArray)) ++ t186) ++ (⟨#[32]⟩ : ByteArray)) ++ t187) ++ (⟨#[32]⟩ : ByteArray)).size + t188.size ≤ 9223372036854775807 then (if ((((((((x3_3 ++ (⟨#[32]⟩ : ByteArray)) ++ t185) ++ (⟨#[32]⟩ : ByteArray)) ++ t186) ++ (⟨#[32]⟩ : ByteArray)) ++ t187) ++ (⟨#[32]⟩ : ByteArray)) ++ t188).size + 1 ≤ 9223372036854775807 then (gutterref18_Print.l0 kj3 l0 (((((((((x3_3 ++ (⟨#[32]⟩ : ByteArray)) ++ t185) ++ (⟨#[32]⟩ : ByteArray)) ++ t186) ++ (⟨#[32]⟩ : ByteArray)) ++ t187) ++ (⟨#[32]⟩ : ByteArray)) ++ t188) ++ (⟨#[10]⟩ : ByteArray)) (wrap64 (x4_1 + 1))) else (none)) else (none)) = some r := H
                have A24 := Aside0.mk A240
                clear A240
                by_cases c25 : (((((((x3_3 ++ (⟨#[32]⟩ : ByteArray)) ++ t185) ++ (⟨#[32]⟩ : ByteArray)) ++ t186) ++ (⟨#[32]⟩ : ByteArray)) ++ t187) ++ (⟨#[32]⟩ : ByteArray)).size + t188.size ≤ 9223372036854775807
                ·
                 rw [if_pos c25] at H
                 have c25b0 := eq_true c25
                 have c25b1 : decide ((((((((x3_3 ++ (⟨#[32]⟩ : ByteArray)) ++ t185) ++ (⟨#[32]⟩ : ByteArray)) ++ t186) ++ (⟨#[32]⟩ : ByteArray)) ++ t187) ++ (⟨#[32]⟩ : ByteArray)).size + t188.size ≤ 9223372036854775807) = true := decide_eq_true c25
                 try have c25b2 : (9223372036854775807 < (((((((x3_3 ++ (⟨#[32]⟩ : ByteArray)) ++ t185) ++ (⟨#[32]⟩ : ByteArray)) ++ t186) ++ (⟨#[32]⟩ : ByteArray)) ++ t187) ++ (⟨#[32]⟩ : ByteArray)).size + t188.size) = False := eq_false (Nat.not_lt.2 c25)
                 have c25b3 : (9223372036854775807 < x3_3.size + 1 + t185.size + 1 + t186.size + 1 + t187.size + 1 + t188.size) = False := eq_false (Nat.not_lt.2 (by simpa [ByteArray.size_append, sz32, sz110] using c25))
                 have c25b4 : ¬ (9223372036854775807 < x3_3.size + 1 + t185.size + 1 + t186.size + 1 + t187.size + 1 + t188.size) := by rw [c25b3]; exact not_false
                 by_cases c26 : ((((((((x3_3 ++ (⟨#[32]⟩ : ByteArray)) ++ t185) ++ (⟨#[32]⟩ : ByteArray)) ++ t186) ++ (⟨#[32]⟩ : ByteArray)) ++ t187) ++ (⟨#[32]⟩ : ByteArray)) ++ t188).size + 1 ≤ 9223372036854775807
                 ·
                  rw [if_pos c26] at H
                  have c26b0 := eq_true c26
                  have c26b1 : decide (((((((((x3_3 ++ (⟨#[32]⟩ : ByteArray)) ++ t185) ++ (⟨#[32]⟩ : ByteArray)) ++ t186) ++ (⟨#[32]⟩ : ByteArray)) ++ t187) ++ (⟨#[32]⟩ : ByteArray)) ++ t188).size + 1 ≤ 9223372036854775807) = true := decide_eq_true c26
                  try have c26b2 : (9223372036854775807 < ((((((((x3_3 ++ (⟨#[32]⟩ : ByteArray)) ++ t185) ++ (⟨#[32]⟩ : ByteArray)) ++ t186) ++ (⟨#[32]⟩ : ByteArray)) ++ t187) ++ (⟨#[32]⟩ : ByteArray)) ++ t188).size + 1) = False := eq_false (Nat.not_lt.2 c26)
                  have c26b3 : (9223372036854775807 < x3_3.size + 1 + t185.size + 1 + t186.size + 1 + t187.size + 1 + t188.size + 1) = False := eq_false (Nat.not_lt.2 (by simpa [ByteArray.size_append, sz32, sz110] using c26))
                  have c26b4 : ¬ (9223372036854775807 < x3_3.size + 1 + t185.size + 1 + t186.size + 1 + t187.size + 1 + t188.size + 1) := by rw [c26b3]; exact not_false
                  have H' := Aside0.mk H
                  clear H
                  have p183 : 0 ≤ (x4_1 : Int) := of_decide_eq_true (by first | (with_reducible assumption) | assumption)
                  have q183 : x4_1 < (l0.length : Int) := of_decide_eq_true (by first | (with_reducible assumption) | assumption)
                  obtain ⟨ad183, e183, hx183_0, hx183_1, hx183_2, hx183_3, hx183_4, hx183_5⟩ := at_T39 HR0.out x4_1 p183 q183
                  obtain rfl : ad180 = ad183 := (by injection e183)
                  replace hx183_0 := (HB.out.cell (World.block_lt_of_cell? w _ hx183_0)).trans hx183_0
                  replace hx183_1 := (HB.out.cell (World.block_lt_of_cell? w _ hx183_1)).trans hx183_1
                  replace hx183_2 := (HB.out.cell (World.block_lt_of_cell? w _ hx183_2)).trans hx183_2
                  replace hx183_3 := (HB.out.cell (World.block_lt_of_cell? w _ hx183_3)).trans hx183_3
                  replace hx183_4 := (HB.out.cell (World.block_lt_of_cell? w _ hx183_4)).trans hx183_4
                  replace hx183_5 := (HB.out.cell (World.block_lt_of_cell? w _ hx183_5)).trans hx183_5
                  replace p183 := eq_true p183
                  replace q183 := eq_true q183
                  try go_wp2_with (first | ((with_reducible refine gate_dst (N := 5) rfl ?_); refine box_event ?hg (N := 5) ?hd (cs := #[.int .i64 0, .int .i64 0, .int .i64 0, .int .i64 0]) (t := 30) ?hr ?_; (case hd => rfl); (case hg => rfl); (case hr => first | (go_simp; done) | (go_simp; rfl)); intro gb184 hg w27 hbox hb; have n0_ := Aside0.mk (below_step (by repeat (first | (with_reducible first | exact HB.out | apply below_alloc | apply pw_below_drewN | apply below_drew1) | exact HB.out)) hb); have n1_ := Aside0.mk (hbox); have n2_ := Aside0.mk ((by rw [hg]; exact (below_size (by repeat (first | (with_reducible first | exact HB.out | apply below_alloc | apply pw_below_drewN | apply below_drew1) | exact HB.out))) : w.heap.size ≤ gb184)); have n3_ := Aside0.mk ((by rw [hg]; exact (below_size (by repeat (first | (with_reducible first | exact HB.out | apply below_alloc | apply pw_below_drewN | apply below_drew1) | exact HB.out))) : w.heap.size ≤ gb184)); clear HB; have HB := n0_; have BK184 := n1_; have GW184 := n2_; have GE184 := n3_; clear n0_ n1_ n2_ n3_; clear hb hbox hg; have hcz28_0 : w27.cell? ⟨gb184, 0, none⟩ = some (.int .i64 0) := (blk_cell BK184.out 0).trans rfl; have hcz28_1 : w27.cell? ⟨gb184, 1, none⟩ = some (.int .i64 0) := (blk_cell BK184.out 1).trans rfl; have hcz28_2 : w27.cell? ⟨gb184, 2, none⟩ = some (.int .i64 0) := (blk_cell BK184.out 2).trans rfl; have hcz28_3 : w27.cell? ⟨gb184, 3, none⟩ = some (.int .i64 0) := (blk_cell BK184.out 3).trans rfl; have hfz28_0 := blk_frozen BK184.out 0; have hfz28_1 := blk_frozen BK184.out 1; have hfz28_2 := blk_frozen BK184.out 2; have hfz28_3 := blk_frozen BK184.out 3))
                  have n0_ : Aside0 (((((w27.setCell ⟨gb184, 0, none⟩ (.int .i64 ((rd_T39 l0 x4_1).f2.f0))).setCell ⟨gb184, 1, none⟩ (.int .i64 ((rd_T39 l0 x4_1).f2.f1))).setCell ⟨gb184, 2, none⟩ (.int .i64 ((rd_T39 l0 x4_1).f2.f2))).setCell ⟨gb184, 3, none⟩ (.int .i64 ((rd_T39 l0 x4_1).f2.f3))).heap[gb184]? = some (.cells #[.int .i64 ((rd_T39 l0 x4_1).f2.f0), .int .i64 ((rd_T39 l0 x4_1).f2.f1), .int .i64 ((rd_T39 l0 x4_1).f2.f2), .int .i64 ((rd_T39 l0 x4_1).f2.f3)] 30 (0, 0))) := ⟨by (with_reducible repeat (first | refine blk_drewN ?_ _ | refine blk_drew ?_ | refine blk_alloc ?_ _)); refine blk_put (cs := #[.int .i64 ((rd_T39 l0 x4_1).f2.f0), .int .i64 ((rd_T39 l0 x4_1).f2.f1), .int .i64 ((rd_T39 l0 x4_1).f2.f2), .int .i64 0]) ?_ 3 _ rfl; (with_reducible repeat (first | refine blk_drewN ?_ _ | refine blk_drew ?_ | refine blk_alloc ?_ _)); refine blk_put (cs := #[.int .i64 ((rd_T39 l0 x4_1).f2.f0), .int .i64 ((rd_T39 l0 x4_1).f2.f1), .int .i64 0, .int .i64 0]) ?_ 2 _ rfl; (with_reducible repeat (first | refine blk_drewN ?_ _ | refine blk_drew ?_ | refine blk_alloc ?_ _)); refine blk_put (cs := #[.int .i64 ((rd_T39 l0 x4_1).f2.f0), .int .i64 0, .int .i64 0, .int .i64 0]) ?_ 1 _ rfl; (with_reducible repeat (first | refine blk_drewN ?_ _ | refine blk_drew ?_ | refine blk_alloc ?_ _)); refine blk_put (cs := #[.int .i64 0, .int .i64 0, .int .i64 0, .int .i64 0]) ?_ 0 _ rfl; (with_reducible repeat (first | refine blk_drewN ?_ _ | refine blk_drew ?_ | refine blk_alloc ?_ _)); exact BK184.out⟩
                  have n1_ : Aside0 (Below w.heap.size w ((((w27.setCell ⟨gb184, 0, none⟩ (.int .i64 ((rd_T39 l0 x4_1).f2.f0))).setCell ⟨gb184, 1, none⟩ (.int .i64 ((rd_T39 l0 x4_1).f2.f1))).setCell ⟨gb184, 2, none⟩ (.int .i64 ((rd_T39 l0 x4_1).f2.f2))).setCell ⟨gb184, 3, none⟩ (.int .i64 ((rd_T39 l0 x4_1).f2.f3)))) := ⟨by repeat (first | (with_reducible first | exact HB.out | apply below_alloc | apply pw_below_drewN | apply below_drew1 | refine below_set ?_ GE184.out) | exact HB.out)⟩
                  (try clear BK184)
                  (try clear HB)
                  generalize ((((w27.setCell ⟨gb184, 0, none⟩ (.int .i64 ((rd_T39 l0 x4_1).f2.f0))).setCell ⟨gb184, 1, none⟩ (.int .i64 ((rd_T39 l0 x4_1).f2.f1))).setCell ⟨gb184, 2, none⟩ (.int .i64 ((rd_T39 l0 x4_1).f2.f2))).setCell ⟨gb184, 3, none⟩ (.int .i64 ((rd_T39 l0 x4_1).f2.f3))) = w29 at n0_ n1_ ⊢
                  have BK184 := n0_
                  have HB := n1_
                  clear n0_ n1_
                  have n0_ := Aside0.mk (blk_drew BK184.out)
                  have n1_ := Aside0.mk (below_drew1 HB.out)
                  clear BK184
                  clear HB
                  have BK184 := n0_
                  have HB := n1_
                  clear n0_ n1_
                  refine start_ (n := 23) (S := fun w' => w'.cell? ⟨gb184, 0, none⟩ = some (.int .i64 ((rd_T39 l0 x4_1).f2.f0)) ∧ w'.cell? ⟨gb184, 1, none⟩ = some (.int .i64 ((rd_T39 l0 x4_1).f2.f1)) ∧ w'.cell? ⟨gb184, 2, none⟩ = some (.int .i64 ((rd_T39 l0 x4_1).f2.f2)) ∧ w'.cell? ⟨gb184, 3, none⟩ = some (.int .i64 ((rd_T39 l0 x4_1).f2.f3))) (ds := []) #[false, false, false, false, false, false, false, false, false, false, false, false, false, false, false, false, false, false, false, false, false, false, false] (by kernel_rfl) rfl rfl ⟨(blk_cell BK184.out 0).trans rfl, (blk_cell BK184.out 1).trans rfl, (blk_cell BK184.out 2).trans rfl, (blk_cell BK184.out 3).trans rfl⟩ (fun hHeld => ?_); refine with_tabW gutterref18_Print.tab9 gutterref18_Print.bits9 (fun HT_ HW_ => ?_)
                  generalize w29.drew = w30 at BK184 HB hHeld ⊢
                  refine pure_ (i := 0) (N := some 33) (v := ?_) (a' := ?_) #[true, false, false, false, false, false, false, false, false, false, false, false, false, false, false, false, false, false, false, false, false, false, false] rfl rfl (any_of HT_.out (by kernel_rfl)) (fun _ _ _ h => h) (Or.inl ⟨by rfl, ?_⟩) ?_ ?_
                  rotate_left
                  ·
                   intro w'
                   go_simp
                   with_reducible rfl
                  rotate_left
                  ·
                   simp only [Act.put, List.setIfInBounds_toArray, List.set_cons_zero, List.set_cons_succ, i64_w, i32_w]
                   rfl
                  refine pure_ (i := 1) (N := some 34) (v := ?_) (a' := ?_) #[true, true, false, false, false, false, false, false, false, false, false, false, false, false, false, false, false, false, false, false, false, false, false] rfl rfl (any_of HT_.out (by kernel_rfl)) (fun _ _ _ h => h) (Or.inl ⟨by rfl, ?_⟩) ?_ ?_
                  rotate_left
                  ·
                   intro w'
                   go_simp
                   with_reducible rfl
                  rotate_left
                  ·
                   simp only [Act.put, List.setIfInBounds_toArray, List.set_cons_zero, List.set_cons_succ, i64_w, i32_w]
                   rfl
                  refine pure_ (i := 2) (N := some 35) (v := ?_) (a' := ?_) #[true, true, true, false, false, false, false, false, false, false, false, false, false, false, false, false, false, false, false, false, false, false, false] rfl rfl (any_of HT_.out (by kernel_rfl)) (fun _ _ _ h => h) (Or.inl ⟨by rfl, ?_⟩) ?_ ?_
                  rotate_left
                  ·
                   intro w'
                   go_simp
                   with_reducible rfl
                  rotate_left
                  ·
                   simp only [Act.put, List.setIfInBounds_toArray, List.set_cons_zero, List.set_cons_succ, i64_w, i32_w]
                   rfl
                  refine pure_ (i := 7) (N := some 40) (v := ?_) (a' := ?_) #[true, true, true, false, false, false, false, true, false, false, false, false, false, false, false, false, false, false, false, false, false, false, false] rfl rfl (any_of HT_.out (by kernel_rfl)) (fun _ _ _ h => h) (Or.inl ⟨by rfl, ?_⟩) ?_ ?_
                  rotate_left
                  ·
                   intro w'
                   go_simp
                   with_reducible rfl
                  rotate_left
                  ·
                   simp only [Act.put, List.setIfInBounds_toArray, List.set_cons_zero, List.set_cons_succ, i64_w, i32_w]
                   rfl
                  refine pure_ (i := 12) (N := some 45) (v := ?_) (a' := ?_) #[true, true, true, false, false, false, false, true, false, false, false, false, true, false, false, false, false, false, false, false, false, false, false] rfl rfl (any_of HT_.out (by kernel_rfl)) (fun _ _ _ h => h) (Or.inl ⟨by rfl, ?_⟩) ?_ ?_
                  rotate_left
                  ·
                   intro w'
                   go_simp
                   with_reducible rfl
                  rotate_left
                  ·
                   simp only [Act.put, List.setIfInBounds_toArray, List.set_cons_zero, List.set_cons_succ, i64_w, i32_w]
                   rfl
                  refine pure_ (i := 17) (N := some 50) (v := ?_) (a' := ?_) #[true, true, true, false, false, false, false, true, false, false, false, false, true, false, false, false, false, true, false, false, false, false, false] rfl rfl (any_of HT_.out (by kernel_rfl)) (fun _ _ _ h => h) (Or.inl ⟨by rfl, ?_⟩) ?_ ?_
                  rotate_left
                  ·
                   intro w'
                   go_simp
                   with_reducible rfl
                  rotate_left
                  ·
                   simp only [Act.put, List.setIfInBounds_toArray, List.set_cons_zero, List.set_cons_succ, i64_w, i32_w]
                   rfl
                  refine take_ (i := 3) (N := some 36) (v := ?_) (a' := ?_) #[true, true, true, true, false, false, false, true, false, false, false, false, true, false, false, false, false, true, false, false, false, false, false] rfl rfl (take_ofW HT_.out HW_.out (by kernel_rfl)) (fun _ _ _ h => h) (Or.inl ⟨by rfl, ?_⟩) hHeld ?_ ?_
                  rotate_left
                  ·
                   rintro w' ⟨s0, s1, s2, s3⟩
                   go_simp
                   with_reducible rfl
                  rotate_left
                  ·
                   simp only [Act.put, List.setIfInBounds_toArray, List.set_cons_zero, List.set_cons_succ, i64_w, i32_w]
                   rfl
                  refine take_ (i := 8) (N := some 41) (v := ?_) (a' := ?_) #[true, true, true, true, false, false, false, true, true, false, false, false, true, false, false, false, false, true, false, false, false, false, false] rfl rfl (take_ofW HT_.out HW_.out (by kernel_rfl)) (fun _ _ _ h => h) (Or.inl ⟨by rfl, ?_⟩) hHeld ?_ ?_
                  rotate_left
                  ·
                   rintro w' ⟨s0, s1, s2, s3⟩
                   go_simp
                   with_reducible rfl
                  rotate_left
                  ·
                   simp only [Act.put, List.setIfInBounds_toArray, List.set_cons_zero, List.set_cons_succ, i64_w, i32_w]
                   rfl
                  refine take_ (i := 13) (N := some 46) (v := ?_) (a' := ?_) #[true, true, true, true, false, false, false, true, true, false, false, false, true, true, false, false, false, true, false, false, false, false, false] rfl rfl (take_ofW HT_.out HW_.out (by kernel_rfl)) (fun _ _ _ h => h) (Or.inl ⟨by rfl, ?_⟩) hHeld ?_ ?_
                  rotate_left
                  ·
                   rintro w' ⟨s0, s1, s2, s3⟩
                   go_simp
                   with_reducible rfl
                  rotate_left
                  ·
                   simp only [Act.put, List.setIfInBounds_toArray, List.set_cons_zero, List.set_cons_succ, i64_w, i32_w]
                   rfl
                  refine take_ (i := 18) (N := some 51) (v := ?_) (a' := ?_) #[true, true, true, true, false, false, false, true, true, false, false, false, true, true, false, false, false, true, true, false, false, false, false] rfl rfl (take_ofW HT_.out HW_.out (by kernel_rfl)) (fun _ _ _ h => h) (Or.inl ⟨by rfl, ?_⟩) hHeld ?_ ?_
                  rotate_left
                  ·
                   rintro w' ⟨s0, s1, s2, s3⟩
                   go_simp
                   with_reducible rfl
                  rotate_left
                  ·
                   simp only [Act.put, List.setIfInBounds_toArray, List.set_cons_zero, List.set_cons_succ, i64_w, i32_w]
                   rfl
                  refine one_ (i := 4) (N := some 37) #[true, true, true, true, true, false, false, true, true, false, false, false, true, true, false, false, false, true, true, false, false, false, false] rfl rfl (one_of HT_.out (by kernel_rfl)) (by decide) (fun K hK => ?_)
                  refine goes_ Tryd.func51 (by kernel_rfl) rfl #[.int .i64 ((rd_T39 l0 x4_1).f2.f0)] (by rfl) rfl rfl (by (try simp only [List.map_toArray, List.map_cons, List.map_nil]); first | done | rfl | (simp only [List.length_drop, List.length_take]; rfl)) ?_
                  with_reducible refine (gutterref18_number.calls kj3 ((rd_T39 l0 x4_1).f2.f0) t185 _ A15.out).mono ?_
                  rintro e w31 ⟨rfl, hb⟩
                  refine ⟨_, rfl, ?_⟩
                  have n0_ := Aside0.mk (blk_below (g := gb184) (o := .cells #[.int .i64 ((rd_T39 l0 x4_1).f2.f0), .int .i64 ((rd_T39 l0 x4_1).f2.f1), .int .i64 ((rd_T39 l0 x4_1).f2.f2), .int .i64 ((rd_T39 l0 x4_1).f2.f3)] 30 (0, 0)) (by (with_reducible repeat (first | refine blk_drewN ?_ _ | refine blk_drew ?_ | refine blk_alloc ?_ _)); exact BK184.out) hb)
                  have n1_ := Aside0.mk (below_step (by repeat (first | (with_reducible first | exact HB.out | apply below_alloc | apply pw_below_drewN | apply below_drew1 | refine below_set ?_ GE184.out) | exact HB.out)) hb)
                  clear BK184
                  clear HB
                  have BK184 := n0_
                  have HB := n1_
                  clear n0_ n1_
                  (try clear hb)
                  (try clear hb2)
                  (try clear hk)
                  (try clear hi)
                  refine hK.out _ _ ⟨(blk_cell BK184.out 0).trans rfl, (blk_cell BK184.out 1).trans rfl, (blk_cell BK184.out 2).trans rfl, (blk_cell BK184.out 3).trans rfl⟩ (fun hHeld => ?_)
                  clear hK K
                  refine norm_ (a' := ?_) ?_ ?_
                  rotate_left
                  ·
                   show Act.put _ (some 37) _ = _
                   simp only [Act.put, List.setIfInBounds_toArray, List.set_cons_zero, List.set_cons_succ, i64_w, i32_w]
                   rfl
                  refine pure_ (i := 5) (N := some 38) (v := ?_) (a' := ?_) #[true, true, true, true, true, true, false, true, true, false, false, false, true, true, false, false, false, true, true, false, false, false, false] rfl rfl (any_of HT_.out (by kernel_rfl)) (fun _ _ _ h => h) (Or.inl ⟨by rfl, ?_⟩) ?_ ?_
                  rotate_left
                  ·
                   intro w'
                   go_simp
                   with_reducible rfl
                  rotate_left
                  ·
                   simp only [Act.put, List.setIfInBounds_toArray, List.set_cons_zero, List.set_cons_succ, i64_w, i32_w]
                   rfl
                  refine pure_ (i := 6) (N := some 39) (v := ?_) (a' := ?_) #[true, true, true, true, true, true, true, true, true, false, false, false, true, true, false, false, false, true, true, false, false, false, false] rfl rfl (any_of HT_.out (by kernel_rfl)) (fun _ _ _ h => h) (Or.inl ⟨by rfl, ?_⟩) ?_ ?_
                  rotate_left
                  ·
                   intro w'
                   go_simp
                   with_reducible rfl
                  rotate_left
                  ·
                   simp only [Act.put, List.setIfInBounds_toArray, List.set_cons_zero, List.set_cons_succ, i64_w, i32_w]
                   rfl
                  refine one_ (i := 9) (N := some 42) #[true, true, true, true, true, true, true, true, true, true, false, false, true, true, false, false, false, true, true, false, false, false, false] rfl rfl (one_of HT_.out (by kernel_rfl)) (by decide) (fun K hK => ?_)
                  refine goes_ Tryd.func51 (by kernel_rfl) rfl #[.int .i64 ((rd_T39 l0 x4_1).f2.f1)] (by rfl) rfl rfl (by (try simp only [List.map_toArray, List.map_cons, List.map_nil]); first | done | rfl | (simp only [List.length_drop, List.length_take]; rfl)) ?_
                  with_reducible refine (gutterref18_number.calls kj3 ((rd_T39 l0 x4_1).f2.f1) t186 _ A18.out).mono ?_
                  rintro e w32 ⟨rfl, hb⟩
                  refine ⟨_, rfl, ?_⟩
                  have n0_ := Aside0.mk (blk_below (g := gb184) (o := .cells #[.int .i64 ((rd_T39 l0 x4_1).f2.f0), .int .i64 ((rd_T39 l0 x4_1).f2.f1), .int .i64 ((rd_T39 l0 x4_1).f2.f2), .int .i64 ((rd_T39 l0 x4_1).f2.f3)] 30 (0, 0)) (by (with_reducible repeat (first | refine blk_drewN ?_ _ | refine blk_drew ?_ | refine blk_alloc ?_ _)); exact BK184.out) hb)
                  have n1_ := Aside0.mk (below_step (by repeat (first | (with_reducible first | exact HB.out | apply below_alloc | apply pw_below_drewN | apply below_drew1 | refine below_set ?_ GE184.out) | exact HB.out)) hb)
                  clear BK184
                  clear HB
                  have BK184 := n0_
                  have HB := n1_
                  clear n0_ n1_
                  (try clear hb)
                  (try clear hb2)
                  (try clear hk)
                  (try clear hi)
                  refine hK.out _ _ ⟨(blk_cell BK184.out 0).trans rfl, (blk_cell BK184.out 1).trans rfl, (blk_cell BK184.out 2).trans rfl, (blk_cell BK184.out 3).trans rfl⟩ (fun hHeld => ?_)
                  clear hK K
                  refine norm_ (a' := ?_) ?_ ?_
                  rotate_left
                  ·
                   show Act.put _ (some 42) _ = _
                   simp only [Act.put, List.setIfInBounds_toArray, List.set_cons_zero, List.set_cons_succ, i64_w, i32_w]
                   rfl
                  refine pure_ (i := 10) (N := some 43) (v := ?_) (a' := ?_) #[true, true, true, true, true, true, true, true, true, true, true, false, true, true, false, false, false, true, true, false, false, false, false] rfl rfl (any_of HT_.out (by kernel_rfl)) (fun _ _ _ h => h) (Or.inl ⟨by rfl, ?_⟩) ?_ ?_
                  rotate_left
                  ·
                   intro w'
                   go_simp
                   with_reducible rfl
                  rotate_left
                  ·
                   simp only [Act.put, List.setIfInBounds_toArray, List.set_cons_zero, List.set_cons_succ, i64_w, i32_w]
                   rfl
                  refine pure_ (i := 11) (N := some 44) (v := ?_) (a' := ?_) #[true, true, true, true, true, true, true, true, true, true, true, true, true, true, false, false, false, true, true, false, false, false, false] rfl rfl (any_of HT_.out (by kernel_rfl)) (fun _ _ _ h => h) (Or.inl ⟨by rfl, ?_⟩) ?_ ?_
                  rotate_left
                  ·
                   intro w'
                   go_simp
                   with_reducible rfl
                  rotate_left
                  ·
                   simp only [Act.put, List.setIfInBounds_toArray, List.set_cons_zero, List.set_cons_succ, i64_w, i32_w]
                   rfl
                  refine one_ (i := 14) (N := some 47) #[true, true, true, true, true, true, true, true, true, true, true, true, true, true, true, false, false, true, true, false, false, false, false] rfl rfl (one_of HT_.out (by kernel_rfl)) (by decide) (fun K hK => ?_)
                  refine goes_ Tryd.func51 (by kernel_rfl) rfl #[.int .i64 ((rd_T39 l0 x4_1).f2.f2)] (by rfl) rfl rfl (by (try simp only [List.map_toArray, List.map_cons, List.map_nil]); first | done | rfl | (simp only [List.length_drop, List.length_take]; rfl)) ?_
                  with_reducible refine (gutterref18_number.calls kj3 ((rd_T39 l0 x4_1).f2.f2) t187 _ A21.out).mono ?_
                  rintro e w33 ⟨rfl, hb⟩
                  refine ⟨_, rfl, ?_⟩
                  have n0_ := Aside0.mk (blk_below (g := gb184) (o := .cells #[.int .i64 ((rd_T39 l0 x4_1).f2.f0), .int .i64 ((rd_T39 l0 x4_1).f2.f1), .int .i64 ((rd_T39 l0 x4_1).f2.f2), .int .i64 ((rd_T39 l0 x4_1).f2.f3)] 30 (0, 0)) (by (with_reducible repeat (first | refine blk_drewN ?_ _ | refine blk_drew ?_ | refine blk_alloc ?_ _)); exact BK184.out) hb)
                  have n1_ := Aside0.mk (below_step (by repeat (first | (with_reducible first | exact HB.out | apply below_alloc | apply pw_below_drewN | apply below_drew1 | refine below_set ?_ GE184.out) | exact HB.out)) hb)
                  clear BK184
                  clear HB
                  have BK184 := n0_
                  have HB := n1_
                  clear n0_ n1_
                  (try clear hb)
                  (try clear hb2)
                  (try clear hk)
                  (try clear hi)
                  refine hK.out _ _ ⟨(blk_cell BK184.out 0).trans rfl, (blk_cell BK184.out 1).trans rfl, (blk_cell BK184.out 2).trans rfl, (blk_cell BK184.out 3).trans rfl⟩ (fun hHeld => ?_)
                  clear hK K
                  refine norm_ (a' := ?_) ?_ ?_
                  rotate_left
                  ·
                   show Act.put _ (some 47) _ = _
                   simp only [Act.put, List.setIfInBounds_toArray, List.set_cons_zero, List.set_cons_succ, i64_w, i32_w]
                   rfl
                  refine pure_ (i := 15) (N := some 48) (v := ?_) (a' := ?_) #[true, true, true, true, true, true, true, true, true, true, true, true, true, true, true, true, false, true, true, false, false, false, false] rfl rfl (any_of HT_.out (by kernel_rfl)) (fun _ _ _ h => h) (Or.inl ⟨by rfl, ?_⟩) ?_ ?_
                  rotate_left
                  ·
                   intro w'
                   go_simp
                   with_reducible rfl
                  rotate_left
                  ·
                   simp only [Act.put, List.setIfInBounds_toArray, List.set_cons_zero, List.set_cons_succ, i64_w, i32_w]
                   rfl
                  refine pure_ (i := 16) (N := some 49) (v := ?_) (a' := ?_) #[true, true, true, true, true, true, true, true, true, true, true, true, true, true, true, true, true, true, true, false, false, false, false] rfl rfl (any_of HT_.out (by kernel_rfl)) (fun _ _ _ h => h) (Or.inl ⟨by rfl, ?_⟩) ?_ ?_
                  rotate_left
                  ·
                   intro w'
                   go_simp
                   with_reducible rfl
                  rotate_left
                  ·
                   simp only [Act.put, List.setIfInBounds_toArray, List.set_cons_zero, List.set_cons_succ, i64_w, i32_w]
                   rfl
                  refine one_ (i := 19) (N := some 52) #[true, true, true, true, true, true, true, true, true, true, true, true, true, true, true, true, true, true, true, true, false, false, false] rfl rfl (one_of HT_.out (by kernel_rfl)) (by decide) (fun K hK => ?_)
                  refine goes_ Tryd.func51 (by kernel_rfl) rfl #[.int .i64 ((rd_T39 l0 x4_1).f2.f3)] (by rfl) rfl rfl (by (try simp only [List.map_toArray, List.map_cons, List.map_nil]); first | done | rfl | (simp only [List.length_drop, List.length_take]; rfl)) ?_
                  with_reducible refine (gutterref18_number.calls kj3 ((rd_T39 l0 x4_1).f2.f3) t188 _ A24.out).mono ?_
                  rintro e w34 ⟨rfl, hb⟩
                  refine ⟨_, rfl, ?_⟩
                  have n0_ := Aside0.mk (blk_below (g := gb184) (o := .cells #[.int .i64 ((rd_T39 l0 x4_1).f2.f0), .int .i64 ((rd_T39 l0 x4_1).f2.f1), .int .i64 ((rd_T39 l0 x4_1).f2.f2), .int .i64 ((rd_T39 l0 x4_1).f2.f3)] 30 (0, 0)) (by (with_reducible repeat (first | refine blk_drewN ?_ _ | refine blk_drew ?_ | refine blk_alloc ?_ _)); exact BK184.out) hb)
                  have n1_ := Aside0.mk (below_step (by repeat (first | (with_reducible first | exact HB.out | apply below_alloc | apply pw_below_drewN | apply below_drew1 | refine below_set ?_ GE184.out) | exact HB.out)) hb)
                  clear BK184
                  clear HB
                  have BK184 := n0_
                  have HB := n1_
                  clear n0_ n1_
                  (try clear hb)
                  (try clear hb2)
                  (try clear hk)
                  (try clear hi)
                  refine hK.out _ _ ⟨(blk_cell BK184.out 0).trans rfl, (blk_cell BK184.out 1).trans rfl, (blk_cell BK184.out 2).trans rfl, (blk_cell BK184.out 3).trans rfl⟩ (fun hHeld => ?_)
                  clear hK K
                  refine norm_ (a' := ?_) ?_ ?_
                  rotate_left
                  ·
                   show Act.put _ (some 52) _ = _
                   simp only [Act.put, List.setIfInBounds_toArray, List.set_cons_zero, List.set_cons_succ, i64_w, i32_w]
                   rfl
                  refine pure_ (i := 20) (N := some 53) (v := ?_) (a' := ?_) #[true, true, true, true, true, true, true, true, true, true, true, true, true, true, true, true, true, true, true, true, true, false, false] rfl rfl (any_of HT_.out (by kernel_rfl)) (fun _ _ _ h => h) (Or.inl ⟨by rfl, ?_⟩) ?_ ?_
                  rotate_left
                  ·
                   intro w'
                   go_simp
                   with_reducible rfl
                  rotate_left
                  ·
                   simp only [Act.put, List.setIfInBounds_toArray, List.set_cons_zero, List.set_cons_succ, i64_w, i32_w]
                   rfl
                  refine pure_ (i := 21) (N := some 54) (v := ?_) (a' := ?_) #[true, true, true, true, true, true, true, true, true, true, true, true, true, true, true, true, true, true, true, true, true, true, false] rfl rfl (any_of HT_.out (by kernel_rfl)) (fun _ _ _ h => h) (Or.inl ⟨by rfl, ?_⟩) ?_ ?_
                  rotate_left
                  ·
                   intro w'
                   go_simp
                   with_reducible rfl
                  rotate_left
                  ·
                   simp only [Act.put, List.setIfInBounds_toArray, List.set_cons_zero, List.set_cons_succ, i64_w, i32_w]
                   rfl
                  refine pure_ (i := 22) (N := some 3) (v := ?_) (a' := ?_) #[true, true, true, true, true, true, true, true, true, true, true, true, true, true, true, true, true, true, true, true, true, true, true] rfl rfl (any_of HT_.out (by kernel_rfl)) (fun _ _ _ h => h) (Or.inl ⟨by rfl, ?_⟩) ?_ ?_
                  rotate_left
                  ·
                   intro w'
                   go_simp
                   with_reducible rfl
                  rotate_left
                  ·
                   simp only [Act.put, List.setIfInBounds_toArray, List.set_cons_zero, List.set_cons_succ, i64_w, i32_w]
                   rfl
                  refine done_ (done_of HT_.out (by kernel_rfl)) ?_
                  try go_wp2
                  go_roundg kj3
                  case measure => have := HK1.out; have := HJ3.out; omega
                  case rel => exact ⟨(((((((((x3_3 ++ (⟨#[32]⟩ : ByteArray)) ++ t185) ++ (⟨#[32]⟩ : ByteArray)) ++ t186) ++ (⟨#[32]⟩ : ByteArray)) ++ t187) ++ (⟨#[32]⟩ : ByteArray)) ++ t188) ++ (⟨#[10]⟩ : ByteArray)), (wrap64 (x4_1 + 1)), (by first | rfl | (simp; done) | (simp [*]; done)), (by first | rfl | (simp; done) | (simp [*]; done)), H', ⟨by have := HK1.out; have := HJ3.out; omega⟩, ⟨by repeat (first | (with_reducible first | exact HB.out | apply below_alloc | apply pw_below_drewN | apply below_drew1 | refine below_set ?_ GE184.out) | exact HB.out)⟩⟩
                 ·
                  rw [if_neg c26] at H
                  exact absurd H (by simp)
                ·
                 rw [if_neg c25] at H
                 exact absurd H (by simp)
               ·
                rw [if_neg c23] at H
                exact absurd H (by simp)
              ·
               rw [if_neg c22] at H
               exact absurd H (by simp)
             ·
              rw [if_neg c20] at H
              exact absurd H (by simp)
            ·
             rw [if_neg c19] at H
             exact absurd H (by simp)
           ·
            rw [if_neg c17] at H
            exact absurd H (by simp)
          ·
           rw [if_neg c16] at H
           exact absurd H (by simp)
         ·
          rw [if_neg c14] at H
          exact absurd H (by simp)
        ·
         rw [if_neg c13] at H
         exact absurd H (by simp)
       ·
        rw [if_neg c12] at H
        exact absurd H (by simp)
    ·
     rw [if_neg c3] at H
     exact absurd H (by simp)
   ·
    rw [if_neg c2] at H
    have c2b0 : decide (x4_1 < (l0.length : Int)) = false := decide_eq_false c2
    clear c2
    obtain rfl := Option.some.inj H
    go_wp2
    go_ret
    exact ⟨by first | rfl | (simp [errW_none, errW_some] <;> rfl) | (simp [*, errW_none, errW_some] <;> rfl), by repeat (first | (with_reducible first | exact HB.out | apply below_alloc | apply pw_below_drewN | apply below_drew1) | exact HB.out)⟩

end Go.Proofs.YtkmddhljfjjglaaDoor.G
