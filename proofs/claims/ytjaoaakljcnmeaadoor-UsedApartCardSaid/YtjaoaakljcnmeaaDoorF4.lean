/- Chapter 6: how many there are. Written by mkF4.py. -/
import Derived.Test.YtjaoaakljcnmeaaDoorF3
import Derived.Maps.Own
import Derived.Maps.OwnOps
import Derived.Maps.Views
import Derived.DeepKeys4
namespace Go.Proofs.YtjaoaakljcnmeaaDoor.G
open Go.RowKit Go.Maps Go.Proofs.YtjaoaakljcnmeaaDoorW.PrintWords Go.Proofs.YtjaoaakljcnmeaaDoorW.PrintLast Go.Proofs.YtjaoaakljcnmeaaDoorW.PrintMore

/-- How many there are. -/
def manyZ (s0 s1 s2 av : Int) : Int := if s1 = 0 then s0 else if s0 = 0 ∨ fitZ av s1 s2 < s0 then fitZ av s1 s2 else s0
set_option maxRecDepth 100000 in
set_option maxHeartbeats 1000000 in
theorem many_none (s0 : Int) (s1 : Int) (s2 : Int) (s3 : Int) (s4 : Bool) (s5 : Int) (s6 : Int) (s7 : Int) (s8 : Bool) (s9 : Int) (s10 : Int) (s11 : Bool) (s12 : Int) (s13 : Bool) (s14 : Int) (s15 : Int) (av : Int) (w : World) (h1 : s1 = 0) (hG : GOK w) : Calls Tryd.prog 31 #[.agg #[.int .i64 s0, .int .i64 s1, .int .i64 s2, .int .i64 s3, .bool s4, .int .i64 s5, .int .i64 s6, .int .i64 s7, .bool s8, .int .i64 s9, .int .i64 s10, .bool s11, .int .i64 s12, .bool s13, .int .i64 s14, .int .i64 s15, .int .i64 av]] w fun e w' => e = .returned (.int .i64 (manyZ s0 s1 s2 av)) ∧ Below w.heap.size w w' := by
  have HM := Aside0.mk (show manyZ s0 s1 s2 av = s0 from if_pos h1)
  clear hG
  subst h1
  go_enter Tryd.func31, Tryd.ntmps31
  go_wp2
  go_ret
  rw [HM.out]
  exact ⟨rfl, below_alloc (Below.refl _ _) _⟩
set_option maxRecDepth 100000 in
set_option maxHeartbeats 1000000 in
theorem many_some (s0 : Int) (s1 : Int) (s2 : Int) (s3 : Int) (s4 : Bool) (s5 : Int) (s6 : Int) (s7 : Int) (s8 : Bool) (s9 : Int) (s10 : Int) (s11 : Bool) (s12 : Int) (s13 : Bool) (s14 : Int) (s15 : Int) (av : Int) (w : World) (h1 : s1 ≠ 0) (ha : sizB av = true) (hn : sizB s1 = true) (hg : sizB s2 = true) (hG : GOK w) : Calls Tryd.prog 31 #[.agg #[.int .i64 s0, .int .i64 s1, .int .i64 s2, .int .i64 s3, .bool s4, .int .i64 s5, .int .i64 s6, .int .i64 s7, .bool s8, .int .i64 s9, .int .i64 s10, .bool s11, .int .i64 s12, .bool s13, .int .i64 s14, .int .i64 s15, .int .i64 av]] w fun e w' => e = .returned (.int .i64 (manyZ s0 s1 s2 av)) ∧ Below w.heap.size w w' := by
  have in_ := (sizB_iff s1).1 hn
  have ig := (sizB_iff s2).1 hg
  have HF := Aside0.mk (fun w' => fits_any av s1 s2 w' ha hn hg (by omega))
  have HG := Aside0.mk (hG.below (below_alloc (Below.refl w.heap.size w) (.cells #[.int .i64 s0, .int .i64 s1, .int .i64 s2, .int .i64 s3, .bool s4, .int .i64 s5, .int .i64 s6, .int .i64 s7, .bool s8, .int .i64 s9, .int .i64 s10, .bool s11, .int .i64 s12, .bool s13, .int .i64 s14, .int .i64 s15, .int .i64 av] 47)))
  have hz : (s1 == 0) = false := by simp [h1]
  have HM : manyZ s0 s1 s2 av = if s0 = 0 ∨ fitZ av s1 s2 < s0 then fitZ av s1 s2 else s0 := if_neg h1
  generalize fitZ av s1 s2 = f at *
  generalize manyZ s0 s1 s2 av = m at *
  have HM2 := Aside0.mk HM
  clear HM ha hn hg in_ ig hG h1
  by_cases h0 : s0 = 0
  · have hm := HM2.out
    rw [if_pos (.inl h0)] at hm
    have HM3 := Aside0.mk hm
    have hz0 : (s0 == 0) = true := by simp [h0]
    clear hm h0
    go_enter Tryd.func31, Tryd.ntmps31
    go_wp2_with (go_at_call 25; refine (HF.out _ HG.out).mono ?_; rintro e w1 ⟨rfl, hb⟩; have HB := Aside0.mk (below_step (below_alloc (Below.refl _ _) _) hb); clear hb)
    go_ret
    rw [HM3.out]
    exact ⟨rfl, HB.out⟩
  · have hz0 : (s0 == 0) = false := by simp [h0]
    by_cases hl : f < s0
    · have hm := HM2.out
      rw [if_pos (.inr hl)] at hm
      have HM3 := Aside0.mk hm
      have hl' : decide (f < s0) = true := decide_eq_true hl
      clear hm h0 hl
      go_enter Tryd.func31, Tryd.ntmps31
      go_wp2_with (go_at_call 25; refine (HF.out _ HG.out).mono ?_; rintro e w1 ⟨rfl, hb⟩; have HB := Aside0.mk (below_step (below_alloc (Below.refl _ _) _) hb); clear hb)
      go_ret
      rw [HM3.out]
      exact ⟨rfl, HB.out⟩
    · have hm := HM2.out
      rw [if_neg (by rintro (h | h); exact h0 h; exact hl h)] at hm
      have HM3 := Aside0.mk hm
      have hl' : decide (f < s0) = false := decide_eq_false hl
      clear hm h0 hl
      go_enter Tryd.func31, Tryd.ntmps31
      go_wp2_with (go_at_call 25; refine (HF.out _ HG.out).mono ?_; rintro e w1 ⟨rfl, hb⟩; have HB := Aside0.mk (below_step (below_alloc (Below.refl _ _) _) hb); clear hb)
      go_ret
      rw [HM3.out]
      exact ⟨rfl, HB.out⟩
theorem many_any (s0 : Int) (s1 : Int) (s2 : Int) (s3 : Int) (s4 : Bool) (s5 : Int) (s6 : Int) (s7 : Int) (s8 : Bool) (s9 : Int) (s10 : Int) (s11 : Bool) (s12 : Int) (s13 : Bool) (s14 : Int) (s15 : Int) (av : Int) (w : World) (ha : sizB av = true) (hn : sizB s1 = true) (hg : sizB s2 = true) (hG : GOK w) : Calls Tryd.prog 31 #[.agg #[.int .i64 s0, .int .i64 s1, .int .i64 s2, .int .i64 s3, .bool s4, .int .i64 s5, .int .i64 s6, .int .i64 s7, .bool s8, .int .i64 s9, .int .i64 s10, .bool s11, .int .i64 s12, .bool s13, .int .i64 s14, .int .i64 s15, .int .i64 av]] w fun e w' => e = .returned (.int .i64 (manyZ s0 s1 s2 av)) ∧ Below w.heap.size w w' := by
  by_cases h : s1 = 0
  · exact many_none s0 s1 s2 s3 s4 s5 s6 s7 s8 s9 s10 s11 s12 s13 s14 s15 av w h hG
  · exact many_some s0 s1 s2 s3 s4 s5 s6 s7 s8 s9 s10 s11 s12 s13 s14 s15 av w h ha hn hg hG
/-- Is a number within two others? -/
def inB (lo hi x : Int) : Bool := decide (lo ≤ x) && decide (x ≤ hi)
set_option maxHeartbeats 1000000 in
theorem within_all (lo hi : Int) (l : List Int) (hl : l.length ≤ 1000) (d : Nat) : ∀ (k i : Nat), i ≤ l.length → l.length - i = d → d < k → P.style_isWithin.l0 k lo hi l l.length i = some ((l.drop i).all (inB lo hi)) := by
  induction d with
  | zero =>
    intro k i hi' hd hk
    obtain ⟨k, rfl⟩ : ∃ m, k = m + 1 := ⟨k - 1, by omega⟩
    rw [P.style_isWithin.l0, if_neg (by omega), List.drop_of_length_le (by omega)]
    rfl
  | succ d ih =>
    intro k i hi' hd hk
    obtain ⟨k, rfl⟩ : ∃ m, k = m + 1 := ⟨k - 1, by omega⟩
    have e : rd l i = l[i] := by simp [rd, show i < l.length by omega]
    rw [P.style_isWithin.l0, if_pos (by omega), if_pos (by omega), if_pos (by omega), e, List.drop_eq_getElem_cons (by omega), List.all_cons]
    generalize l[i] = x
    by_cases h1 : x < lo
    · rw [if_pos h1]
      have : inB lo hi x = false := by rw [inB, decide_eq_false (by omega)]; rfl
      rw [this]; rfl
    · by_cases h2 : x > hi
      · rw [if_neg h1, if_pos h2]
        have : inB lo hi x = false := by rw [inB, decide_eq_false (p := x ≤ hi) (by omega), Bool.and_false]
        rw [this]; rfl
      · have : inB lo hi x = true := by rw [inB, decide_eq_true (by omega), decide_eq_true (by omega)]; rfl
        have hih := ih k (i + 1) (by omega) (by omega) (by omega)
        have hb : -9223372036854775808 ≤ (i : Int) + 1 ∧ (i : Int) + 1 ≤ 9223372036854775807 := by clear hih; omega
        have ew : wrap64 ((i : Int) + 1) = ((i + 1 : Nat) : Int) := i64_in hb.1 hb.2
        rw [if_neg h1, if_neg h2, this, ew, hih, Bool.true_and]
theorem within_f (lo hi : Int) (l : List Int) (hl : l.length ≤ 4) : P.style_isWithin.f 5 lo hi l = some (l.all (inB lo hi)) :=
  within_all lo hi l (by omega) l.length 5 0 (by omega) (by omega) (by omega)
theorem ite_some (b c : Bool) : (if b = true then some c else some false) = some (b && c) := by cases b <;> rfl
/-- Is a style right? -/
def rightB (s0 : Int) (s1 : Int) (s2 : Int) (s3 : Int) (s4 : Bool) (s5 : Int) (s6 : Int) (s7 : Int) (s8 : Bool) (s9 : Int) (s10 : Int) (s11 : Bool) (s12 : Int) (s13 : Bool) (s14 : Int) (s15 : Int) : Bool := [s0].all (inB 0 50) && [s1, s2, s3, s5].all (inB 0 1048576) && [s14, s15].all (inB (-1048576) 1048576) && [s6, s7].all (inB 1 20) && [s9, s10].all (inB 0 2) && [s12].all (inB 0 2)
theorem right_f (s0 : Int) (s1 : Int) (s2 : Int) (s3 : Int) (s4 : Bool) (s5 : Int) (s6 : Int) (s7 : Int) (s8 : Bool) (s9 : Int) (s10 : Int) (s11 : Bool) (s12 : Int) (s13 : Bool) (s14 : Int) (s15 : Int) : P.style_Right.f 5 s0 s1 s2 s3 s4 s5 s6 s7 s8 s9 s10 s11 s12 s13 s14 s15 = some (rightB s0 s1 s2 s3 s4 s5 s6 s7 s8 s9 s10 s11 s12 s13 s14 s15) := by
  unfold P.style_Right.f rightB
  rw [within_f 0 50 [s0] (by simp), within_f 0 1048576 [s1, s2, s3, s5] (by simp), within_f (-1048576) 1048576 [s14, s15] (by simp), within_f 1 20 [s6, s7] (by simp), within_f 0 2 [s9, s10] (by simp), within_f 0 2 [s12] (by simp)]
  simp only [Option.bind_some]
  simp only [ite_some, Bool.and_assoc]
theorem sright_any (s0 : Int) (s1 : Int) (s2 : Int) (s3 : Int) (s4 : Bool) (s5 : Int) (s6 : Int) (s7 : Int) (s8 : Bool) (s9 : Int) (s10 : Int) (s11 : Bool) (s12 : Int) (s13 : Bool) (s14 : Int) (s15 : Int) (w : World) : Calls Tryd.prog 29 #[.agg #[.int .i64 s0, .int .i64 s1, .int .i64 s2, .int .i64 s3, .bool s4, .int .i64 s5, .int .i64 s6, .int .i64 s7, .bool s8, .int .i64 s9, .int .i64 s10, .bool s11, .int .i64 s12, .bool s13, .int .i64 s14, .int .i64 s15]] w fun e w' => e = .returned (.bool (rightB s0 s1 s2 s3 s4 s5 s6 s7 s8 s9 s10 s11 s12 s13 s14 s15)) ∧ Below w.heap.size w w' :=
  P.style_Right.calls 5 s0 s1 s2 s3 s4 s5 s6 s7 s8 s9 s10 s11 s12 s13 s14 s15 _ w (right_f s0 s1 s2 s3 s4 s5 s6 s7 s8 s9 s10 s11 s12 s13 s14 s15)
/-- Has it columns? -/
def multiB (s0 s1 : Int) : Bool := decide (0 < s0) || decide (0 < s1)
theorem multi_any (s0 : Int) (s1 : Int) (s2 : Int) (s3 : Int) (s4 : Bool) (s5 : Int) (s6 : Int) (s7 : Int) (s8 : Bool) (s9 : Int) (s10 : Int) (s11 : Bool) (s12 : Int) (s13 : Bool) (s14 : Int) (s15 : Int) (w : World) : Calls Tryd.prog 30 #[.agg #[.int .i64 s0, .int .i64 s1, .int .i64 s2, .int .i64 s3, .bool s4, .int .i64 s5, .int .i64 s6, .int .i64 s7, .bool s8, .int .i64 s9, .int .i64 s10, .bool s11, .int .i64 s12, .bool s13, .int .i64 s14, .int .i64 s15]] w fun e w' => e = .returned (.bool (multiB s0 s1)) ∧ Below w.heap.size w w' := by
  refine P.style_IsMulti.calls s0 s1 s2 s3 s4 s5 s6 s7 s8 s9 s10 s11 s12 s13 s14 s15 _ w ?_
  unfold P.style_IsMulti.f multiB
  by_cases h : s0 > 0
  · rw [if_pos h]; simp [h]
  · rw [if_neg h]; simp [h]
end Go.Proofs.YtjaoaakljcnmeaaDoor.G
