/- Chapter 6: what is told; how many fit. -/
import Derived.Test.YtjaoaakljcnmeaaDoorF2
namespace Go.Proofs.YtjaoaakljcnmeaaDoor.G
open Go.RowKit Go.Proofs.YtjaoaakljcnmeaaDoorW.PrintWords Go.Proofs.YtjaoaakljcnmeaaDoorW.PrintLast Go.Proofs.YtjaoaakljcnmeaaDoorW.PrintMore
attribute [local go_sem] max2_int min2_int

theorem told_nil (w : World) : Calls Tryd.prog 22 #[.nilIface] w fun e w' => e = .returned (.int .i64 0) ∧ Below w.heap.size w w' := by
  go_enter Tryd.func22, Tryd.ntmps22
  go_wp2_with (go_at_call 33; refine (as_nil _ _).mono ?_; rintro e w' ⟨rfl, rfl⟩)
  go_ret
  exact ⟨rfl, below_alloc (Below.refl _ _) _⟩
theorem told_wrong (n : Int) (w : World) (hG : GOK w) : Calls Tryd.prog 22 #[.iface 54 (.agg #[.int .i64 n])] w fun e w' => e = .returned (.int .i64 n) ∧ Below w.heap.size w w' := by
  have hg := Aside0.mk (pw_cell_below (below_alloc (Below.refl w.heap.size w) (.cells #[.int .i64 0] 54)) hG.1)
  go_enter Tryd.func22, Tryd.ntmps22
  go_wp2_with (go_at_call 33; refine (as_hit _ _ (.int .i64 0) _ hg.out (by simp) (by simp)).mono ?_; rintro e w' ⟨rfl, rfl⟩)
  go_ret
  exact ⟨rfl, below_alloc (below_alloc (below_alloc (below_alloc (below_alloc (Below.refl _ _) _) _) _) _) _⟩
/-- Is it from 0 to the greatest one? -/
def sizB (a : Int) : Bool := decide (0 ≤ a) && decide (a ≤ 1048576)
theorem sizB_iff (a : Int) : sizB a = true ↔ 0 ≤ a ∧ a ≤ 1048576 := by simp [sizB]
/-- How many fit. -/
def fitZ (a w g : Int) : Int := min (max ((a + g) / (w + g)) 1) 50
set_option maxRecDepth 100000 in
theorem fits_any (a n g : Int) (w : World) (ha : sizB a = true) (hn : sizB n = true) (hg : sizB g = true) (h0 : 0 < n + g) (hG : GOK w) :
    Calls Tryd.prog 25 #[.int .i64 a, .int .i64 n, .int .i64 g] w fun e w' => e = .returned (.int .i64 (fitZ a n g)) ∧ Below w.heap.size w w' := by
  rw [sizB_iff] at ha hn hg
  obtain ⟨a1, a2⟩ := ha
  obtain ⟨n1, n2⟩ := hn
  obtain ⟨g1, g2⟩ := hg
  have HC := Aside0.mk (div_ok (a + g) (n + g) w (by simp [lenB]; omega) (by omega) (by unfold r64; omega) hG)
  have HD := Aside0.mk (divZ_pos (a := a + g) (n := n + g) (by omega) h0)
  clear hG h0
  go_enter Tryd.func25, Tryd.ntmps25
  go_wp2_with (go_at_call 32; with_reducible refine HC.out.mono ?_; rintro e w1 ⟨rfl, hb⟩; have HB1 := Aside0.mk hb; clear hb; rw [HD.out])
  all_goals
    go_ret
    refine ⟨congrArg (fun x : Int => Ending.returned (.int .i64 x)) ?_, HB1.out⟩
    unfold fitZ
    generalize (a + g) / (n + g) = q at *
    omega
theorem fresh_C (w : World) (t : TypeId) (l : List Int) (hl : l.length ≤ 1000) : Kd.C (Kd.int .i64) (w.alloc (.cells (l.map (Value.int .i64)).toArray t)) (some ⟨w.heap.size, 0, none⟩) l.length l := by
  refine Kd.C_of_reads (d := (0 : Int)) (h1 := fun _ => rfl) ⟨rfl, by omega, fun _ => ⟨_, rfl, fun j hj => ?_⟩⟩
  rw [add_plain, World.cell?_alloc_new]
  simp [hj]
theorem sizes_all (l : List Int) (hl : l.length ≤ 1000) (d : Nat) : ∀ (k i : Nat), i ≤ l.length → l.length - i = d → d < k → P.used_areSizes.l0 k l l.length i = some ((l.drop i).all sizB) := by
  induction d with
  | zero =>
    intro k i hi hd hk
    obtain ⟨k, rfl⟩ : ∃ m, k = m + 1 := ⟨k - 1, by omega⟩
    rw [P.used_areSizes.l0, if_neg (by omega), List.drop_of_length_le (by omega)]
    rfl
  | succ d ih =>
    intro k i hi hd hk
    obtain ⟨k, rfl⟩ : ∃ m, k = m + 1 := ⟨k - 1, by omega⟩
    have e : rd l i = l[i] := by simp [rd, show i < l.length by omega]
    rw [P.used_areSizes.l0, if_pos (by omega), if_pos (by omega), if_pos (by omega), e, List.drop_eq_getElem_cons (by omega), List.all_cons]
    generalize l[i] = x
    by_cases h1 : x < 0
    · rw [if_pos h1]
      have : sizB x = false := by simp [sizB]; omega
      rw [this]; rfl
    · by_cases h2 : x > 1048576
      · rw [if_neg h1, if_pos h2]
        have : sizB x = false := by simp [sizB]; omega
        rw [this]; rfl
      · have : sizB x = true := (sizB_iff x).2 (by omega)
        have ew : wrap64 ((i : Int) + 1) = ((i + 1 : Nat) : Int) := by rw [i64_in (by omega) (by omega)]; omega
        rw [if_neg h1, if_neg h2, this, ew, ih k (i + 1) (by omega) (by omega) (by omega), Bool.true_and]
theorem sizes_any (A : Option Addr) (c : Nat) (l : List Int) (w : World) (hr : Kd.C (Kd.int .i64) w A l.length l) (hc : l.length ≤ c) (hl : l.length ≤ 1000) :
    Calls Tryd.prog 24 #[.slice A l.length c] w fun e w' => e = .returned (.bool (l.all sizB)) ∧ Below w.heap.size w w' := by
  refine (P.used_areSizes.calls (l.length + 1) A c l (l.all sizB) w hr hc (sizes_all l hl l.length (l.length + 1) 0 (by omega) (by omega) (by omega))).mono ?_
  rintro e w' ⟨rfl, hd⟩
  exact ⟨rfl, hd.below⟩
/-- How many fit, or that there is no telling. -/
def fitsZ (a n g : Int) : Int × Int := if ([a, n, g].all sizB && decide (0 < n + g)) = true then (fitZ a n g, 0) else (0, 60)
theorem Fits_any (a n g : Int) (w : World) (hG : GOK w) :
    Calls Tryd.prog 14 #[.int .i64 a, .int .i64 n, .int .i64 g] w fun e w' => e = .returned (.tuple #[.int .i64 (fitsZ a n g).1, .int .i64 (fitsZ a n g).2]) ∧ Below w.heap.size w w' := by
  have HS := Aside0.mk (show Calls Tryd.prog 24 #[.slice (some ⟨w.heap.size, 0, none⟩) 3 3] (w.alloc (.cells #[.int .i64 a, .int .i64 n, .int .i64 g] 2)) _ from sizes_any (some ⟨w.heap.size, 0, none⟩) 3 [a, n, g] (w.alloc (.cells #[.int .i64 a, .int .i64 n, .int .i64 g] 2)) (fresh_C w 2 [a, n, g] (by simp)) (Nat.le_refl _) (by simp))
  have HG := Aside0.mk hG
  clear hG
  unfold fitsZ
  by_cases hs : [a, n, g].all sizB = true
  · rw [hs] at HS ⊢
    simp only [List.all_cons, List.all_nil, Bool.and_true, Bool.and_eq_true] at hs
    obtain ⟨ha, hn, hg⟩ := hs
    have ia := (sizB_iff a).1 ha
    have in_ := (sizB_iff n).1 hn
    have ig := (sizB_iff g).1 hg
    obtain ⟨a1, a2⟩ := ia
    obtain ⟨n1, n2⟩ := in_
    obtain ⟨g1, g2⟩ := ig
    by_cases h0 : 0 < n + g
    · rw [if_pos (by simpa using h0)]
      have HF := Aside0.mk (fun w' => fits_any a n g w' ha hn hg h0)
      have hz : ((n + g) == 0) = false := by simp; omega
      clear ha hn hg
      go_enter Tryd.func14, Tryd.ntmps14
      go_wp2_with (first | (go_at_call 24; with_reducible refine HS.out.mono ?_; rintro e w1 ⟨rfl, hb⟩; have HB1 := Aside0.mk (below_step (below_alloc (Below.refl _ _) _) hb); clear hb) | (go_at_call 25; refine (HF.out _ (HG.out.below HB1.out)).mono ?_; rintro e w2 ⟨rfl, hb⟩; have HB2 := Aside0.mk (below_step HB1.out hb); clear hb))
      go_ret2
      exact ⟨rfl, HB2.out⟩
    · rw [if_neg (by simpa using h0)]
      have hz : ((n + g) == 0) = true := by simp; omega
      have hw : wrap64 (n + g) = n + g := i64_in (by omega) (by omega)
      clear ha hn hg
      go_enter Tryd.func14, Tryd.ntmps14
      go_wp2_with (first | (go_at_call 24; with_reducible refine HS.out.mono ?_; rintro e w1 ⟨rfl, hb⟩; have HB1 := Aside0.mk (below_step (below_alloc (Below.refl _ _) _) hb); clear hb) | (go_at_call 22; refine (told_wrong _ _ (HG.out.below HB1.out)).mono ?_; rintro e w2 ⟨rfl, hb⟩; have HB2 := Aside0.mk (below_step HB1.out hb); clear hb))
      go_ret2
      exact ⟨rfl, HB2.out⟩
  · have hs' := Bool.eq_false_iff.mpr hs
    rw [hs'] at HS ⊢
    rw [if_neg (by simp)]
    clear hs hs'
    go_enter Tryd.func14, Tryd.ntmps14
    go_wp2_with (first | (go_at_call 24; with_reducible refine HS.out.mono ?_; rintro e w1 ⟨rfl, hb⟩; have HB1 := Aside0.mk (below_step (below_alloc (Below.refl _ _) _) hb); clear hb) | (go_at_call 22; refine (told_wrong _ _ (HG.out.below HB1.out)).mono ?_; rintro e w2 ⟨rfl, hb⟩; have HB2 := Aside0.mk (below_step HB1.out hb); clear hb))
    go_ret2
    exact ⟨rfl, HB2.out⟩
def used_Fits.f (a0 : Int) (a1 : Int) (a2 : Int) : Option (Int × Int) := some (fitsZ a0 a1 a2)
theorem used_Fits.calls (a0 : Int) (a1 : Int) (a2 : Int) (r1 : Int) (r2 : Int) (w : World) (h : used_Fits.f a0 a1 a2 = some (r1, r2)) (hG : GOK w) :
    Calls Tryd.prog 14 #[.int .i64 a0, .int .i64 a1, .int .i64 a2] w fun e w' => e = .returned (.tuple #[.int .i64 r1, .int .i64 r2]) ∧ Below w.heap.size w w' := by
  have e := Option.some.inj h
  have h1 := Fits_any a0 a1 a2 w hG
  rw [e] at h1
  exact h1
end Go.Proofs.YtjaoaakljcnmeaaDoor.G
