/- Chapter 6: UsedWide, UsedSlack, for opaque styles. Written by mkK1.py. -/
import Derived.Test.YtjaoaakljcnmeaaDoorF14
namespace Go.Proofs.YtjaoaakljcnmeaaDoor.G
open Go.RowKit Go.Proofs.YtjaoaakljcnmeaaDoorW.PrintWords Go.Proofs.YtjaoaakljcnmeaaDoorW.PrintLast Go.Proofs.YtjaoaakljcnmeaaDoorW.PrintMore

theorem head_true (w : World) (hG : GOK w) : Calls Tryd.prog 10 #[] w fun x w' => x = .returned (.bool true) ∧ Below w.heap.size w w' := gutterlaw06_shown.calls true w rfl hG
set_option maxRecDepth 1000000 in
set_option maxHeartbeats 4000000 in
theorem UsedWide_walk (S : Array Value) (av n wd e s0 s1 : Int) (w : World) (hS : S.size = 16) (h0 : S[0]? = some (.int .i64 s0)) (h1 : S[1]? = some (.int .i64 s1)) (hU : ∀ w' : World, GOK w' → Calls Tryd.prog 11 #[.int .i64 av, .agg S] w' fun x w'' => x = .returned (.tuple #[.int .i64 n, .int .i64 wd, .int .i64 e]) ∧ Below w'.heap.size w' w'')
    (hgood : e = 0 → (s0 = 0 ∨ s0 ≠ 0 ∧ n ≤ s0) ∧ ((s1 = 0 ∧ n = s0) ∨ (0 < s1 ∧ n = 1) ∨ (0 < s1 ∧ n ≠ 1 ∧ s1 ≤ wd))) (hG : GOK w) :
    Calls Tryd.prog 4 #[.int .i64 av, .agg S] w fun x w' => x = .returned (.bool true) ∧ Below w.heap.size w w' := by
  have HU := Aside0.mk hU
  have HS := Aside0.mk hS
  have H0 := Aside0.mk h0
  have H1 := Aside0.mk h1
  have HG := Aside0.mk hG
  have b0 := Aside0.mk (blk_new w (.cells S 23))
  have B0 := Aside0.mk (below_alloc (Below.refl w.heap.size w) (.cells S 23))
  clear hU hS hG h0 h1
  by_cases he : e = 0
  · obtain ⟨hA, hB⟩ := hgood he
    clear hgood
    have he1 : (e != 0) = false := bne_eq_false_iff_eq.mpr he
    clear he
    rcases hA with k1 | ⟨k1, k2⟩
    · rcases hB with ⟨k3, k4⟩ | ⟨k3, k4⟩ | ⟨k3, k4, k5⟩
      · have f1 : (s0 == 0) = true := beq_iff_eq.mpr k1
        have f3 : (s1 == 0) = true := beq_iff_eq.mpr k3
        have f4 : decide (0 < s1) = false := decide_eq_false (show ¬ 0 < s1 by omega)
        have f5 : (n == s0) = true := beq_iff_eq.mpr k4
        clear k1 k3 k4
        go_enter Tryd.func4, Tryd.ntmps4
        go_wp2_with (first | (go_at_call 10; refine (head_true _ (HG.out.below B0.out)).mono ?_; rintro e w1 ⟨rfl, hb⟩; have b1 := Aside0.mk (blk_below b0.out hb); have B1 := Aside0.mk (below_then B0.out B0.out.size hb); clear hb b0) | (refine load23w_at rfl _ rfl w.heap.size rfl S HS.out b1.out ?_) | (go_at_call 11; refine (HU.out _ (HG.out.below B1.out)).mono ?_; rintro e w2 ⟨rfl, hb⟩; have b2 := blk_below b1.out hb; have c0 := (blk_cell b2 0).trans H0.out; have c1 := (blk_cell b2 1).trans H1.out; have B2 := Aside0.mk (below_then B1.out B1.out.size hb); clear hb b1 b2))
        go_ret
        exact ⟨rfl, B2.out⟩
      · have f1 : (s0 == 0) = true := beq_iff_eq.mpr k1
        have f3 : (s1 == 0) = false := beq_eq_false_iff_ne.mpr (show s1 ≠ 0 by omega)
        have f4 : decide (0 < s1) = true := decide_eq_true k3
        have f5 : (n == 1) = true := beq_iff_eq.mpr k4
        clear k1 k3 k4
        go_enter Tryd.func4, Tryd.ntmps4
        go_wp2_with (first | (go_at_call 10; refine (head_true _ (HG.out.below B0.out)).mono ?_; rintro e w1 ⟨rfl, hb⟩; have b1 := Aside0.mk (blk_below b0.out hb); have B1 := Aside0.mk (below_then B0.out B0.out.size hb); clear hb b0) | (refine load23w_at rfl _ rfl w.heap.size rfl S HS.out b1.out ?_) | (go_at_call 11; refine (HU.out _ (HG.out.below B1.out)).mono ?_; rintro e w2 ⟨rfl, hb⟩; have b2 := blk_below b1.out hb; have c0 := (blk_cell b2 0).trans H0.out; have c1 := (blk_cell b2 1).trans H1.out; have B2 := Aside0.mk (below_then B1.out B1.out.size hb); clear hb b1 b2))
        go_ret
        exact ⟨rfl, B2.out⟩
      · have f1 : (s0 == 0) = true := beq_iff_eq.mpr k1
        have f3 : (s1 == 0) = false := beq_eq_false_iff_ne.mpr (show s1 ≠ 0 by omega)
        have f4 : decide (0 < s1) = true := decide_eq_true k3
        have f5 : (n == 1) = false := beq_eq_false_iff_ne.mpr k4
        have f6 : decide (s1 ≤ wd) = true := decide_eq_true k5
        clear k1 k3 k4 k5
        go_enter Tryd.func4, Tryd.ntmps4
        go_wp2_with (first | (go_at_call 10; refine (head_true _ (HG.out.below B0.out)).mono ?_; rintro e w1 ⟨rfl, hb⟩; have b1 := Aside0.mk (blk_below b0.out hb); have B1 := Aside0.mk (below_then B0.out B0.out.size hb); clear hb b0) | (refine load23w_at rfl _ rfl w.heap.size rfl S HS.out b1.out ?_) | (go_at_call 11; refine (HU.out _ (HG.out.below B1.out)).mono ?_; rintro e w2 ⟨rfl, hb⟩; have b2 := blk_below b1.out hb; have c0 := (blk_cell b2 0).trans H0.out; have c1 := (blk_cell b2 1).trans H1.out; have B2 := Aside0.mk (below_then B1.out B1.out.size hb); clear hb b1 b2))
        go_ret
        exact ⟨rfl, B2.out⟩
    · rcases hB with ⟨k3, k4⟩ | ⟨k3, k4⟩ | ⟨k3, k4, k5⟩
      · have f1 : (s0 == 0) = false := beq_eq_false_iff_ne.mpr k1
        have f2 : decide (n ≤ s0) = true := decide_eq_true k2
        have f3 : (s1 == 0) = true := beq_iff_eq.mpr k3
        have f4 : decide (0 < s1) = false := decide_eq_false (show ¬ 0 < s1 by omega)
        have f5 : (n == s0) = true := beq_iff_eq.mpr k4
        clear k1 k2 k3 k4
        go_enter Tryd.func4, Tryd.ntmps4
        go_wp2_with (first | (go_at_call 10; refine (head_true _ (HG.out.below B0.out)).mono ?_; rintro e w1 ⟨rfl, hb⟩; have b1 := Aside0.mk (blk_below b0.out hb); have B1 := Aside0.mk (below_then B0.out B0.out.size hb); clear hb b0) | (refine load23w_at rfl _ rfl w.heap.size rfl S HS.out b1.out ?_) | (go_at_call 11; refine (HU.out _ (HG.out.below B1.out)).mono ?_; rintro e w2 ⟨rfl, hb⟩; have b2 := blk_below b1.out hb; have c0 := (blk_cell b2 0).trans H0.out; have c1 := (blk_cell b2 1).trans H1.out; have B2 := Aside0.mk (below_then B1.out B1.out.size hb); clear hb b1 b2))
        go_ret
        exact ⟨rfl, B2.out⟩
      · have f1 : (s0 == 0) = false := beq_eq_false_iff_ne.mpr k1
        have f2 : decide (n ≤ s0) = true := decide_eq_true k2
        have f3 : (s1 == 0) = false := beq_eq_false_iff_ne.mpr (show s1 ≠ 0 by omega)
        have f4 : decide (0 < s1) = true := decide_eq_true k3
        have f5 : (n == 1) = true := beq_iff_eq.mpr k4
        clear k1 k2 k3 k4
        go_enter Tryd.func4, Tryd.ntmps4
        go_wp2_with (first | (go_at_call 10; refine (head_true _ (HG.out.below B0.out)).mono ?_; rintro e w1 ⟨rfl, hb⟩; have b1 := Aside0.mk (blk_below b0.out hb); have B1 := Aside0.mk (below_then B0.out B0.out.size hb); clear hb b0) | (refine load23w_at rfl _ rfl w.heap.size rfl S HS.out b1.out ?_) | (go_at_call 11; refine (HU.out _ (HG.out.below B1.out)).mono ?_; rintro e w2 ⟨rfl, hb⟩; have b2 := blk_below b1.out hb; have c0 := (blk_cell b2 0).trans H0.out; have c1 := (blk_cell b2 1).trans H1.out; have B2 := Aside0.mk (below_then B1.out B1.out.size hb); clear hb b1 b2))
        go_ret
        exact ⟨rfl, B2.out⟩
      · have f1 : (s0 == 0) = false := beq_eq_false_iff_ne.mpr k1
        have f2 : decide (n ≤ s0) = true := decide_eq_true k2
        have f3 : (s1 == 0) = false := beq_eq_false_iff_ne.mpr (show s1 ≠ 0 by omega)
        have f4 : decide (0 < s1) = true := decide_eq_true k3
        have f5 : (n == 1) = false := beq_eq_false_iff_ne.mpr k4
        have f6 : decide (s1 ≤ wd) = true := decide_eq_true k5
        clear k1 k2 k3 k4 k5
        go_enter Tryd.func4, Tryd.ntmps4
        go_wp2_with (first | (go_at_call 10; refine (head_true _ (HG.out.below B0.out)).mono ?_; rintro e w1 ⟨rfl, hb⟩; have b1 := Aside0.mk (blk_below b0.out hb); have B1 := Aside0.mk (below_then B0.out B0.out.size hb); clear hb b0) | (refine load23w_at rfl _ rfl w.heap.size rfl S HS.out b1.out ?_) | (go_at_call 11; refine (HU.out _ (HG.out.below B1.out)).mono ?_; rintro e w2 ⟨rfl, hb⟩; have b2 := blk_below b1.out hb; have c0 := (blk_cell b2 0).trans H0.out; have c1 := (blk_cell b2 1).trans H1.out; have B2 := Aside0.mk (below_then B1.out B1.out.size hb); clear hb b1 b2))
        go_ret
        exact ⟨rfl, B2.out⟩
  · clear hgood
    have he1 : (e != 0) = true := bne_iff_ne.mpr he
    clear he
    go_enter Tryd.func4, Tryd.ntmps4
    go_wp2_with (first | (go_at_call 10; refine (head_true _ (HG.out.below B0.out)).mono ?_; rintro e w1 ⟨rfl, hb⟩; have b1 := Aside0.mk (blk_below b0.out hb); have B1 := Aside0.mk (below_then B0.out B0.out.size hb); clear hb b0) | (refine load23w_at rfl _ rfl w.heap.size rfl S HS.out b1.out ?_) | (go_at_call 11; refine (HU.out _ (HG.out.below B1.out)).mono ?_; rintro e w2 ⟨rfl, hb⟩; have b2 := blk_below b1.out hb; have c0 := (blk_cell b2 0).trans H0.out; have c1 := (blk_cell b2 1).trans H1.out; have B2 := Aside0.mk (below_then B1.out B1.out.size hb); clear hb b1 b2))
    go_ret
    exact ⟨rfl, B2.out⟩
set_option maxRecDepth 1000000 in
set_option maxHeartbeats 4000000 in
theorem UsedSlack_walk (S : Array Value) (av n wd e a f : Int) (w : World) (hS : S.size = 16) (hU : ∀ w' : World, GOK w' → Calls Tryd.prog 11 #[.int .i64 av, .agg S] w' fun x w'' => x = .returned (.tuple #[.int .i64 n, .int .i64 wd, .int .i64 e]) ∧ Below w'.heap.size w' w'')
    (hV : ∀ w' : World, GOK w' → Calls Tryd.prog 18 #[.int .i64 av, .agg S] w' fun x w'' => x = .returned (.tuple #[.int .i64 a, .int .i64 f]) ∧ Below w'.heap.size w' w'')
    (hbad : e ≠ 0 → f = e ∧ n = 0 ∧ wd = 0) (hgood : e = 0 → f = 0 ∧ 1 ≤ n ∧ n ≤ 50 ∧ 0 ≤ wd ∧ a < n ∧ (0 ≤ a ∨ a < 0 ∧ wd = 0)) (hG : GOK w) :
    Calls Tryd.prog 9 #[.int .i64 av, .agg S] w fun x w' => x = .returned (.bool true) ∧ Below w.heap.size w w' := by
  have HV := Aside0.mk hV
  clear hV
  have HU := Aside0.mk hU
  have HS := Aside0.mk hS
  have HG := Aside0.mk hG
  have b0 := Aside0.mk (blk_new w (.cells S 23))
  have B0 := Aside0.mk (below_alloc (Below.refl w.heap.size w) (.cells S 23))
  clear hU hS hG
  by_cases he : e = 0
  · obtain ⟨rfl, g1, g2, g3, g4, g5⟩ := hgood he
    subst he
    clear hgood hbad
    have f1 : decide (1 ≤ n) = true := decide_eq_true g1
    have f2 : decide (n ≤ 50) = true := decide_eq_true g2
    have f3 : decide (0 ≤ wd) = true := decide_eq_true g3
    have f4 : decide (a < n) = true := decide_eq_true g4
    clear g1 g2 g3 g4
    rcases g5 with g5 | ⟨g5, rfl⟩
    · have f5 : decide (0 ≤ a) = true := decide_eq_true g5
      clear g5
      go_enter Tryd.func9, Tryd.ntmps9
      go_wp2_with (first | (go_at_call 10; refine (head_true _ (HG.out.below B0.out)).mono ?_; rintro e w1 ⟨rfl, hb⟩; have b1 := Aside0.mk (blk_below b0.out hb); have B1 := Aside0.mk (below_then B0.out B0.out.size hb); clear hb b0) | (refine load23w_at rfl _ rfl w.heap.size rfl S HS.out (by first | exact b3.out | exact b2.out | exact b1.out) ?_) | (go_at_call 18; refine (HV.out _ (HG.out.below B2.out)).mono ?_; rintro e w3 ⟨rfl, hb⟩; have b3 := Aside0.mk (blk_below b2.out hb); have B3 := Aside0.mk (below_then B2.out B2.out.size hb); clear hb b2) | (go_at_call 11; refine (HU.out _ (HG.out.below B1.out)).mono ?_; rintro e w2 ⟨rfl, hb⟩; have b2 := Aside0.mk (blk_below b1.out hb); have B2 := Aside0.mk (below_then B1.out B1.out.size hb); clear hb b1))
      go_ret
      exact ⟨rfl, B3.out⟩
    · have f5 : decide (0 ≤ a) = false := decide_eq_false (by omega)
      clear g5
      go_enter Tryd.func9, Tryd.ntmps9
      go_wp2_with (first | (go_at_call 10; refine (head_true _ (HG.out.below B0.out)).mono ?_; rintro e w1 ⟨rfl, hb⟩; have b1 := Aside0.mk (blk_below b0.out hb); have B1 := Aside0.mk (below_then B0.out B0.out.size hb); clear hb b0) | (refine load23w_at rfl _ rfl w.heap.size rfl S HS.out (by first | exact b3.out | exact b2.out | exact b1.out) ?_) | (go_at_call 18; refine (HV.out _ (HG.out.below B2.out)).mono ?_; rintro e w3 ⟨rfl, hb⟩; have b3 := Aside0.mk (blk_below b2.out hb); have B3 := Aside0.mk (below_then B2.out B2.out.size hb); clear hb b2) | (go_at_call 11; refine (HU.out _ (HG.out.below B1.out)).mono ?_; rintro e w2 ⟨rfl, hb⟩; have b2 := Aside0.mk (blk_below b1.out hb); have B2 := Aside0.mk (below_then B1.out B1.out.size hb); clear hb b1))
      go_ret
      exact ⟨rfl, B3.out⟩
  · obtain ⟨rfl, rfl, rfl⟩ := hbad he
    have f1 : (f != 0) = true := bne_iff_ne.mpr he
    clear hgood hbad he
    go_enter Tryd.func9, Tryd.ntmps9
    go_wp2_with (first | (go_at_call 10; refine (head_true _ (HG.out.below B0.out)).mono ?_; rintro e w1 ⟨rfl, hb⟩; have b1 := Aside0.mk (blk_below b0.out hb); have B1 := Aside0.mk (below_then B0.out B0.out.size hb); clear hb b0) | (refine load23w_at rfl _ rfl w.heap.size rfl S HS.out (by first | exact b3.out | exact b2.out | exact b1.out) ?_) | (go_at_call 18; refine (HV.out _ (HG.out.below B2.out)).mono ?_; rintro e w3 ⟨rfl, hb⟩; have b3 := Aside0.mk (blk_below b2.out hb); have B3 := Aside0.mk (below_then B2.out B2.out.size hb); clear hb b2) | (go_at_call 11; refine (HU.out _ (HG.out.below B1.out)).mono ?_; rintro e w2 ⟨rfl, hb⟩; have b2 := Aside0.mk (blk_below b1.out hb); have B2 := Aside0.mk (below_then B1.out B1.out.size hb); clear hb b1))
    go_ret
    exact ⟨rfl, B3.out⟩
set_option maxRecDepth 1000000 in
set_option maxHeartbeats 4000000 in
theorem UsedLefts_walk (S : Array Value) (av i n wd e a f b g gap : Int) (w : World) (hS : S.size = 16) (h2 : S[2]? = some (.int .i64 gap)) (hU : ∀ w' : World, GOK w' → Calls Tryd.prog 11 #[.int .i64 av, .agg S] w' fun x w'' => x = .returned (.tuple #[.int .i64 n, .int .i64 wd, .int .i64 e]) ∧ Below w'.heap.size w' w'')
    (hV : ∀ w' : World, GOK w' → Calls Tryd.prog 12 #[.int .i64 av, .agg S, .int .i64 i] w' fun x w'' => x = .returned (.tuple #[.int .i64 a, .int .i64 f]) ∧ Below w'.heap.size w' w'')
    (hW : ∀ w' : World, GOK w' → Calls Tryd.prog 12 #[.int .i64 av, .agg S, .int .i64 0] w' fun x w'' => x = .returned (.tuple #[.int .i64 b, .int .i64 g]) ∧ Below w'.heap.size w' w'')
    (hbad : e ≠ 0 → f = e ∧ g = e) (hgood : e = 0 → (i < 0 ∧ f = 2) ∨ (1000 < i ∧ f = 2) ∨ (0 ≤ i ∧ i ≤ 1000 ∧ f = 0 ∧ g = 0 ∧ b = 0 ∧ a = wrap64 (i * wrap64 (wd + gap)))) (hG : GOK w) :
    Calls Tryd.prog 5 #[.int .i64 av, .agg S, .int .i64 i] w fun x w' => x = .returned (.bool true) ∧ Below w.heap.size w w' := by
  have HV := Aside0.mk hV
  have HW := Aside0.mk hW
  have H2 := Aside0.mk h2
  clear hV hW h2
  have HU := Aside0.mk hU
  have HS := Aside0.mk hS
  have HG := Aside0.mk hG
  have b0 := Aside0.mk (blk_new w (.cells S 23))
  have B0 := Aside0.mk (below_alloc (Below.refl w.heap.size w) (.cells S 23))
  clear hU hS hG
  by_cases he : e = 0
  · have hg0 := hgood he
    clear hbad hgood
    subst he
    rcases hg0 with ⟨g1, rfl⟩ | ⟨g1, rfl⟩ | ⟨g1, g2, rfl, rfl, rfl, g3⟩
    · have f1 : decide (i < 0) = true := decide_eq_true g1
      clear g1
      go_enter Tryd.func5, Tryd.ntmps5
      go_wp2_with (first | (go_at_call 10; refine (head_true _ (HG.out.below B0.out)).mono ?_; rintro e w1 ⟨rfl, hb⟩; have b1 := Aside0.mk (blk_below b0.out hb); have B1 := Aside0.mk (below_then B0.out B0.out.size hb); clear hb b0) | (refine load23w_at rfl _ rfl w.heap.size rfl S HS.out (by first | exact b4.out | exact b3.out | exact b2.out | exact b1.out) ?_) | (go_at_call 12; refine (HW.out _ (HG.out.below B3.out)).mono ?_; rintro e w4 ⟨rfl, hb⟩; have b4 := Aside0.mk (blk_below b3.out hb); have B4 := Aside0.mk (below_then B3.out B3.out.size hb); have c2 := (blk_cell b4.out 2).trans H2.out; clear hb b3) | (go_at_call 12; refine (HV.out _ (HG.out.below B2.out)).mono ?_; rintro e w3 ⟨rfl, hb⟩; have b3 := Aside0.mk (blk_below b2.out hb); have B3 := Aside0.mk (below_then B2.out B2.out.size hb); clear hb b2) | (go_at_call 11; refine (HU.out _ (HG.out.below B1.out)).mono ?_; rintro e w2 ⟨rfl, hb⟩; have b2 := Aside0.mk (blk_below b1.out hb); have B2 := Aside0.mk (below_then B1.out B1.out.size hb); clear hb b1))
      go_ret
      exact ⟨rfl, B4.out⟩
    · have f1 : decide (i < 0) = false := decide_eq_false (by omega)
      have f2 : decide (1000 < i) = true := decide_eq_true g1
      clear g1
      go_enter Tryd.func5, Tryd.ntmps5
      go_wp2_with (first | (go_at_call 10; refine (head_true _ (HG.out.below B0.out)).mono ?_; rintro e w1 ⟨rfl, hb⟩; have b1 := Aside0.mk (blk_below b0.out hb); have B1 := Aside0.mk (below_then B0.out B0.out.size hb); clear hb b0) | (refine load23w_at rfl _ rfl w.heap.size rfl S HS.out (by first | exact b4.out | exact b3.out | exact b2.out | exact b1.out) ?_) | (go_at_call 12; refine (HW.out _ (HG.out.below B3.out)).mono ?_; rintro e w4 ⟨rfl, hb⟩; have b4 := Aside0.mk (blk_below b3.out hb); have B4 := Aside0.mk (below_then B3.out B3.out.size hb); have c2 := (blk_cell b4.out 2).trans H2.out; clear hb b3) | (go_at_call 12; refine (HV.out _ (HG.out.below B2.out)).mono ?_; rintro e w3 ⟨rfl, hb⟩; have b3 := Aside0.mk (blk_below b2.out hb); have B3 := Aside0.mk (below_then B2.out B2.out.size hb); clear hb b2) | (go_at_call 11; refine (HU.out _ (HG.out.below B1.out)).mono ?_; rintro e w2 ⟨rfl, hb⟩; have b2 := Aside0.mk (blk_below b1.out hb); have B2 := Aside0.mk (below_then B1.out B1.out.size hb); clear hb b1))
      go_ret
      exact ⟨rfl, B4.out⟩
    · have f1 : decide (i < 0) = false := decide_eq_false (by omega)
      have f2 : decide (1000 < i) = false := decide_eq_false (by omega)
      have f3 : (a == wrap64 (i * wrap64 (wd + gap))) = true := beq_iff_eq.mpr g3
      clear g1 g2 g3
      go_enter Tryd.func5, Tryd.ntmps5
      go_wp2_with (first | (go_at_call 10; refine (head_true _ (HG.out.below B0.out)).mono ?_; rintro e w1 ⟨rfl, hb⟩; have b1 := Aside0.mk (blk_below b0.out hb); have B1 := Aside0.mk (below_then B0.out B0.out.size hb); clear hb b0) | (refine load23w_at rfl _ rfl w.heap.size rfl S HS.out (by first | exact b4.out | exact b3.out | exact b2.out | exact b1.out) ?_) | (go_at_call 12; refine (HW.out _ (HG.out.below B3.out)).mono ?_; rintro e w4 ⟨rfl, hb⟩; have b4 := Aside0.mk (blk_below b3.out hb); have B4 := Aside0.mk (below_then B3.out B3.out.size hb); have c2 := (blk_cell b4.out 2).trans H2.out; clear hb b3) | (go_at_call 12; refine (HV.out _ (HG.out.below B2.out)).mono ?_; rintro e w3 ⟨rfl, hb⟩; have b3 := Aside0.mk (blk_below b2.out hb); have B3 := Aside0.mk (below_then B2.out B2.out.size hb); clear hb b2) | (go_at_call 11; refine (HU.out _ (HG.out.below B1.out)).mono ?_; rintro e w2 ⟨rfl, hb⟩; have b2 := Aside0.mk (blk_below b1.out hb); have B2 := Aside0.mk (below_then B1.out B1.out.size hb); clear hb b1))
      go_ret
      exact ⟨rfl, B4.out⟩
  · obtain ⟨rfl, rfl⟩ := hbad he
    have f1 : (g != 0) = true := bne_iff_ne.mpr he
    clear hgood hbad he
    go_enter Tryd.func5, Tryd.ntmps5
    go_wp2_with (first | (go_at_call 10; refine (head_true _ (HG.out.below B0.out)).mono ?_; rintro e w1 ⟨rfl, hb⟩; have b1 := Aside0.mk (blk_below b0.out hb); have B1 := Aside0.mk (below_then B0.out B0.out.size hb); clear hb b0) | (refine load23w_at rfl _ rfl w.heap.size rfl S HS.out (by first | exact b4.out | exact b3.out | exact b2.out | exact b1.out) ?_) | (go_at_call 12; refine (HW.out _ (HG.out.below B3.out)).mono ?_; rintro e w4 ⟨rfl, hb⟩; have b4 := Aside0.mk (blk_below b3.out hb); have B4 := Aside0.mk (below_then B3.out B3.out.size hb); have c2 := (blk_cell b4.out 2).trans H2.out; clear hb b3) | (go_at_call 12; refine (HV.out _ (HG.out.below B2.out)).mono ?_; rintro e w3 ⟨rfl, hb⟩; have b3 := Aside0.mk (blk_below b2.out hb); have B3 := Aside0.mk (below_then B2.out B2.out.size hb); clear hb b2) | (go_at_call 11; refine (HU.out _ (HG.out.below B1.out)).mono ?_; rintro e w2 ⟨rfl, hb⟩; have b2 := Aside0.mk (blk_below b1.out hb); have B2 := Aside0.mk (below_then B1.out B1.out.size hb); clear hb b1))
    go_ret
    exact ⟨rfl, B4.out⟩
end Go.Proofs.YtjaoaakljcnmeaaDoor.G
