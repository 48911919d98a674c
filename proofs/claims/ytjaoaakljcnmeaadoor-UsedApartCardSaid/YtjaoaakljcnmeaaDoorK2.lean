/- Chapter 6: UsedApart, UsedTells, for opaque styles. Written by mkK2.py. -/
import Derived.Test.YtjaoaakljcnmeaaDoorK1
namespace Go.Proofs.YtjaoaakljcnmeaaDoor.G
open Go.RowKit Go.Proofs.YtjaoaakljcnmeaaDoorW.PrintWords Go.Proofs.YtjaoaakljcnmeaaDoorW.PrintLast Go.Proofs.YtjaoaakljcnmeaaDoorW.PrintMore

set_option maxRecDepth 1000000 in
set_option maxHeartbeats 4000000 in
theorem UsedApart_early (S : Array Value) (av i n wd e : Int) (w : World) (hS : S.size = 16) (hU : ∀ w' : World, GOK w' → Calls Tryd.prog 11 #[.int .i64 av, .agg S] w' fun x w'' => x = .returned (.tuple #[.int .i64 n, .int .i64 wd, .int .i64 e]) ∧ Below w'.heap.size w' w'')
    (hq : e ≠ 0 ∨ (e = 0 ∧ i < 0) ∨ (e = 0 ∧ 0 ≤ i ∧ n ≤ i)) (hG : GOK w) :
    Calls Tryd.prog 3 #[.int .i64 av, .agg S, .int .i64 i] w fun x w' => x = .returned (.bool true) ∧ Below w.heap.size w w' := by
  have HU := Aside0.mk hU
  have HS := Aside0.mk hS
  have HG := Aside0.mk hG
  have b0 := Aside0.mk (blk_new w (.cells S 23))
  have B0 := Aside0.mk (below_alloc (Below.refl w.heap.size w) (.cells S 23))
  clear hU hS hG
  rcases hq with h | ⟨rfl, h⟩ | ⟨rfl, h, h'⟩
  · have f1 : (e != 0) = true := bne_iff_ne.mpr h
    clear h
    go_enter Tryd.func3, Tryd.ntmps3
    go_wp2_with (first | (go_at_call 10; refine (head_true _ (HG.out.below B0.out)).mono ?_; rintro e w1 ⟨rfl, hb⟩; have b1 := Aside0.mk (blk_below b0.out hb); have B1 := Aside0.mk (below_then B0.out B0.out.size hb); clear hb b0) | (refine load23w_at rfl _ rfl w.heap.size rfl S HS.out (by first | exact b2.out | exact b1.out) ?_) | (go_at_call 11; refine (HU.out _ (HG.out.below B1.out)).mono ?_; rintro e w2 ⟨rfl, hb⟩; have b2 := Aside0.mk (blk_below b1.out hb); have B2 := Aside0.mk (below_then B1.out B1.out.size hb); clear hb b1))
    go_ret
    exact ⟨rfl, B2.out⟩
  · have f1 : decide (i < 0) = true := decide_eq_true h
    clear h
    go_enter Tryd.func3, Tryd.ntmps3
    go_wp2_with (first | (go_at_call 10; refine (head_true _ (HG.out.below B0.out)).mono ?_; rintro e w1 ⟨rfl, hb⟩; have b1 := Aside0.mk (blk_below b0.out hb); have B1 := Aside0.mk (below_then B0.out B0.out.size hb); clear hb b0) | (refine load23w_at rfl _ rfl w.heap.size rfl S HS.out (by first | exact b2.out | exact b1.out) ?_) | (go_at_call 11; refine (HU.out _ (HG.out.below B1.out)).mono ?_; rintro e w2 ⟨rfl, hb⟩; have b2 := Aside0.mk (blk_below b1.out hb); have B2 := Aside0.mk (below_then B1.out B1.out.size hb); clear hb b1))
    go_ret
    exact ⟨rfl, B2.out⟩
  · have f1 : decide (i < 0) = false := decide_eq_false (by omega)
    have f2 : decide (n ≤ i) = true := decide_eq_true h'
    clear h h'
    go_enter Tryd.func3, Tryd.ntmps3
    go_wp2_with (first | (go_at_call 10; refine (head_true _ (HG.out.below B0.out)).mono ?_; rintro e w1 ⟨rfl, hb⟩; have b1 := Aside0.mk (blk_below b0.out hb); have B1 := Aside0.mk (below_then B0.out B0.out.size hb); clear hb b0) | (refine load23w_at rfl _ rfl w.heap.size rfl S HS.out (by first | exact b2.out | exact b1.out) ?_) | (go_at_call 11; refine (HU.out _ (HG.out.below B1.out)).mono ?_; rintro e w2 ⟨rfl, hb⟩; have b2 := Aside0.mk (blk_below b1.out hb); have B2 := Aside0.mk (below_then B1.out B1.out.size hb); clear hb b1))
    go_ret
    exact ⟨rfl, B2.out⟩
set_option maxRecDepth 1000000 in
set_option maxHeartbeats 4000000 in
theorem UsedApart_walk (S : Array Value) (av i n wd a b at' last gap : Int) (ok is : Bool) (w : World) (hS : S.size = 16) (h2 : S[2]? = some (.int .i64 gap)) (hU : ∀ w' : World, GOK w' → Calls Tryd.prog 11 #[.int .i64 av, .agg S] w' fun x w'' => x = .returned (.tuple #[.int .i64 n, .int .i64 wd, .int .i64 0]) ∧ Below w'.heap.size w' w'')
    (hA : ∀ w' : World, GOK w' → Calls Tryd.prog 12 #[.int .i64 av, .agg S, .int .i64 i] w' fun x w'' => x = .returned (.tuple #[.int .i64 a, .int .i64 0]) ∧ Below w'.heap.size w' w'')
    (hB : ∀ w' : World, GOK w' → Calls Tryd.prog 12 #[.int .i64 av, .agg S, .int .i64 (wrap64 (i + 1))] w' fun x w'' => x = .returned (.tuple #[.int .i64 b, .int .i64 0]) ∧ Below w'.heap.size w' w'')
    (hC : ∀ w' : World, GOK w' → Calls Tryd.prog 13 #[.int .i64 av, .agg S, .int .i64 a] w' fun x w'' => x = .returned (.tuple #[.int .i64 at', .bool ok, .int .i64 0]) ∧ Below w'.heap.size w' w'')
    (hD : ∀ w' : World, GOK w' → Calls Tryd.prog 13 #[.int .i64 av, .agg S, .int .i64 (wrap64 (wrap64 (a + wd) - 1))] w' fun x w'' => x = .returned (.tuple #[.int .i64 last, .bool is, .int .i64 0]) ∧ Below w'.heap.size w' w'')
    (hi : 0 ≤ i ∧ i < n) (hgood : (wd = 0 ∧ ok = false ∧ wrap64 (b - a) = gap) ∨ (wd ≠ 0 ∧ ok = true ∧ at' = i ∧ is = true ∧ last = i ∧ wrap64 (b - a) = wrap64 (wd + gap))) (hG : GOK w) :
    Calls Tryd.prog 3 #[.int .i64 av, .agg S, .int .i64 i] w fun x w' => x = .returned (.bool true) ∧ Below w.heap.size w w' := by
  have HA := Aside0.mk hA
  have HB := Aside0.mk hB
  have HC := Aside0.mk hC
  have HD := Aside0.mk hD
  have H2 := Aside0.mk h2
  clear hA hB hC hD h2
  have HU := Aside0.mk hU
  have HS := Aside0.mk hS
  have HG := Aside0.mk hG
  have b0 := Aside0.mk (blk_new w (.cells S 23))
  have B0 := Aside0.mk (below_alloc (Below.refl w.heap.size w) (.cells S 23))
  clear hU hS hG
  have f1 : decide (i < 0) = false := decide_eq_false (by omega)
  have f2 : decide (n ≤ i) = false := decide_eq_false (by omega)
  clear hi
  rcases hgood with ⟨h, rfl, h'⟩ | ⟨h, rfl, rfl, rfl, rfl, h'⟩
  · have f3 : (wd == 0) = true := beq_iff_eq.mpr h
    have f4 : (wrap64 (b - a) == gap) = true := beq_iff_eq.mpr h'
    clear h h'
    go_enter Tryd.func3, Tryd.ntmps3
    go_wp2_with (first | (go_at_call 10; refine (head_true _ (HG.out.below B0.out)).mono ?_; rintro e w1 ⟨rfl, hb⟩; have b1 := Aside0.mk (blk_below b0.out hb); have B1 := Aside0.mk (below_then B0.out B0.out.size hb); clear hb b0) | (refine load23w_at rfl _ rfl w.heap.size rfl S HS.out (by first | exact b6.out | exact b5.out | exact b4.out | exact b3.out | exact b2.out | exact b1.out) ?_) | (go_at_call 13; refine (HD.out _ (HG.out.below B5.out)).mono ?_; rintro e w6 ⟨rfl, hb⟩; have b6 := Aside0.mk (blk_below b5.out hb); have B6 := Aside0.mk (below_then B5.out B5.out.size hb); have c2 := (blk_cell b6.out 2).trans H2.out; clear hb b5) | (go_at_call 13; refine (HC.out _ (HG.out.below B4.out)).mono ?_; rintro e w5 ⟨rfl, hb⟩; have b5 := Aside0.mk (blk_below b4.out hb); have B5 := Aside0.mk (below_then B4.out B4.out.size hb); clear hb b4) | (go_at_call 12; refine (HB.out _ (HG.out.below B3.out)).mono ?_; rintro e w4 ⟨rfl, hb⟩; have b4 := Aside0.mk (blk_below b3.out hb); have B4 := Aside0.mk (below_then B3.out B3.out.size hb); clear hb b3) | (go_at_call 12; refine (HA.out _ (HG.out.below B2.out)).mono ?_; rintro e w3 ⟨rfl, hb⟩; have b3 := Aside0.mk (blk_below b2.out hb); have B3 := Aside0.mk (below_then B2.out B2.out.size hb); clear hb b2) | (go_at_call 11; refine (HU.out _ (HG.out.below B1.out)).mono ?_; rintro e w2 ⟨rfl, hb⟩; have b2 := Aside0.mk (blk_below b1.out hb); have B2 := Aside0.mk (below_then B1.out B1.out.size hb); clear hb b1))
    go_ret
    exact ⟨rfl, B6.out⟩
  · have f3 : (wd == 0) = false := beq_eq_false_iff_ne.mpr h
    have f4 : (wrap64 (b - a) == wrap64 (wd + gap)) = true := beq_iff_eq.mpr h'
    clear h h'
    go_enter Tryd.func3, Tryd.ntmps3
    go_wp2_with (first | (go_at_call 10; refine (head_true _ (HG.out.below B0.out)).mono ?_; rintro e w1 ⟨rfl, hb⟩; have b1 := Aside0.mk (blk_below b0.out hb); have B1 := Aside0.mk (below_then B0.out B0.out.size hb); clear hb b0) | (refine load23w_at rfl _ rfl w.heap.size rfl S HS.out (by first | exact b6.out | exact b5.out | exact b4.out | exact b3.out | exact b2.out | exact b1.out) ?_) | (go_at_call 13; refine (HD.out _ (HG.out.below B5.out)).mono ?_; rintro e w6 ⟨rfl, hb⟩; have b6 := Aside0.mk (blk_below b5.out hb); have B6 := Aside0.mk (below_then B5.out B5.out.size hb); have c2 := (blk_cell b6.out 2).trans H2.out; clear hb b5) | (go_at_call 13; refine (HC.out _ (HG.out.below B4.out)).mono ?_; rintro e w5 ⟨rfl, hb⟩; have b5 := Aside0.mk (blk_below b4.out hb); have B5 := Aside0.mk (below_then B4.out B4.out.size hb); clear hb b4) | (go_at_call 12; refine (HB.out _ (HG.out.below B3.out)).mono ?_; rintro e w4 ⟨rfl, hb⟩; have b4 := Aside0.mk (blk_below b3.out hb); have B4 := Aside0.mk (below_then B3.out B3.out.size hb); clear hb b3) | (go_at_call 12; refine (HA.out _ (HG.out.below B2.out)).mono ?_; rintro e w3 ⟨rfl, hb⟩; have b3 := Aside0.mk (blk_below b2.out hb); have B3 := Aside0.mk (below_then B2.out B2.out.size hb); clear hb b2) | (go_at_call 11; refine (HU.out _ (HG.out.below B1.out)).mono ?_; rintro e w2 ⟨rfl, hb⟩; have b2 := Aside0.mk (blk_below b1.out hb); have B2 := Aside0.mk (below_then B1.out B1.out.size hb); clear hb b1))
    go_ret
    exact ⟨rfl, B6.out⟩
set_option maxRecDepth 1000000 in
set_option maxHeartbeats 4000000 in
theorem UsedTells_walk (S : Array Value) (av i x0 n wd e a f l m p r : Int) (q : Bool) (w : World) (hS : S.size = 16) (hU : ∀ w' : World, GOK w' → Calls Tryd.prog 11 #[.int .i64 av, .agg S] w' fun x w'' => x = .returned (.tuple #[.int .i64 n, .int .i64 wd, .int .i64 e]) ∧ Below w'.heap.size w' w'')
    (hV : ∀ w' : World, GOK w' → Calls Tryd.prog 16 #[.int .i64 av, .agg S] w' fun x w'' => x = .returned (.tuple #[.int .i64 n, .int .i64 wd, .int .i64 e]) ∧ Below w'.heap.size w' w'')
    (hA : ∀ w' : World, GOK w' → Calls Tryd.prog 12 #[.int .i64 av, .agg S, .int .i64 i] w' fun x w'' => x = .returned (.tuple #[.int .i64 a, .int .i64 f]) ∧ Below w'.heap.size w' w'')
    (hB : ∀ w' : World, GOK w' → Calls Tryd.prog 17 #[.int .i64 av, .agg S, .int .i64 i] w' fun x w'' => x = .returned (.tuple #[.int .i64 a, .int .i64 f]) ∧ Below w'.heap.size w' w'')
    (hC : ∀ w' : World, GOK w' → Calls Tryd.prog 18 #[.int .i64 av, .agg S] w' fun x w'' => x = .returned (.tuple #[.int .i64 l, .int .i64 m]) ∧ Below w'.heap.size w' w'')
    (hD : ∀ w' : World, GOK w' → Calls Tryd.prog 19 #[.int .i64 av, .agg S] w' fun x w'' => x = .returned (.tuple #[.int .i64 l, .int .i64 m]) ∧ Below w'.heap.size w' w'')
    (hE : ∀ w' : World, GOK w' → Calls Tryd.prog 13 #[.int .i64 av, .agg S, .int .i64 x0] w' fun x w'' => x = .returned (.tuple #[.int .i64 p, .bool q, .int .i64 r]) ∧ Below w'.heap.size w' w'')
    (hF : ∀ w' : World, GOK w' → Calls Tryd.prog 20 #[.int .i64 av, .agg S, .int .i64 x0] w' fun x w'' => x = .returned (.tuple #[.int .i64 p, .bool q, .int .i64 r]) ∧ Below w'.heap.size w' w'') (hG : GOK w) :
    Calls Tryd.prog 8 #[.int .i64 av, .agg S, .int .i64 i, .int .i64 x0] w fun x w' => x = .returned (.bool true) ∧ Below w.heap.size w w' := by
  have HV := Aside0.mk hV
  have HA := Aside0.mk hA
  have HB := Aside0.mk hB
  have HC := Aside0.mk hC
  have HD := Aside0.mk hD
  have HE := Aside0.mk hE
  have HF := Aside0.mk hF
  clear hV hA hB hC hD hE hF
  have HU := Aside0.mk hU
  have HS := Aside0.mk hS
  have HG := Aside0.mk hG
  have b0 := Aside0.mk (blk_new w (.cells S 23))
  have B0 := Aside0.mk (below_alloc (Below.refl w.heap.size w) (.cells S 23))
  clear hU hS hG
  go_enter Tryd.func8, Tryd.ntmps8
  go_wp2_with (first | (go_at_call 10; refine (head_true _ (HG.out.below B0.out)).mono ?_; rintro e w1 ⟨rfl, hb⟩; have b1 := Aside0.mk (blk_below b0.out hb); have B1 := Aside0.mk (below_then B0.out B0.out.size hb); clear hb b0) | (refine load23w_at rfl _ rfl w.heap.size rfl S HS.out (by first | exact b9.out | exact b8.out | exact b7.out | exact b6.out | exact b5.out | exact b4.out | exact b3.out | exact b2.out | exact b1.out) ?_) | (go_at_call 11; refine (HU.out _ (HG.out.below B1.out)).mono ?_; rintro e w2 ⟨rfl, hb⟩; have b2 := Aside0.mk (blk_below b1.out hb); have B2 := Aside0.mk (below_then B1.out B1.out.size hb); clear hb b1) | (go_at_call 16; refine (HV.out _ (HG.out.below B2.out)).mono ?_; rintro e w3 ⟨rfl, hb⟩; have b3 := Aside0.mk (blk_below b2.out hb); have B3 := Aside0.mk (below_then B2.out B2.out.size hb); clear hb b2) | (go_at_call 12; refine (HA.out _ (HG.out.below B3.out)).mono ?_; rintro e w4 ⟨rfl, hb⟩; have b4 := Aside0.mk (blk_below b3.out hb); have B4 := Aside0.mk (below_then B3.out B3.out.size hb); clear hb b3) | (go_at_call 17; refine (HB.out _ (HG.out.below B4.out)).mono ?_; rintro e w5 ⟨rfl, hb⟩; have b5 := Aside0.mk (blk_below b4.out hb); have B5 := Aside0.mk (below_then B4.out B4.out.size hb); clear hb b4) | (go_at_call 18; refine (HC.out _ (HG.out.below B5.out)).mono ?_; rintro e w6 ⟨rfl, hb⟩; have b6 := Aside0.mk (blk_below b5.out hb); have B6 := Aside0.mk (below_then B5.out B5.out.size hb); clear hb b5) | (go_at_call 19; refine (HD.out _ (HG.out.below B6.out)).mono ?_; rintro e w7 ⟨rfl, hb⟩; have b7 := Aside0.mk (blk_below b6.out hb); have B7 := Aside0.mk (below_then B6.out B6.out.size hb); clear hb b6) | (go_at_call 13; refine (HE.out _ (HG.out.below B7.out)).mono ?_; rintro e w8 ⟨rfl, hb⟩; have b8 := Aside0.mk (blk_below b7.out hb); have B8 := Aside0.mk (below_then B7.out B7.out.size hb); clear hb b7) | (go_at_call 20; refine (HF.out _ (HG.out.below B8.out)).mono ?_; rintro e w9 ⟨rfl, hb⟩; have b9 := Aside0.mk (blk_below b8.out hb); have B9 := Aside0.mk (below_then B8.out B8.out.size hb); clear hb b8))
  go_ret
  exact ⟨rfl, B9.out⟩
end Go.Proofs.YtjaoaakljcnmeaaDoor.G
