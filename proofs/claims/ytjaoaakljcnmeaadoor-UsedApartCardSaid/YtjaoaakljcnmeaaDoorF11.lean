/- Chapter 6: At. Written by mkF11.py. -/
import Derived.Test.YtjaoaakljcnmeaaDoorF10
namespace Go.Proofs.YtjaoaakljcnmeaaDoor.G
open Go.RowKit Go.Shelf Go.Proofs.YtjaoaakljcnmeaaDoorW.PrintWords Go.Proofs.YtjaoaakljcnmeaaDoorW.PrintLast Go.Proofs.YtjaoaakljcnmeaaDoorW.PrintMore
attribute [local go_sem] Oper.semAt_some

/-- Does a column hold it? -/
def hitB (wd x : Int) (p : Int × Int) : Bool := decide (p.2 ≤ x) && decide (x < wrap64 (p.2 + wd))
def missB (wd x : Int) (l : List (Int × Int)) : Bool := l.all (fun y => !hitB wd x y)
theorem missB_snoc {wd x : Int} {l : List (Int × Int)} {y : Int × Int} (h : missB wd x l = true) (hy : hitB wd x y = false) : missB wd x (l ++ [y]) = true := by
  unfold missB at *
  rw [List.all_append, h]
  simp [hy]
def atZ (wd gap x : Int) (n : Nat) : Int × Bool := match (leftsL wd gap n).find? (hitB wd x) with
  | some p => (p.1, true)
  | none => (0, false)
theorem leftsL_more (wd gap : Int) (k j : Nat) : ∃ r, leftsL wd gap (k + j) = leftsL wd gap k ++ r := by
  induction j with
  | zero => exact ⟨[], by simp⟩
  | succ j ih =>
    obtain ⟨r, hr⟩ := ih
    exact ⟨r ++ [(((k + j : Nat) : Int), wrap64 (((k + j : Nat) : Int) * wrap64 (wd + gap)))], by rw [← Nat.add_assoc, leftsL, hr, List.append_assoc]⟩
theorem at_stop {wd gap x : Int} {n : Nat} {pre : List (Int × Int)} (hP : LeftP wd gap n pre) {p' : List (Int × Int)} {p : Int × Int} (e : pre = p' ++ [p]) (h1 : p'.all (fun y => !hitB wd x y) = true) (h2 : hitB wd x p = true) : atZ wd gap x n = (p.1, true) := by
  obtain ⟨k, hk, rfl⟩ := hP
  obtain ⟨r, hr⟩ := leftsL_more wd gap (k + 1) (n - (k + 1))
  rw [Nat.add_sub_cancel' (by omega)] at hr
  have hn : p'.find? (hitB wd x) = none := List.find?_eq_none.2 fun y hy => by
    have h := List.all_eq_true.1 h1 y hy
    simpa using h
  unfold atZ
  rw [hr, e, List.append_assoc, List.find?_append, hn]
  simp [h2]
theorem at_done {wd gap x : Int} {n : Nat} (h1 : (leftsL wd gap n).all (fun y => !hitB wd x y) = true) : atZ wd gap x n = (0, false) := by
  have hn : (leftsL wd gap n).find? (hitB wd x) = none := List.find?_eq_none.2 fun y hy => by
    have h := List.all_eq_true.1 h1 y hy
    simpa using h
  unfold atZ
  rw [hn]
set_option maxRecDepth 1000000 in
set_option maxHeartbeats 4000000 in
theorem At_err (S M : Array Value) (av n wd e x : Int) (w : World) (hS : S.size = 16) (hB : Builds S M av) (hU : ∀ w' : World, GOK w' → Calls Tryd.prog 21 #[.agg M] w' fun x w'' => x = .returned (.tuple #[.agg #[.int .i64 n, .int .i64 wd], .iface 54 (.agg #[.int .i64 e])]) ∧ Below w'.heap.size w' w'') (hG : GOK w) :
    Calls Tryd.prog 13 #[.int .i64 av, .agg S, .int .i64 x] w fun x w' => x = .returned (.tuple #[.int .i64 0, .bool false, .int .i64 e]) ∧ Below w.heap.size w w' := by
  have HU := Aside0.mk hU
  have HS := Aside0.mk hS
  have HB := Aside0.mk hB
  have HG := Aside0.mk hG
  have e1 : (w.alloc (.cells S 23)).heap.size = w.heap.size + 1 := by simp
  have e2 : ((w.alloc (.cells S 23)).alloc (.cells #[.int .i64 x] 2)).heap.size = w.heap.size + 1 + 1 := by simp
  have e3 : (((w.alloc (.cells S 23)).alloc (.cells #[.int .i64 x] 2)).alloc (.cells #[.int .i64 0] 3)).heap.size = w.heap.size + 1 + 1 + 1 := by simp
  have e4 : ((((w.alloc (.cells S 23)).alloc (.cells #[.int .i64 x] 2)).alloc (.cells #[.int .i64 0] 3)).alloc (.cells #[.bool false] 4)).heap.size = w.heap.size + 1 + 1 + 1 + 1 := by simp
  have b1 := Aside0.mk (show Boxed (((((w.alloc (.cells S 23)).alloc (.cells #[.int .i64 x] 2)).alloc (.cells #[.int .i64 0] 3)).alloc (.cells #[.bool false] 4)).alloc (.cells #[.int .i64 0] 25)) (w.heap.size + 1) 2 (.int .i64 x) from (blk_alloc (blk_alloc (blk_alloc (e1 ▸ blk_new (w.alloc (.cells S 23)) (.cells #[.int .i64 x] 2)) (.cells #[.int .i64 0] 3)) (.cells #[.bool false] 4)) (.cells #[.int .i64 0] 25)))
  have b2 := Aside0.mk (show Boxed (((((w.alloc (.cells S 23)).alloc (.cells #[.int .i64 x] 2)).alloc (.cells #[.int .i64 0] 3)).alloc (.cells #[.bool false] 4)).alloc (.cells #[.int .i64 0] 25)) (w.heap.size + 1 + 1) 3 (.int .i64 0) from (blk_alloc (blk_alloc (e2 ▸ blk_new ((w.alloc (.cells S 23)).alloc (.cells #[.int .i64 x] 2)) (.cells #[.int .i64 0] 3)) (.cells #[.bool false] 4)) (.cells #[.int .i64 0] 25)))
  have b3 := Aside0.mk (show Boxed (((((w.alloc (.cells S 23)).alloc (.cells #[.int .i64 x] 2)).alloc (.cells #[.int .i64 0] 3)).alloc (.cells #[.bool false] 4)).alloc (.cells #[.int .i64 0] 25)) (w.heap.size + 1 + 1 + 1) 4 (.bool false) from (blk_alloc (e3 ▸ blk_new (((w.alloc (.cells S 23)).alloc (.cells #[.int .i64 x] 2)).alloc (.cells #[.int .i64 0] 3)) (.cells #[.bool false] 4)) (.cells #[.int .i64 0] 25)))
  have b4 := Aside0.mk (show Boxed (((((w.alloc (.cells S 23)).alloc (.cells #[.int .i64 x] 2)).alloc (.cells #[.int .i64 0] 3)).alloc (.cells #[.bool false] 4)).alloc (.cells #[.int .i64 0] 25)) (w.heap.size + 1 + 1 + 1 + 1) 25 (.int .i64 0) from (e4 ▸ blk_new ((((w.alloc (.cells S 23)).alloc (.cells #[.int .i64 x] 2)).alloc (.cells #[.int .i64 0] 3)).alloc (.cells #[.bool false] 4)) (.cells #[.int .i64 0] 25)))
  have B0 := Aside0.mk (show Below w.heap.size w (((((w.alloc (.cells S 23)).alloc (.cells #[.int .i64 x] 2)).alloc (.cells #[.int .i64 0] 3)).alloc (.cells #[.bool false] 4)).alloc (.cells #[.int .i64 0] 25)) from (below_alloc (below_alloc (below_alloc (below_alloc (below_alloc (Below.refl w.heap.size w) (.cells S 23)) (.cells #[.int .i64 x] 2)) (.cells #[.int .i64 0] 3)) (.cells #[.bool false] 4)) (.cells #[.int .i64 0] 25)))
  have HZ := Aside0.mk (show w.heap.size + 5 ≤ (((((w.alloc (.cells S 23)).alloc (.cells #[.int .i64 x] 2)).alloc (.cells #[.int .i64 0] 3)).alloc (.cells #[.bool false] 4)).alloc (.cells #[.int .i64 0] 25)).heap.size by simp)
  clear e1 e2 e3 e4
  have b0 := Aside0.mk (blk_alloc (blk_alloc (blk_alloc (blk_alloc (blk_new w (.cells S 23)) (.cells #[.int .i64 x] 2)) (.cells #[.int .i64 0] 3)) (.cells #[.bool false] 4)) (.cells #[.int .i64 0] 25))
  clear hU hS hG hB
  go_enter Tryd.func13, Tryd.ntmps13
  go_wp2_with (first | (refine load23w_at rfl _ rfl w.heap.size rfl S HS.out b0.out ?_) | (refine build47_at rfl _ _ rfl S M av rfl rfl HB.out ?_) | (go_at_call 21; refine (HU.out _ (HG.out.below B0.out)).mono ?_; rintro e w2 ⟨rfl, hb⟩; have HZ2 := Aside0.mk (Nat.le_trans HZ.out hb.size); have B2 := Aside0.mk (below_then B0.out B0.out.size hb); have B3 := Aside0.mk (below_then B2.out B2.out.size (below_alloc (Below.refl _ _) (.cells #[.int .i64 n, .int .i64 wd] 41))); have g2 := Aside0.mk (show Boxed (w2.alloc (.cells #[.int .i64 n, .int .i64 wd] 41)) (w.heap.size + 1 + 1) 3 (.int .i64 0) from blk_alloc (blk_below b2.out hb) _); have g3 := Aside0.mk (show Boxed (w2.alloc (.cells #[.int .i64 n, .int .i64 wd] 41)) (w.heap.size + 1 + 1 + 1) 4 (.bool false) from blk_alloc (blk_below b3.out hb) _); have g4 := Aside0.mk (show Boxed (w2.alloc (.cells #[.int .i64 n, .int .i64 wd] 41)) (w.heap.size + 1 + 1 + 1 + 1) 25 (.int .i64 0) from blk_alloc (blk_below b4.out hb) _); clear hb) | (go_at_call 22; refine (told_wrong _ _ (HG.out.below B3.out)).mono ?_; rintro e w4 ⟨rfl, hb⟩; have B4 := Aside0.mk (below_then B3.out B3.out.size hb); have k2 := Aside0.mk (show Boxed w4 (w.heap.size + 1 + 1) 3 (.int .i64 0) from blk_below g2.out hb); have k3 := Aside0.mk (show Boxed w4 (w.heap.size + 1 + 1 + 1) 4 (.bool false) from blk_below g3.out hb); have k4 := Aside0.mk (show Boxed w4 (w.heap.size + 1 + 1 + 1 + 1) 25 (.int .i64 0) from blk_below g4.out hb); have c2 := k2.out.cell; have c3 := k3.out.cell; have c4 := k4.out.cell; have f2 := k2.out.frozen; have f3 := k3.out.frozen; have f4 := k4.out.frozen; clear hb))
  have m2 := ((k2.out.set (.int .i64 0)).other (B' := w.heap.size + 1 + 1 + 1) (by omega) (.bool false)).other (B' := w.heap.size + 1 + 1 + 1 + 1) (by omega) (.int .i64 e)
  have m3 := ((k3.out.other (B' := w.heap.size + 1 + 1) (by omega) (.int .i64 0)).set (.bool false)).other (B' := w.heap.size + 1 + 1 + 1 + 1) (by omega) (.int .i64 e)
  have m4 := ((k4.out.other (B' := w.heap.size + 1 + 1) (by omega) (.int .i64 0)).other (B' := w.heap.size + 1 + 1 + 1) (by omega) (.bool false)).set (.int .i64 e)
  have hb := ((B4.out.setCell (p := ⟨w.heap.size + 1 + 1, 0, none⟩) (by show w.heap.size ≤ w.heap.size + 1 + 1; omega) (.int .i64 0)).setCell (p := ⟨w.heap.size + 1 + 1 + 1, 0, none⟩) (by show w.heap.size ≤ w.heap.size + 1 + 1 + 1; omega) (.bool false)).setCell (p := ⟨w.heap.size + 1 + 1 + 1 + 1, 0, none⟩) (by show w.heap.size ≤ w.heap.size + 1 + 1 + 1 + 1; omega) (.int .i64 e)
  have d2 := m2.cell
  have d3 := m3.cell
  have d4 := m4.cell
  refine bodyPost_ret (v := .tuple #[.int .i64 0, .bool false, .int .i64 e]) (by simp [results, Tryd.results13, go_sem, d2, d3, d4]) rfl ⟨rfl, hb⟩
theorem three_back {w W : World} {R : Ending → World → Prop} (a : Act) (D : Nat) (r1 r3 : Int) (r2 : Bool) (h1 : Boxed W (w.heap.size + 1 + 1) 3 (.int .i64 r1)) (h2 : Boxed W (w.heap.size + 1 + 1 + 1) 4 (.bool r2)) (h3 : Boxed W (w.heap.size + 1 + 1 + 1 + 1) 25 (.int .i64 r3)) (hb : Below w.heap.size w W) (hK : W.heap[D]? = some (.deferred (some []))) (hD : w.heap.size + 5 ≤ D) (t0 t1 t2 t3 t4 t5 : Value) (ts : List Value)
    (ea : a = { tmps := (t0 :: t1 :: t2 :: t3 :: t4 :: t5 :: .pointer (some ⟨w.heap.size + 1 + 1, 0, none⟩) :: .pointer (some ⟨w.heap.size + 1 + 1 + 1, 0, none⟩) :: .pointer (some ⟨w.heap.size + 1 + 1 + 1 + 1, 0, none⟩) :: ts).toArray, defers := [{ target := Target.collected D, args := #[] }] })
    (hR : ∀ W', Below w.heap.size w W' → R (.returned (.tuple #[.int .i64 r1, .bool r2, .int .i64 r3])) W') : bodyPostM Fence.wide 6 Tryd.prog Tryd.f13 R .ret a W := by
  subst ea
  have g1 := (h1.kept (grownBy_putObj' W D (.deferred none)) (by simp; omega))
  have g2 := (h2.kept (grownBy_putObj' W D (.deferred none)) (by simp; omega))
  have g3 := (h3.kept (grownBy_putObj' W D (.deferred none)) (by simp; omega))
  have c1 := g1.cell
  have c2 := g2.cell
  have c3 := g3.cell
  refine ⟨by simp, .inl ⟨_, _, rfl, run_takeDeferred hK, ?_⟩⟩
  refine ⟨.tuple #[.int .i64 r1, .bool r2, .int .i64 r3], ?_, hR _ (hb.trans (belowK_b (w := w) (Nat.le_refl _) W D _ _ (by omega) hK rfl rfl))⟩
  simp [results, Tryd.results13, go_sem, c1, c2, c3]
set_option maxRecDepth 1000000 in
set_option maxHeartbeats 4000000 in
theorem At_ok (S M : Array Value) (av wd gap x : Int) (n : Nat) (hn : n ≤ 50) (w : World) (hS : S.size = 16) (hgap : S[2]? = some (.int .i64 gap)) (hB : Builds S M av) (hU : ∀ w' : World, GOK w' → Calls Tryd.prog 21 #[.agg M] w' fun x w'' => x = .returned (.tuple #[.agg #[.int .i64 n, .int .i64 wd], .nilIface]) ∧ Below w'.heap.size w' w'') (hG : GOK w) :
    CallsIn Fence.wide 6 Tryd.prog 13 #[.int .i64 av, .agg S, .int .i64 x] w fun e w' => e = .returned (.tuple #[.int .i64 (atZ wd gap x n).1, .bool (atZ wd gap x n).2, .int .i64 0]) ∧ Below w.heap.size w w' := by
  have HU := Aside0.mk hU
  have HS := Aside0.mk hS
  have HB := Aside0.mk hB
  have HG := Aside0.mk hG
  have HL := Aside0.mk hgap
  have e1 : (w.alloc (.cells S 23)).heap.size = w.heap.size + 1 := by simp
  have e2 : ((w.alloc (.cells S 23)).alloc (.cells #[.int .i64 x] 2)).heap.size = w.heap.size + 1 + 1 := by simp
  have e3 : (((w.alloc (.cells S 23)).alloc (.cells #[.int .i64 x] 2)).alloc (.cells #[.int .i64 0] 3)).heap.size = w.heap.size + 1 + 1 + 1 := by simp
  have e4 : ((((w.alloc (.cells S 23)).alloc (.cells #[.int .i64 x] 2)).alloc (.cells #[.int .i64 0] 3)).alloc (.cells #[.bool false] 4)).heap.size = w.heap.size + 1 + 1 + 1 + 1 := by simp
  have b1 := Aside0.mk (show Boxed (((((w.alloc (.cells S 23)).alloc (.cells #[.int .i64 x] 2)).alloc (.cells #[.int .i64 0] 3)).alloc (.cells #[.bool false] 4)).alloc (.cells #[.int .i64 0] 25)) (w.heap.size + 1) 2 (.int .i64 x) from (blk_alloc (blk_alloc (blk_alloc (e1 ▸ blk_new (w.alloc (.cells S 23)) (.cells #[.int .i64 x] 2)) (.cells #[.int .i64 0] 3)) (.cells #[.bool false] 4)) (.cells #[.int .i64 0] 25)))
  have b2 := Aside0.mk (show Boxed (((((w.alloc (.cells S 23)).alloc (.cells #[.int .i64 x] 2)).alloc (.cells #[.int .i64 0] 3)).alloc (.cells #[.bool false] 4)).alloc (.cells #[.int .i64 0] 25)) (w.heap.size + 1 + 1) 3 (.int .i64 0) from (blk_alloc (blk_alloc (e2 ▸ blk_new ((w.alloc (.cells S 23)).alloc (.cells #[.int .i64 x] 2)) (.cells #[.int .i64 0] 3)) (.cells #[.bool false] 4)) (.cells #[.int .i64 0] 25)))
  have b3 := Aside0.mk (show Boxed (((((w.alloc (.cells S 23)).alloc (.cells #[.int .i64 x] 2)).alloc (.cells #[.int .i64 0] 3)).alloc (.cells #[.bool false] 4)).alloc (.cells #[.int .i64 0] 25)) (w.heap.size + 1 + 1 + 1) 4 (.bool false) from (blk_alloc (e3 ▸ blk_new (((w.alloc (.cells S 23)).alloc (.cells #[.int .i64 x] 2)).alloc (.cells #[.int .i64 0] 3)) (.cells #[.bool false] 4)) (.cells #[.int .i64 0] 25)))
  have b4 := Aside0.mk (show Boxed (((((w.alloc (.cells S 23)).alloc (.cells #[.int .i64 x] 2)).alloc (.cells #[.int .i64 0] 3)).alloc (.cells #[.bool false] 4)).alloc (.cells #[.int .i64 0] 25)) (w.heap.size + 1 + 1 + 1 + 1) 25 (.int .i64 0) from (e4 ▸ blk_new ((((w.alloc (.cells S 23)).alloc (.cells #[.int .i64 x] 2)).alloc (.cells #[.int .i64 0] 3)).alloc (.cells #[.bool false] 4)) (.cells #[.int .i64 0] 25)))
  have B0 := Aside0.mk (show Below w.heap.size w (((((w.alloc (.cells S 23)).alloc (.cells #[.int .i64 x] 2)).alloc (.cells #[.int .i64 0] 3)).alloc (.cells #[.bool false] 4)).alloc (.cells #[.int .i64 0] 25)) from (below_alloc (below_alloc (below_alloc (below_alloc (below_alloc (Below.refl w.heap.size w) (.cells S 23)) (.cells #[.int .i64 x] 2)) (.cells #[.int .i64 0] 3)) (.cells #[.bool false] 4)) (.cells #[.int .i64 0] 25)))
  have HZ := Aside0.mk (show w.heap.size + 5 ≤ (((((w.alloc (.cells S 23)).alloc (.cells #[.int .i64 x] 2)).alloc (.cells #[.int .i64 0] 3)).alloc (.cells #[.bool false] 4)).alloc (.cells #[.int .i64 0] 25)).heap.size by simp)
  clear e1 e2 e3 e4
  have b0 := Aside0.mk (blk_alloc (blk_alloc (blk_alloc (blk_alloc (blk_new w (.cells S 23)) (.cells #[.int .i64 x] 2)) (.cells #[.int .i64 0] 3)) (.cells #[.bool false] 4)) (.cells #[.int .i64 0] 25))
  clear hU hS hG hB hgap
  refine callsIn_of_wp_marks Tryd.func13 rfl trivial ?_ rfl
  simp only [Tryd.ntmps13, List.size_toArray, List.length_cons, List.length_nil, Nat.reduceAdd, Nat.reduceSub, Array.replicate_succ, Array.replicate_zero, List.push_toArray, List.append_toArray, List.nil_append, List.cons_append]
  refine wpIn_wide.2 ?_
  go_wp2_with (first | (refine load23w_at rfl _ rfl w.heap.size rfl S HS.out b0.out ?_) | (refine build47_at rfl _ _ rfl S M av rfl rfl HB.out ?_) | (go_at_call 21; refine (HU.out _ (HG.out.below B0.out)).mono ?_; rintro e w2 ⟨rfl, hb⟩; have HZ2 := Aside0.mk (Nat.le_trans HZ.out hb.size); have B2 := Aside0.mk (below_then B0.out B0.out.size hb); have B3 := Aside0.mk (below_then B2.out B2.out.size (below_alloc (Below.refl _ _) (.cells #[.int .i64 n, .int .i64 wd] 41))); have g0 := Aside0.mk (blk_alloc (blk_below b0.out hb) (.cells #[.int .i64 n, .int .i64 wd] 41)); have g1 := Aside0.mk (show Boxed (w2.alloc (.cells #[.int .i64 n, .int .i64 wd] 41)) (w.heap.size + 1) 2 (.int .i64 x) from blk_alloc (blk_below b1.out hb) _); have g2 := Aside0.mk (show Boxed (w2.alloc (.cells #[.int .i64 n, .int .i64 wd] 41)) (w.heap.size + 1 + 1) 3 (.int .i64 0) from blk_alloc (blk_below b2.out hb) _); have g3 := Aside0.mk (show Boxed (w2.alloc (.cells #[.int .i64 n, .int .i64 wd] 41)) (w.heap.size + 1 + 1 + 1) 4 (.bool false) from blk_alloc (blk_below b3.out hb) _); have g4 := Aside0.mk (show Boxed (w2.alloc (.cells #[.int .i64 n, .int .i64 wd] 41)) (w.heap.size + 1 + 1 + 1 + 1) 25 (.int .i64 0) from blk_alloc (blk_below b4.out hb) _); have c2 := (blk_cell g0.out 2).trans HL.out; clear hb) | (go_at_call 23; refine (lefts_any n wd gap _).mono ?_; rintro e w3 ⟨rfl, rfl⟩))
  have hz := HZ2.out
  have hB : Below w.heap.size w (((w2.alloc (.cells #[.int .i64 n, .int .i64 wd] 41)).alloc (.cells #[.int .i64 n, .int .i64 wd] 41)).alloc (.cells #[.int .i64 gap] 2)) := below_alloc (below_alloc B3.out _) _
  have e3 : (((w2.alloc (.cells #[.int .i64 n, .int .i64 wd] 41)).alloc (.cells #[.int .i64 n, .int .i64 wd] 41)).alloc (.cells #[.int .i64 gap] 2)).heap.size = w2.heap.size + 3 := by simp
  have k0 : (((w2.alloc (.cells #[.int .i64 n, .int .i64 wd] 41)).alloc (.cells #[.int .i64 n, .int .i64 wd] 41)).alloc (.cells #[.int .i64 gap] 2)).heap[w.heap.size]? = some (.cells S 23 (0, 0)) := blk_alloc (blk_alloc g0.out _) _
  have k1 : Boxed (((w2.alloc (.cells #[.int .i64 n, .int .i64 wd] 41)).alloc (.cells #[.int .i64 n, .int .i64 wd] 41)).alloc (.cells #[.int .i64 gap] 2)) (w.heap.size + 1) 2 (.int .i64 x) := blk_alloc (blk_alloc g1.out _) _
  have k2 : Boxed (((w2.alloc (.cells #[.int .i64 n, .int .i64 wd] 41)).alloc (.cells #[.int .i64 n, .int .i64 wd] 41)).alloc (.cells #[.int .i64 gap] 2)) (w.heap.size + 1 + 1) 3 (.int .i64 0) := blk_alloc (blk_alloc g2.out _) _
  have k3 : Boxed (((w2.alloc (.cells #[.int .i64 n, .int .i64 wd] 41)).alloc (.cells #[.int .i64 n, .int .i64 wd] 41)).alloc (.cells #[.int .i64 gap] 2)) (w.heap.size + 1 + 1 + 1) 4 (.bool false) := blk_alloc (blk_alloc g3.out _) _
  have k4 : Boxed (((w2.alloc (.cells #[.int .i64 n, .int .i64 wd] 41)).alloc (.cells #[.int .i64 n, .int .i64 wd] 41)).alloc (.cells #[.int .i64 gap] 2)) (w.heap.size + 1 + 1 + 1 + 1) 25 (.int .i64 0) := blk_alloc (blk_alloc g4.out _) _
  have a2 : (((w2.alloc (.cells #[.int .i64 n, .int .i64 wd] 41)).alloc (.cells #[.int .i64 n, .int .i64 wd] 41)).alloc (.cells #[.int .i64 gap] 2)).heap[w2.heap.size]? = some (.cells #[.int .i64 n, .int .i64 wd] 41 (0, 0)) := blk_alloc (blk_alloc (blk_new w2 _) _) _
  have d1 : (w2.alloc (.cells #[.int .i64 n, .int .i64 wd] 41)).heap.size = w2.heap.size + 1 := by simp
  have a3 : (((w2.alloc (.cells #[.int .i64 n, .int .i64 wd] 41)).alloc (.cells #[.int .i64 n, .int .i64 wd] 41)).alloc (.cells #[.int .i64 gap] 2)).heap[w2.heap.size + 1]? = some (.cells #[.int .i64 n, .int .i64 wd] 41 (0, 0)) := blk_alloc (d1 ▸ blk_new (w2.alloc (.cells #[.int .i64 n, .int .i64 wd] 41)) (.cells #[.int .i64 n, .int .i64 wd] 41)) _
  have d2 : ((w2.alloc (.cells #[.int .i64 n, .int .i64 wd] 41)).alloc (.cells #[.int .i64 n, .int .i64 wd] 41)).heap.size = w2.heap.size + 1 + 1 := by simp
  have a4 : Boxed (((w2.alloc (.cells #[.int .i64 n, .int .i64 wd] 41)).alloc (.cells #[.int .i64 n, .int .i64 wd] 41)).alloc (.cells #[.int .i64 gap] 2)) (w2.heap.size + 1 + 1) 2 (.int .i64 gap) := d2 ▸ blk_new ((w2.alloc (.cells #[.int .i64 n, .int .i64 wd] 41)).alloc (.cells #[.int .i64 n, .int .i64 wd] 41)) (.cells #[.int .i64 gap] 2)
  clear HZ HZ2 d1 d2 c2 B0 B2 B3 b0 b1 b2 b3 b4 g0 g1 g2 g3 g4 HU
  generalize (((w2.alloc (.cells #[.int .i64 n, .int .i64 wd] 41)).alloc (.cells #[.int .i64 n, .int .i64 wd] 41)).alloc (.cells #[.int .i64 gap] 2)) = W0 at *
  generalize w2.heap.size = z at *
  clear w2
  refine (wpIn_wide (n := 6)).1 ?_
  refine wpIn_rangeFunc_ownF rfl (by omega) (gf := 34) (lb := #[.pointer (some ⟨z + 1, 0, none⟩), .pointer (some ⟨z + 1 + 1, 0, none⟩)]) rfl trivial (enters_of Tryd.func34 (by kernel_rfl) rfl)
    (lefts_seq 5 (by omega) (z + 1) (z + 1 + 1) n wd gap hn W0 a3 a4) Kb.trans (Kb.put (by omega) (by omega)) (Below.refl _ _) (fun _ => rfl)
    (fun pre W => ((Boxed W (w.heap.size + 1) 2 (.int .i64 x) ∧ Boxed W (w.heap.size + 1 + 1) 3 (.int .i64 0) ∧ Boxed W (w.heap.size + 1 + 1 + 1) 4 (.bool false) ∧ Boxed W (w.heap.size + 1 + 1 + 1 + 1) 25 (.int .i64 0) ∧ W.heap[z]? = some (.cells #[.int .i64 n, .int .i64 wd] 41 (0, 0))) ∧ missB wd x pre = true) ∧ Below w.heap.size w W)
    (fun c pre W => ∃ p' p, ((Boxed W (w.heap.size + 1 + 1) 3 (.int .i64 p.1) ∧ Boxed W (w.heap.size + 1 + 1 + 1) 4 (.bool true) ∧ Boxed W (w.heap.size + 1 + 1 + 1 + 1) 25 (.int .i64 0)) ∧ c = .ret ∧ pre = p' ++ [p] ∧ missB wd x p' = true ∧ hitB wd x p = true) ∧ Below w.heap.size w W)
    ?hI ?hIx ⟨⟨⟨k1, k2, k3, k4, a2⟩, rfl⟩, hB⟩
    (fun q => { tmps := #[.int .i64 av, .agg S, .int .i64 x, undef, .pointer (some ⟨w.heap.size, 0, none⟩), .pointer (some ⟨w.heap.size + 1, 0, none⟩), .pointer (some ⟨w.heap.size + 1 + 1, 0, none⟩), .pointer (some ⟨w.heap.size + 1 + 1 + 1, 0, none⟩), .pointer (some ⟨w.heap.size + 1 + 1 + 1 + 1, 0, none⟩), .pointer (some ⟨z, 0, none⟩), .nilIface, .int .i64 q.1, .int .i64 q.2, .tuple #[.agg #[.int .i64 n, .int .i64 wd], .nilIface], .agg S, .int .i64 av, .agg M, .tuple #[.agg #[.int .i64 n, .int .i64 wd], .nilIface], .agg #[.int .i64 n, .int .i64 wd], .nilIface, .nilIface, .bool false, undef, undef, .agg #[.int .i64 n, .int .i64 wd], .pointer (some ⟨w.heap.size, 2, none⟩), .int .i64 gap, .func (.func 34) #[] #[.pointer (some ⟨z + 1, 0, none⟩), .pointer (some ⟨z + 1 + 1, 0, none⟩)], .int .i64 q.1, .int .i64 q.2, undef, undef, undef, undef, undef, undef, undef, undef, undef, undef, undef, undef], defers := [] }) ?assign ?body ?done ?stop
  case hI =>
    rintro s W W' row ⟨⟨⟨h1, h2, h3, h4, h5⟩, h6⟩, h7⟩ hg hr'
    have hn : ∀ r, row = some r → z + 3 ≤ r := fun r e => by have := (hr' r e).1; omega
    exact ⟨⟨⟨h1.kept hg (fun e => by have := hn _ e.symm; omega), h2.kept hg (fun e => by have := hn _ e.symm; omega), h3.kept hg (fun e => by have := hn _ e.symm; omega), h4.kept hg (fun e => by have := hn _ e.symm; omega), (hg.block _ (blk_lt h5) (fun e => by have := hn _ e.symm; omega)).trans h5⟩, h6⟩, h7.grown hg h7.size (fun k e => by have := hn k e; omega)⟩
  case hIx =>
    rintro c s W W' row ⟨p', p, ⟨⟨h1, h2, h3⟩, h6⟩, h7⟩ hg hr'
    have hn : ∀ r, row = some r → z + 3 ≤ r := fun r e => by have := (hr' r e).1; omega
    exact ⟨p', p, ⟨⟨h1.kept hg (fun e => by have := hn _ e.symm; omega), h2.kept hg (fun e => by have := hn _ e.symm; omega), h3.kept hg (fun e => by have := hn _ e.symm; omega)⟩, h6⟩, h7.grown hg h7.size (fun k e => by have := hn k e; omega)⟩
  case assign =>
    intro yl q W K hK
    gi_wp2
    exact hK
  case body =>
    rintro yl pre ⟨i, lf⟩ W ⟨⟨⟨h1, h2, h3, h4, h5⟩, h6⟩, h7⟩ _
    have c1 := h1.cell
    have c2 := h2.cell
    have c3 := h3.cell
    have c4 := h4.cell
    have f2 := h2.frozen
    have f3 := h3.frozen
    have f4 := h4.frozen
    have c5 : W.cell? ⟨z, 1, none⟩ = some (.int .i64 wd) := (blk_cell h5 1).trans rfl
    by_cases ha : lf ≤ x
    · by_cases hb : x < wrap64 (lf + wd)
      · have hh : hitB wd x (i, lf) = true := by simp [hitB, ha, hb]
        have HH := Aside0.mk hh
        clear hh
        gi_wp2
        refine ⟨((KeepsOthers.setCell _ _ _).trans (KeepsOthers.setCell _ _ _)).trans (KeepsOthers.setCell _ _ _), pre, (i, lf), ⟨⟨((h2.set _).other (by omega) _).other (by omega) _, ((h3.other (by omega) _).set _).other (by omega) _, ((h4.other (by omega) _).other (by omega) _).set _⟩, rfl, rfl, h6, HH.out⟩, ((h7.setCell (by show w.heap.size ≤ w.heap.size + 1 + 1; omega) _).setCell (by show w.heap.size ≤ w.heap.size + 1 + 1 + 1; omega) _).setCell (by show w.heap.size ≤ w.heap.size + 1 + 1 + 1 + 1; omega) _⟩
      · have hh : hitB wd x (i, lf) = false := by simp [hitB, hb]
        have HH := Aside0.mk hh
        clear hh
        gi_wp2
        exact ⟨KeepsOthers.refl _, ⟨rfl, rfl⟩, ⟨⟨h1, h2, h3, h4, h5⟩, missB_snoc h6 HH.out⟩, h7⟩
    · have hh : hitB wd x (i, lf) = false := by simp [hitB, ha]
      have HH := Aside0.mk hh
      clear hh
      gi_wp2
      exact ⟨KeepsOthers.refl _, ⟨rfl, rfl⟩, ⟨⟨h1, h2, h3, h4, h5⟩, missB_snoc h6 HH.out⟩, h7⟩
  case done =>
    rintro D ys W hD rfl ⟨⟨⟨h1, h2, h3, h4, h5⟩, h6⟩, h7⟩ hK
    have EA := Aside0.mk <| at_done h6
    have c2 := h2.cell
    have c3 := h3.cell
    have c4 := h4.cell
    have f2 := h2.frozen
    have f3 := h3.frozen
    have f4 := h4.frozen
    go_wp2
    have m2 := ((h2.set (.int .i64 0)).other (B' := w.heap.size + 1 + 1 + 1) (by omega) (.bool false)).other (B' := w.heap.size + 1 + 1 + 1 + 1) (by omega) (.int .i64 0)
    have m3 := ((h3.other (B' := w.heap.size + 1 + 1) (by omega) (.int .i64 0)).set (.bool false)).other (B' := w.heap.size + 1 + 1 + 1 + 1) (by omega) (.int .i64 0)
    have m4 := ((h4.other (B' := w.heap.size + 1 + 1) (by omega) (.int .i64 0)).other (B' := w.heap.size + 1 + 1 + 1) (by omega) (.bool false)).set (.int .i64 0)
    have hb := ((h7.setCell (p := ⟨w.heap.size + 1 + 1, 0, none⟩) (by show w.heap.size ≤ w.heap.size + 1 + 1; omega) (.int .i64 0)).setCell (p := ⟨w.heap.size + 1 + 1 + 1, 0, none⟩) (by show w.heap.size ≤ w.heap.size + 1 + 1 + 1; omega) (.bool false)).setCell (p := ⟨w.heap.size + 1 + 1 + 1 + 1, 0, none⟩) (by show w.heap.size ≤ w.heap.size + 1 + 1 + 1 + 1; omega) (.int .i64 0)
    have hK2 := (Below.heap_setCell _ ⟨w.heap.size + 1 + 1 + 1 + 1, 0, none⟩ (.int .i64 0) D (by show D ≠ w.heap.size + 1 + 1 + 1 + 1; omega)).trans ((Below.heap_setCell _ ⟨w.heap.size + 1 + 1 + 1, 0, none⟩ (.bool false) D (by show D ≠ w.heap.size + 1 + 1 + 1; omega)).trans ((Below.heap_setCell W ⟨w.heap.size + 1 + 1, 0, none⟩ (.int .i64 0) D (by show D ≠ w.heap.size + 1 + 1; omega)).trans hK))
    exact three_back _ D 0 0 false m2 m3 m4 hb hK2 (by omega) _ _ _ _ _ _ _ rfl (fun W' hb' => ⟨by rw [EA.out], hb'⟩)
  case stop =>
    rintro D c1 pre W hD hP ⟨p', p, ⟨⟨h1, h2, h3⟩, rfl, e, h4, h5⟩, h7⟩ hK
    have EA := Aside0.mk <| at_stop hP e h4 h5
    gi_wp2
    exact three_back _ D p.1 0 true h1 h2 h3 h7 hK (by omega) _ _ _ _ _ _ _ rfl (fun W' hb' => ⟨by rw [EA.out], hb'⟩)
end Go.Proofs.YtjaoaakljcnmeaaDoor.G
