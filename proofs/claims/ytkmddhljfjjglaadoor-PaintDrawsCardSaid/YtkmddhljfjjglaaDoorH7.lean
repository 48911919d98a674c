/- Chapter 18, plainly: the reference's draws, hit, seen, bounds, sameness. Written by mkH7.py. -/
import Derived.Test.YtkmddhljfjjglaaDoorH4
import Derived.Test.YtkmddhljfjjglaaDoorG14
import Derived.Test.YtkmddhljfjjglaaDoorG16
import Derived.Test.YtkmddhljfjjglaaDoorG17
import Derived.Test.YtkmddhljfjjglaaDoorG18
import Derived.Test.YtkmddhljfjjglaaDoorG19
import Derived.Test.YtkmddhljfjjglaaDoorG20
import Derived.Test.YtkmddhljfjjglaaDoorG25
namespace Go.Proofs.YtkmddhljfjjglaaDoor.G
open Go.RowKit Go.Proofs.YtkmddhljfjjglaaDoorW.PrintWords Go.Proofs.YtkmddhljfjjglaaDoorW.PrintLast Go.Proofs.YtkmddhljfjjglaaDoorW.PrintMore

theorem isR_eq {r : S30} (hw : wfR r = true) : isR r = isB r := by
  rw [Bool.eq_iff_iff, isB_iff hw]
  simp only [isR, inB, RectP, Bool.and_eq_true, decide_eq_true_eq]
theorem is_f {r : S30} (hw : wfR r = true) : gutterref18_Is.f r.f0 r.f1 r.f2 r.f3 = some (isB r) := by
  rw [← isR_eq hw]
  rfl
theorem i1w (i : Nat) (h : i ≤ 1000) : wrap64 ((i : Int) + 1) = ((i + 1 : Nat) : Int) := by
  rw [i64w (by omega) (by omega)]
  omega
theorem drop_all {α : Type} (p : α → Bool) (l : List α) (i : Nat) (h : i < l.length) : (l.drop i).all p = (p l[i] && (l.drop (i + 1)).all p) := by
  rw [List.drop_eq_getElem_cons h, List.all_cons]
theorem drop_all_end {α : Type} (p : α → Bool) (l : List α) : (l.drop l.length).all p = true := by simp
theorem rd30 (l : List S30) (i : Nat) (h : i < l.length) : rd_T30 l i = l[i] := by simp [rd_T30, h]
theorem rd39 (l : List S39) (i : Nat) (h : i < l.length) : rd_T39 l i = l[i] := by simp [rd_T39, h]
theorem rd41 (l : List S41) (i : Nat) (h : i < l.length) : rd_T41 l i = l[i] := by simp [rd_T41, h]
def fin (b : Bool) (l : List S39) : List S39 × Int := if b = true then (l, 0) else ([], 170)
def isF (f : S41) : Bool := isB f.f3
theorem keptL_snoc (fs : List S41) (j : Nat) (hj : j < fs.length) : keptL (fs.take (j + 1)) = keptL (fs.take j) ++ (if drawnB (mkF fs[j]) then [mkF fs[j]] else []) := by
  rw [List.take_succ_eq_append_getElem hj, keptL, List.map_append, List.filter_append, keptL]
  simp [List.filter_cons]
theorem ref_draws1 (A : List S39) (fs : List S41) (hA : A.length ≤ 200) (h1 : fs.length ≤ 200) (hw : ∀ f ∈ fs, wfR f.f3 = true) (d : Nat) :
    ∀ (k j : Nat), j ≤ fs.length → fs.length - j = d → d < k → gutterref18_Draws.l1 k fs (A ++ keptL (fs.take j)) j = some (fin ((fs.drop j).all isF) (A ++ keptL fs)) := by
  induction d with
  | zero =>
    intro k j hj hd hk
    obtain ⟨k, rfl⟩ : ∃ m, k = m + 1 := ⟨k - 1, by omega⟩
    obtain rfl : j = fs.length := by omega
    rw [gutterref18_Draws.l1, if_neg (by omega), List.take_length, drop_all_end]
    rfl
  | succ d ih =>
    intro k j hj hd hk
    obtain ⟨k, rfl⟩ : ∃ m, k = m + 1 := ⟨k - 1, by omega⟩
    have hlt : j < fs.length := by omega
    have h := ih k (j + 1) (by omega) (by omega) (by omega)
    have hkl := keptL_len (fs.take j)
    rw [List.length_take] at hkl
    have hfits : (A ++ keptL (fs.take j)).length < 2932031007402 := by rw [List.length_append]; omega
    have hs := keptL_snoc fs j hlt
    rw [gutterref18_Draws.l1, if_pos (by omega), if_pos (by omega), rd41 fs j hlt, i1w j (by omega), drop_all _ _ _ hlt]
    have hwf := hw _ (List.getElem_mem hlt)
    generalize fs[j] = f at *
    rw [is_f hwf, Option.bind_some]
    have e : isF f = isB f.f3 := rfl
    rw [e]
    cases isB f.f3
    · rw [if_neg (by decide)]
      rfl
    · rw [if_pos rfl, Bool.true_and, ← h]
      by_cases c2 : f.f3.f2 > 0
      · rw [if_pos c2]
        by_cases c3 : f.f3.f3 > 0
        · have hd : drawnB (mkF f) = true := by simp [drawnB, mkF, c2, c3]
          rw [if_pos c3, if_pos hfits, hs, if_pos hd, ← List.append_assoc]
          rfl
        · have hd : drawnB (mkF f) = false := by simp [drawnB, mkF, c3]
          rw [if_neg c3, hs, hd, if_neg (by decide), List.append_nil]
      · have hd : drawnB (mkF f) = false := by simp [drawnB, mkF, c2]
        rw [if_neg c2, hs, hd, if_neg (by decide), List.append_nil]
theorem ref_draws0 (rs : List S30) (fs : List S41) (h0 : rs.length ≤ 200) (h1 : fs.length ≤ 200) (hr : rs.all wfR = true) (hw : ∀ f ∈ fs, wfR f.f3 = true) (d : Nat) :
    ∀ (k i : Nat), i ≤ rs.length → rs.length - i = d → d + 202 < k → gutterref18_Draws.l0 k rs fs ((rs.take i).map mkR) i = some (fin ((rs.drop i).all isB && fs.all isF) (rs.map mkR ++ keptL fs)) := by
  induction d with
  | zero =>
    intro k i hi hd hk
    obtain ⟨k, rfl⟩ : ∃ m, k = m + 1 := ⟨k - 1, by omega⟩
    obtain rfl : i = rs.length := by omega
    have h := ref_draws1 (rs.map mkR) fs (by rw [List.length_map]; omega) h1 hw fs.length k 0 (by omega) rfl (by omega)
    rw [gutterref18_Draws.l0, if_neg (by omega), List.take_length, drop_all_end, Bool.true_and]
    simpa [keptL] using h
  | succ d ih =>
    intro k i hi hd hk
    obtain ⟨k, rfl⟩ : ∃ m, k = m + 1 := ⟨k - 1, by omega⟩
    have hlt : i < rs.length := by omega
    have h := ih k (i + 1) (by omega) (by omega) (by omega)
    have hfits : ((rs.take i).map mkR).length < 2932031007402 := by rw [List.length_map, List.length_take]; omega
    have hs : (rs.take (i + 1)).map mkR = (rs.take i).map mkR ++ [mkR rs[i]] := by rw [List.take_succ_eq_append_getElem hlt, List.map_append]; rfl
    have hwf := List.all_eq_true.1 hr _ (List.getElem_mem hlt)
    rw [gutterref18_Draws.l0, if_pos (by omega), if_pos (by omega), rd30 rs i hlt, i1w i (by omega), drop_all _ _ _ hlt]
    generalize rs[i] = r at *
    rw [is_f hwf, Option.bind_some]
    cases isB r
    · rw [if_neg (by decide)]
      rfl
    · rw [if_pos rfl, Bool.true_and, ← h, if_pos hfits, hs]
      rfl
theorem areB_draws (rs : List S30) (fs : List S41) : areB (drawsL rs fs) = (rs.all isB && fs.all isF) := by
  rw [areB, drawsL, List.all_append, List.all_map, List.all_map]
  rfl
theorem ref_draws (k : Nat) (hk : 403 < k) (rs : List S30) (fs : List S41) (h0 : rs.length ≤ 200) (h1 : fs.length ≤ 200) (hr : rs.all wfR = true) (hw : ∀ f ∈ fs, wfR f.f3 = true) :
    gutterref18_Draws.f k rs fs = some (if areB (drawsL rs fs) then ((drawsL rs fs).filter drawnB, 0) else ([], 170)) := by
  rw [drawn_split, areB_draws]
  exact ref_draws0 rs fs h0 h1 hr hw rs.length k 0 (by omega) rfl (by omega)
theorem holds_f (r : S30) (hw : wfR r = true) (x y : Int) : gutterref18_holds.f r.f0 r.f1 r.f2 r.f3 x y = some (isB r && (decide (r.f0 ≤ x) && (decide (r.f1 ≤ y) && (decide (x < wrap64 (r.f0 + r.f2)) && decide (y < wrap64 (r.f1 + r.f3)))))) := by
  unfold gutterref18_holds.f
  rw [is_f hw, Option.bind_some]
  generalize wrap64 (r.f0 + r.f2) = p
  generalize wrap64 (r.f1 + r.f3) = q
  cases isB r
  · rfl
  · rw [if_pos rfl]
    by_cases c1 : r.f0 ≤ x
    · rw [if_pos c1]
      by_cases c2 : x < p
      · rw [if_pos c2]
        by_cases c3 : r.f1 ≤ y
        · rw [if_pos c3]
          simp [c1, c2, c3]
        · rw [if_neg c3]
          simp [c3]
      · rw [if_neg c2]
        simp [c2]
    · rw [if_neg c1]
      simp [c1]
theorem ref_hit_loop (L : List S39) (x y : Int) (hL : L.length ≤ 200) (hw : wfD L = true) (j : Nat) : ∀ k : Nat, j ≤ L.length → j < k → gutterref18_Hit.l0 k L x y ((j : Int) - 1) = some (hitP ((L.take j).reverse.find? (hitB x y))) := by
  induction j with
  | zero =>
    intro k hj hk
    obtain ⟨k, rfl⟩ : ∃ m, k = m + 1 := ⟨k - 1, by omega⟩
    rw [gutterref18_Hit.l0, if_neg (by omega)]
    rfl
  | succ j ih =>
    intro k hj hk
    obtain ⟨k, rfl⟩ : ∃ m, k = m + 1 := ⟨k - 1, by omega⟩
    have hlt : j < L.length := by omega
    have h := ih k (by omega) (by omega)
    have hwf := wfD_mem hw _ (List.getElem_mem hlt)
    have e : ((j + 1 : Nat) : Int) - 1 = (j : Int) := by omega
    have e2 := Aside0.mk (show wrap64 ((j : Int) - 1) = (j : Int) - 1 from i64w (by omega) (by omega))
    rw [gutterref18_Hit.l0, e, if_pos (by omega), if_pos (by omega), if_pos (by omega), rd39 L j hlt, e2.out, List.take_succ_eq_append_getElem hlt, List.reverse_append, List.reverse_singleton, List.singleton_append, List.find?_cons]
    generalize L[j] = z at *
    rw [holds_f z.f2 hwf, Option.bind_some, h]
    have eh : hitB x y z = (!z.f0 && (isB z.f2 && (decide (z.f2.f0 ≤ x) && (decide (z.f2.f1 ≤ y) && (decide (x < wrap64 (z.f2.f0 + z.f2.f2)) && decide (y < wrap64 (z.f2.f1 + z.f2.f3))))))) := rfl
    rw [eh]
    generalize (isB z.f2 && (decide (z.f2.f0 ≤ x) && (decide (z.f2.f1 ≤ y) && (decide (x < wrap64 (z.f2.f0 + z.f2.f2)) && decide (y < wrap64 (z.f2.f1 + z.f2.f3)))))) = b
    cases hz : z.f0 <;> cases b <;> rfl
theorem ref_hit (k : Nat) (hk : 200 < k) (L : List S39) (x y : Int) (hL : L.length ≤ 200) (hw : wfD L = true) : gutterref18_Hit.f k L x y = some (hitP (hitL x y L)) := by
  have h := ref_hit_loop L x y hL hw L.length k (by omega) (by omega)
  rw [List.take_length] at h
  have e2 := Aside0.mk (show wrap64 ((L.length : Int) - 1) = (L.length : Int) - 1 from i64w (by omega) (by omega))
  rw [gutterref18_Hit.f, e2.out]
  exact h
def isD (z : S39) : Bool := isB z.f2
theorem ref_all_loop (L : List S39) (hL : L.length ≤ 200) (hw : wfD L = true) (d : Nat) : ∀ (k i : Nat), i ≤ L.length → L.length - i = d → d < k → gutterref18_all.l0 k L i = some ((L.drop i).all isD) := by
  induction d with
  | zero =>
    intro k i hi hd hk
    obtain ⟨k, rfl⟩ : ∃ m, k = m + 1 := ⟨k - 1, by omega⟩
    obtain rfl : i = L.length := by omega
    rw [gutterref18_all.l0, if_neg (by omega), drop_all_end]
  | succ d ih =>
    intro k i hi hd hk
    obtain ⟨k, rfl⟩ : ∃ m, k = m + 1 := ⟨k - 1, by omega⟩
    have hlt : i < L.length := by omega
    have h := ih k (i + 1) (by omega) (by omega) (by omega)
    have hwf := wfD_mem hw _ (List.getElem_mem hlt)
    rw [gutterref18_all.l0, if_pos (by omega), if_pos (by omega), rd39 L i hlt, i1w i (by omega), drop_all _ _ _ hlt]
    generalize L[i] = z at *
    rw [is_f hwf, Option.bind_some, h]
    have e : isD z = isB z.f2 := rfl
    rw [e]
    cases isB z.f2 <;> rfl
theorem ref_all (k : Nat) (hk : 200 < k) (L : List S39) (hL : L.length ≤ 200) (hw : wfD L = true) : gutterref18_all.f k L = some (areB L) :=
  ref_all_loop L hL hw L.length k 0 (by omega) rfl (by omega)
theorem meet_num {a p b q : Int} : mn p q - mx a b > 0 ↔ p > a ∧ p > b ∧ q > a ∧ q > b := by
  unfold mn mx
  split <;> split <;> omega
theorem mnmx_in {a p b q lo hi : Int} (h1 : lo ≤ a ∧ a ≤ hi) (h2 : lo ≤ p ∧ p ≤ hi) (h3 : lo ≤ b ∧ b ≤ hi) (h4 : lo ≤ q ∧ q ≤ hi) : lo - hi ≤ mn p q - mx a b ∧ mn p q - mx a b ≤ hi - lo := by
  unfold mn mx
  split <;> split <;> omega
theorem meet_one {a b c d : Int} (h1 : -1099511627776 ≤ a ∧ a ≤ 1099511627776) (h2 : 0 ≤ b ∧ a + b ≤ 2199023255552) (h3 : -1099511627776 ≤ c ∧ c ≤ 1099511627776) (h4 : 0 ≤ d ∧ c + d ≤ 2199023255552) :
    (wrap64 (mn (wrap64 (a + b)) (wrap64 (c + d)) - mx a c) > 0) ↔ meetZ a (wrap64 (a + b)) c (wrap64 (c + d)) = true := by
  rw [i64w (x := a + b) (by omega) (by omega), i64w (x := c + d) (by omega) (by omega)]
  have h := mnmx_in (a := a) (p := a + b) (b := c) (q := c + d) (lo := -1099511627776) (hi := 2199023255552) (by omega) (by omega) (by omega) (by omega)
  rw [i64w (x := mn (a + b) (c + d) - mx a c) (by omega) (by omega), meet_num, meetZ, decide_eq_true_eq]
theorem filt_snoc (p : S39 → Bool) (L : List S39) (j : Nat) (hj : j < L.length) : (L.take (j + 1)).filter p = (L.take j).filter p ++ (if p L[j] then [L[j]] else []) := by
  rw [List.take_succ_eq_append_getElem hj, List.filter_append]
  simp [List.filter_cons]
theorem ref_seen_loop (L : List S39) (o : S30) (hL : L.length ≤ 200) (hok : ∀ y ∈ L, okH y.f2) (ho : okH o) (d : Nat) :
    ∀ (k i : Nat), i ≤ L.length → L.length - i = d → d < k → gutterref18_Seen.l0 k L ((L.take i).filter fun z => meetB z.f2 o) i o.f0 o.f1 o.f2 o.f3 = some (L.filter fun z => meetB z.f2 o, 0) := by
  induction d with
  | zero =>
    intro k i hi hd hk
    obtain ⟨k, rfl⟩ : ∃ m, k = m + 1 := ⟨k - 1, by omega⟩
    obtain rfl : i = L.length := by omega
    rw [gutterref18_Seen.l0, if_neg (by omega), List.take_length]
  | succ d ih =>
    intro k i hi hd hk
    obtain ⟨k, rfl⟩ : ∃ m, k = m + 1 := ⟨k - 1, by omega⟩
    have hlt : i < L.length := by omega
    have h := ih k (i + 1) (by omega) (by omega) (by omega)
    have hz := hok _ (List.getElem_mem hlt)
    have hs := filt_snoc (fun z => meetB z.f2 o) L i hlt
    have hf : ((L.take i).filter fun z => meetB z.f2 o).length < 2932031007402 := Nat.lt_of_le_of_lt (List.length_filter_le _ _) (by rw [List.length_take]; omega)
    rw [gutterref18_Seen.l0, if_pos (by omega), if_pos (by omega), rd39 L i hlt, i1w i (by omega)]
    generalize L[i] = z at *
    have m0 := meet_one (a := z.f2.f0) (b := z.f2.f2) (c := o.f0) (d := o.f2) hz.1 hz.2.2.1 ho.1 ho.2.2.1
    have m1 := meet_one (a := z.f2.f1) (b := z.f2.f3) (c := o.f1) (d := o.f3) hz.2.1 hz.2.2.2 ho.2.1 ho.2.2.2
    have em : meetB z.f2 o = (meetZ z.f2.f0 (wrap64 (z.f2.f0 + z.f2.f2)) o.f0 (wrap64 (o.f0 + o.f2)) && meetZ z.f2.f1 (wrap64 (z.f2.f1 + z.f2.f3)) o.f1 (wrap64 (o.f1 + o.f3))) := rfl
    rw [em] at hs
    rw [hs] at h
    cases c0 : meetZ z.f2.f0 (wrap64 (z.f2.f0 + z.f2.f2)) o.f0 (wrap64 (o.f0 + o.f2))
    · rw [if_neg (fun x => by rw [m0.1 x] at c0; cases c0)]
      rw [c0] at h
      simpa using h
    · rw [if_pos (m0.2 c0)]
      cases c1 : meetZ z.f2.f1 (wrap64 (z.f2.f1 + z.f2.f3)) o.f1 (wrap64 (o.f1 + o.f3))
      · rw [if_neg (fun x => by rw [m1.1 x] at c1; cases c1)]
        rw [c0, c1] at h
        simpa using h
      · rw [if_pos (m1.2 c1), if_pos hf]
        rw [c0, c1] at h
        exact h
theorem ref_seen (k : Nat) (hk : 300 < k) (L : List S39) (o : S30) (hL : L.length ≤ 200) (hw : wfD L = true) (hwo : wfR o = true) :
    gutterref18_Seen.f k L o.f0 o.f1 o.f2 o.f3 = paint_Seen.f L o.f0 o.f1 o.f2 o.f3 := by
  have hp : paint_Seen.f L o.f0 o.f1 o.f2 o.f3 = some (if areB L = true ∧ isB o = true then (L.filter fun z => meetB z.f2 o, 0) else ([], 170)) := by
    unfold paint_Seen.f
    rw [if_pos ⟨hL, hw⟩]
  rw [hp, gutterref18_Seen.f, is_f hwo, Option.bind_some, ref_all k (by omega) L hL hw]
  obtain ⟨k, rfl⟩ : ∃ m, k = m + 1 := ⟨k - 1, by omega⟩
  cases hB : isB o
  · rw [if_neg (show ¬ false = true by decide), gutterref18_Seen.j0, if_pos rfl, if_neg (by simp)]
  · rw [if_pos (show true = true from rfl), Option.bind_some, gutterref18_Seen.j0]
    cases hA : areB L
    · rw [if_pos (show (!false) = true from rfl), if_neg (by simp)]
    · rw [if_neg (show ¬ (!true) = true by decide), if_pos ⟨rfl, rfl⟩]
      exact ref_seen_loop L o hL (okH_mem hw hA) (okH_of ((isB_iff hwo).1 hB)) L.length k 0 (by omega) rfl (by omega)
theorem hull_ref (a b : S30) (ha : okH a) (hb : okH b) : hullS a b = ⟨mn a.f0 b.f0, mn a.f1 b.f1, wrap64 (mx (wrap64 (a.f0 + a.f2)) (wrap64 (b.f0 + b.f2)) - mn a.f0 b.f0), wrap64 (mx (wrap64 (a.f1 + a.f3)) (wrap64 (b.f1 + b.f3)) - mn a.f1 b.f1)⟩ := by
  have em : ∀ x y : Int, mn x y = min x y := fun x y => by unfold mn; split <;> omega
  have ex : ∀ x y : Int, mx x y = max x y := fun x y => by unfold mx; split <;> omega
  rw [hull_plain a b ha hb, em, em, ex, ex]
  simp only [okH] at ha hb
  rw [i64w (x := a.f0 + a.f2) (by omega) (by omega), i64w (x := b.f0 + b.f2) (by omega) (by omega), i64w (x := a.f1 + a.f3) (by omega) (by omega), i64w (x := b.f1 + b.f3) (by omega) (by omega),
    i64w (x := max (a.f0 + a.f2) (b.f0 + b.f2) - min a.f0 b.f0) (by omega) (by omega), i64w (x := max (a.f1 + a.f3) (b.f1 + b.f3) - min a.f1 b.f1) (by omega) (by omega)]
theorem ref_bounds_loop (L : List S39) (hL : L.length ≤ 200) (hp : 0 < L.length) (hok : ∀ y ∈ L, okH y.f2) (d : Nat) :
    ∀ (k i : Nat) (o : S30), i ≤ L.length → L.length - i = d → d < k → o = boundF (rd_T39 L 0).f2 (L.take i) → gutterref18_Bounds.l0 k L i o.f0 o.f1 o.f2 o.f3 = some ((boundsL L).f0, (boundsL L).f1, (boundsL L).f2, (boundsL L).f3, 0) := by
  induction d with
  | zero =>
    intro k i o hi hd hk ho
    obtain ⟨k, rfl⟩ : ∃ m, k = m + 1 := ⟨k - 1, by omega⟩
    obtain rfl : i = L.length := by omega
    rw [List.take_length] at ho
    obtain rfl : o = boundsL L := ho
    rw [gutterref18_Bounds.l0, if_neg (by omega)]
  | succ d ih =>
    intro k i o hi hd hk ho
    obtain ⟨k, rfl⟩ : ∃ m, k = m + 1 := ⟨k - 1, by omega⟩
    have hlt : i < L.length := by omega
    have hoo : okH o := by
      rw [ho]
      refine (bd_all (rd_T39 L 0) (L.take i) fun y hy => ?_).1
      rcases List.mem_cons.1 hy with rfl | hy
      · exact hok _ (rd_mem L 0 hp)
      · exact hok _ (List.mem_of_mem_take hy)
    have hz := hok _ (List.getElem_mem hlt)
    have hn : boundF (rd_T39 L 0).f2 (L.take (i + 1)) = hullS o L[i].f2 := by rw [List.take_succ_eq_append_getElem hlt, boundF_snoc, ← ho]
    rw [hull_ref _ _ hoo hz] at hn
    have h := ih k (i + 1) _ (by omega) (by omega) (by omega) hn.symm
    rw [gutterref18_Bounds.l0, if_pos (by omega), if_pos (by omega), rd39 L i hlt, i1w i (by omega)]
    exact h
theorem ref_bounds (k : Nat) (hk : 300 < k) (L : List S39) (hL : L.length ≤ 200) (hw : wfD L = true) : gutterref18_Bounds.f k L = paint_Bounds.f L := by
  rw [bounds_ok L hL hw]
  unfold gutterref18_Bounds.f
  rw [ref_all k (by omega) L hL hw]
  obtain ⟨k, rfl⟩ : ∃ m, k = m + 1 := ⟨k - 1, by omega⟩
  by_cases h0 : L.length = 0
  · rw [if_pos (by omega), gutterref18_Bounds.j0, if_pos rfl, if_neg (by omega)]
  · rw [if_neg (by omega), Option.bind_some, gutterref18_Bounds.j0]
    cases hA : areB L
    · rw [if_pos (show (!false) = true from rfl), if_neg (by simp)]
    · rw [if_neg (show ¬ (!true) = true by decide), if_pos (by omega), if_pos ⟨rfl, by omega⟩]
      exact ref_bounds_loop L hL (by omega) (okH_mem hw hA) L.length k 0 (rd_T39 L 0).f2 (by omega) rfl (by omega) (by simp [boundF])
theorem same_step (l m : List S39) (hl : l.length ≤ 1000) (hlm : l.length = m.length) (d : Nat) : ∀ (k i : Nat), i ≤ l.length → l.length - i = d → d < k → ∃ b, gutterref18_Same.l0 k l m i = some b ∧ api_Draw.l0 k l m (l.length : Int) i = some b := by
  induction d with
  | zero =>
    intro k i hi hd hk
    obtain ⟨k, rfl⟩ : ∃ m, k = m + 1 := ⟨k - 1, by omega⟩
    refine ⟨true, ?_, ?_⟩
    · rw [gutterref18_Same.l0, if_neg (by omega)]
    · rw [api_Draw.l0, if_neg (by omega)]
  | succ d ih =>
    intro k i hi hd hk
    obtain ⟨k, rfl⟩ : ∃ m, k = m + 1 := ⟨k - 1, by omega⟩
    obtain ⟨b, h1, h2⟩ := ih k (i + 1) (by omega) (by omega) (by omega)
    have e5 := Aside0.mk (i1w i (by omega))
    have s1 : gutterref18_Same.l0 (k + 1) l m i = if (!(rd_T39 l i).f0 == (rd_T39 m i).f0 || (!(rd_T39 l i).f1 == (rd_T39 m i).f1 || (!(rd_T39 l i).f2.f0 == (rd_T39 m i).f2.f0 || (!(rd_T39 l i).f2.f1 == (rd_T39 m i).f2.f1 || (!(rd_T39 l i).f2.f2 == (rd_T39 m i).f2.f2 || !(rd_T39 l i).f2.f3 == (rd_T39 m i).f2.f3))))) = true then some false else some b := by
      rw [gutterref18_Same.l0, if_pos (by omega), if_pos (by omega), if_pos (by omega), e5.out, h1]
    have s2 : api_Draw.l0 (k + 1) l m (l.length : Int) i = if (!(rd_T39 l i).f0 == (rd_T39 m i).f0 || (!(rd_T39 l i).f1 == (rd_T39 m i).f1 || (!(rd_T39 l i).f2.f0 == (rd_T39 m i).f2.f0 || (!(rd_T39 l i).f2.f1 == (rd_T39 m i).f2.f1 || (!(rd_T39 l i).f2.f2 == (rd_T39 m i).f2.f2 || !(rd_T39 l i).f2.f3 == (rd_T39 m i).f2.f3))))) = true then some false else some b := by
      rw [api_Draw.l0, if_pos (by omega), if_pos (by omega), if_pos (by omega), if_pos (by omega), e5.out, h2]
    rw [s1, s2]
    generalize (!(rd_T39 l i).f0 == (rd_T39 m i).f0 || (!(rd_T39 l i).f1 == (rd_T39 m i).f1 || (!(rd_T39 l i).f2.f0 == (rd_T39 m i).f2.f0 || (!(rd_T39 l i).f2.f1 == (rd_T39 m i).f2.f1 || (!(rd_T39 l i).f2.f2 == (rd_T39 m i).f2.f2 || !(rd_T39 l i).f2.f3 == (rd_T39 m i).f2.f3))))) = c
    cases c
    · exact ⟨b, rfl, rfl⟩
    · exact ⟨false, rfl, rfl⟩
theorem same_both (k : Nat) (hk : 1000 < k) (l m : List S39) (hl : l.length ≤ 1000) : ∃ b, gutterref18_Same.f k l m = some b ∧ paint_Same.f k l m = some b := by
  unfold gutterref18_Same.f paint_Same.f api_Draw.f
  by_cases h : l.length = m.length
  · obtain ⟨b, h1, h2⟩ := same_step l m hl h l.length k 0 (by omega) rfl (by omega)
    have h1 : gutterref18_Same.l0 k l m 0 = some b := h1
    have h2 : api_Draw.l0 k l m (l.length : Int) 0 = some b := h2
    exact ⟨b, by rw [if_pos (by omega), h1], by rw [if_pos (by omega), h2, Option.bind_some]⟩
  · exact ⟨false, by rw [if_neg (by omega)], by rw [if_neg (by omega), Option.bind_some]⟩
theorem ref_same_loop (l : List S39) (hl : l.length ≤ 1000) (d : Nat) : ∀ (k i : Nat), i ≤ l.length → l.length - i = d → d < k → gutterref18_Same.l0 k l l i = some true := by
  induction d with
  | zero =>
    intro k i hi hd hk
    obtain ⟨k, rfl⟩ : ∃ m, k = m + 1 := ⟨k - 1, by omega⟩
    rw [gutterref18_Same.l0, if_neg (by omega)]
  | succ d ih =>
    intro k i hi hd hk
    obtain ⟨k, rfl⟩ : ∃ m, k = m + 1 := ⟨k - 1, by omega⟩
    rw [gutterref18_Same.l0, if_pos (by omega), if_pos (by omega), if_pos (by omega), if_neg (by simp), i1w i (by omega)]
    exact ih k (i + 1) (by omega) (by omega) (by omega)
theorem ref_same_self (k : Nat) (hk : 1000 < k) (l : List S39) (hl : l.length ≤ 1000) : gutterref18_Same.f k l l = some true := by
  unfold gutterref18_Same.f
  rw [if_pos rfl]
  exact ref_same_loop l hl l.length k 0 (by omega) rfl (by omega)
theorem paint_same_self (k : Nat) (hk : 1000 < k) (l : List S39) (hl : l.length ≤ 1000) : paint_Same.f k l l = some true := by
  obtain ⟨b, h1, h2⟩ := same_both k hk l l hl
  rw [ref_same_self k hk l hl] at h1
  rw [h2, ← h1]
end Go.Proofs.YtkmddhljfjjglaaDoor.G
