/- Chapter 18, plainly: PaintSeen. Written by mkH4.py. -/
import Derived.Test.YtkmddhljfjjglaaDoorH4
import Derived.Test.YtkmddhljfjjglaaDoorG27
namespace Go.Proofs.YtkmddhljfjjglaaDoor.G
open Go.RowKit Go.Proofs.YtkmddhljfjjglaaDoorW.PrintWords Go.Proofs.YtkmddhljfjjglaaDoorW.PrintLast Go.Proofs.YtkmddhljfjjglaaDoorW.PrintMore
def posB (z : S39) : Bool := decide (z.f2.f2 > 0) && decide (z.f2.f3 > 0)
theorem pos_take (l : List S39) (j : Nat) (hj : j < l.length) : (l.take (j + 1)).filter posB = (l.take j).filter posB ++ (if posB (rd_T39 l j) then [rd_T39 l j] else []) := by
  rw [List.take_succ_eq_append_getElem hj, List.filter_append]
  simp [rd_T39, hj, List.filter_cons]
theorem draw_same (l : List S39) (hl : l.length ≤ 100) (d : Nat) : ∀ (k i : Nat), i ≤ l.length → l.length - i = d → d < k → api_Draw.l0 k l l (l.length : Int) i = some true := by
  induction d with
  | zero =>
    intro k i hi hd hk
    obtain ⟨k, rfl⟩ : ∃ m, k = m + 1 := ⟨k - 1, by omega⟩
    rw [api_Draw.l0, if_neg (by omega)]
  | succ d ih =>
    intro k i hi hd hk
    obtain ⟨k, rfl⟩ : ∃ m, k = m + 1 := ⟨k - 1, by omega⟩
    have e5 := Aside0.mk (show wrap64 ((i : Int) + 1) = ((i + 1 : Nat) : Int) from by rw [i64w (by omega) (by omega)]; omega)
    rw [api_Draw.l0, if_pos (by omega), if_pos (by omega), if_pos (by omega), if_pos (by omega), if_neg (by simp), e5.out]
    exact ih k (i + 1) (by omega) (by omega) (by omega)
theorem same_self (l : List S39) (hl : l.length ≤ 100) (k : Nat) (hk : 100 < k) : paint_Same.f k l l = some true := by
  unfold paint_Same.f api_Draw.f
  rw [if_pos rfl, show api_Draw.l0 k l l (l.length : Int) 0 = some true from draw_same l hl l.length k 0 (by omega) rfl (by omega)]
  rfl
theorem seen_loop (L M : List S39) (x y o0 o1 o2 o3 : Int) (hb : Int × Bool) (hL : L.length ≤ 60) (hs1 : paint_Seen.f L o0 o1 o2 o3 = some (L.filter posB, 0)) (hs2 : paint_Seen.f L x y 1 1 = some (M, 0)) (hh1 : paint_Hit.f L x y = some hb) (hh2 : paint_Hit.f M x y = some hb) (d : Nat) :
    ∀ (k i : Nat), i ≤ L.length → L.length - i = d → d + 102 < k → gutterlaw18_PaintSeen.l0 k L x y true ((L.take i).filter posB) i o0 o1 o2 o3 = some true := by
  induction d with
  | zero =>
    intro k i hi hd hk
    obtain ⟨k, rfl⟩ : ∃ m, k = m + 1 := ⟨k - 1, by omega⟩
    obtain rfl : i = L.length := by omega
    have hf : (L.filter posB).length ≤ L.length := List.length_filter_le _ _
    rw [gutterlaw18_PaintSeen.l0, if_neg (by omega), hs1, hs2, hh1, List.take_length]
    simp only [Option.bind_some]
    rw [hh2]
    simp only [Option.bind_some]
    rw [if_pos trivial, if_pos trivial, if_pos trivial, same_self _ (by omega) k (by omega)]
    simp
  | succ d ih =>
    intro k i hi hd hk
    obtain ⟨k, rfl⟩ : ∃ m, k = m + 1 := ⟨k - 1, by omega⟩
    have hlt : i < L.length := by omega
    have e5 := Aside0.mk (show wrap64 ((i : Int) + 1) = ((i + 1 : Nat) : Int) from by rw [i64w (by omega) (by omega)]; omega)
    have ht := pos_take L i hlt
    have hf : ((L.take i).filter posB).length ≤ 60 := Nat.le_trans (List.length_filter_le _ _) (by rw [List.length_take]; omega)
    have h := ih k (i + 1) (by omega) (by omega) (by omega)
    rw [gutterlaw18_PaintSeen.l0, if_pos (by omega), if_pos (by omega), e5.out]
    by_cases h1 : (rd_T39 L i).f2.f2 > 0
    · rw [if_pos h1]
      by_cases h2 : (rd_T39 L i).f2.f3 > 0
      · rw [if_pos h2, if_pos (by omega)]
        rw [ht, if_pos (by simp [posB, h1, h2])] at h
        exact h
      · rw [if_neg h2]
        rw [ht, if_neg (by simp [posB, h2]), List.append_nil] at h
        exact h
    · rw [if_neg h1]
      rw [ht, if_neg (by simp [posB, h1]), List.append_nil] at h
      exact h
theorem hit_meet (x y : Int) (hx : -1000000 ≤ x ∧ x ≤ 1000000) (hy : -1000000 ≤ y ∧ y ≤ 1000000) (z : S39) (h : hitB x y z = true) : meetB z.f2 ⟨x, y, 1, 1⟩ = true := by
  simp only [hitB, Bool.and_eq_true, decide_eq_true_eq] at h
  simp only [meetB, meetZ, Bool.and_eq_true, decide_eq_true_eq]
  rw [i64w (x := x + 1) (by omega) (by omega), i64w (x := y + 1) (by omega) (by omega)]
  omega
theorem hit_seen (L : List S39) (x y : Int) (hx : -1000000 ≤ x ∧ x ≤ 1000000) (hy : -1000000 ≤ y ∧ y ≤ 1000000) : hitL x y (L.filter fun z => meetB z.f2 ⟨x, y, 1, 1⟩) = hitL x y L := by
  unfold hitL
  rw [← List.filter_reverse, List.find?_filter]
  congr 1
  funext z
  rw [Bool.eq_iff_iff]
  simp only [decide_eq_true_eq]
  exact ⟨fun h => h.2, fun h => ⟨hit_meet x y hx hy z h, h⟩⟩
theorem meet_pos (L : List S39) (hok : ∀ y ∈ L, okH y.f2) (o : S30) (ho : okH o) (hall : ∀ y ∈ L, o.f0 ≤ y.f2.f0 ∧ o.f1 ≤ y.f2.f1 ∧ y.f2.f0 + y.f2.f2 ≤ o.f0 + o.f2 ∧ y.f2.f1 + y.f2.f3 ≤ o.f1 + o.f3) : (L.filter fun z => meetB z.f2 o) = L.filter posB := by
  refine List.filter_congr fun z hz => ?_
  have h1 := hok z hz
  have h2 := hall z hz
  simp only [okH] at h1 ho
  rw [Bool.eq_iff_iff]
  simp only [meetB, meetZ, posB, Bool.and_eq_true, decide_eq_true_eq]
  rw [i64w (x := z.f2.f0 + z.f2.f2) (by omega) (by omega), i64w (x := z.f2.f1 + z.f2.f3) (by omega) (by omega), i64w (x := o.f0 + o.f2) (by omega) (by omega), i64w (x := o.f1 + o.f3) (by omega) (by omega)]
  omega
theorem PaintSeen (l0 : List S39) (x y : Int) (h : l0.all wfX = true) (_ : (Lit.int .i64 x).wf = true) (_ : (Lit.int .i64 y).wf = true) : ∃ k, gutterlaw18_PaintSeen.f k l0 x y = some true := by
  refine ⟨200, ?_⟩
  unfold gutterlaw18_PaintSeen.f
  rw [shown_ge (by omega)]
  simp only [Option.bind_some]
  have hlen : (l0.take 60).length ≤ 60 := by rw [List.length_take]; omega
  have hw : wfD (l0.take 60) = true := wfX_D (all_take h 60)
  generalize l0.take 60 = L at *
  rw [bounds_ok L (by omega) hw]
  simp only [Option.bind_some]
  have skip : ∀ a b c d, gutterlaw18_PaintSeen.j0 200 L x y true true a b c d = some true := fun a b c d => by rw [gutterlaw18_PaintSeen.j0, if_pos rfl]
  by_cases hB : areB L = true ∧ 0 < L.length
  · rw [if_pos hB]
    dsimp only
    rw [if_pos rfl]
    have hok := okH_mem hw hB.1
    obtain ⟨h1, h2, -⟩ := bd_list L hB.2 hok
    generalize boundsL L = o at *
    by_cases c1 : x < -1000000
    · rw [if_pos c1]; exact skip _ _ _ _
    by_cases c2 : x > 1000000
    · rw [if_neg c1, if_pos c2]; exact skip _ _ _ _
    by_cases c3 : y < -1000000
    · rw [if_neg c1, if_neg c2, if_pos c3]; exact skip _ _ _ _
    by_cases c4 : y > 1000000
    · rw [if_neg c1, if_neg c2, if_neg c3, if_pos c4]; exact skip _ _ _ _
    by_cases c5 : o.f2 > 1099511627776
    · rw [if_neg c1, if_neg c2, if_neg c3, if_neg c4, if_pos c5]; exact skip _ _ _ _
    rw [if_neg c1, if_neg c2, if_neg c3, if_neg c4, if_neg c5]
    by_cases c6 : o.f3 > 1099511627776
    · rw [show decide (o.f3 > 1099511627776) = true from decide_eq_true c6]; exact skip _ _ _ _
    rw [show decide (o.f3 > 1099511627776) = false from decide_eq_false c6, gutterlaw18_PaintSeen.j0, if_neg (by decide)]
    have hoP : RectP o := by
      simp only [okH] at h1
      simp only [RectP]
      omega
    have hoW : wfR o = true := by
      simp only [RectP] at hoP
      simp only [wfR, r64B, Bool.and_eq_true, decide_eq_true_eq]
      omega
    have hoB : isB o = true := (isB_iff hoW).2 hoP
    have hpB : isB ⟨x, y, 1, 1⟩ = true := by
      refine (isB_iff ?_).2 ?_
      · simp only [wfR, r64B, Bool.and_eq_true, decide_eq_true_eq]
        omega
      · simp only [RectP]
        omega
    have hs1 : paint_Seen.f L o.f0 o.f1 o.f2 o.f3 = some (L.filter posB, 0) := by
      unfold paint_Seen.f
      rw [if_pos ⟨by omega, hw⟩, if_pos ⟨hB.1, hoB⟩]
      rw [← meet_pos L hok o h1 h2]
    have hs2 : paint_Seen.f L x y 1 1 = some (L.filter fun z => meetB z.f2 ⟨x, y, 1, 1⟩, 0) := by
      unfold paint_Seen.f
      rw [if_pos ⟨by omega, hw⟩, if_pos ⟨hB.1, hpB⟩]
    have hh1 : paint_Hit.f L x y = some (hitP (hitL x y L)) := by
      unfold paint_Hit.f
      rw [if_pos (by omega)]
    have hh2 : paint_Hit.f (L.filter fun z => meetB z.f2 ⟨x, y, 1, 1⟩) x y = some (hitP (hitL x y L)) := by
      unfold paint_Hit.f
      have := List.length_filter_le (fun z : S39 => meetB z.f2 ⟨x, y, 1, 1⟩) L
      rw [if_pos (by omega), hit_seen L x y (by omega) (by omega)]
    exact seen_loop L _ x y o.f0 o.f1 o.f2 o.f3 _ hlen hs1 hs2 hh1 hh2 L.length 199 0 (by omega) rfl (by omega)
  · rw [if_neg hB]
    dsimp only
    rw [if_neg (by decide)]
    exact skip _ _ _ _
end Go.Proofs.YtkmddhljfjjglaaDoor.G
