/- Chapter 18, plainly: PaintOrder. Written by mkH3.py. -/
import Derived.Test.YtkmddhljfjjglaaDoorH0
import Derived.Test.YtkmddhljfjjglaaDoorG12
import Derived.Test.YtkmddhljfjjglaaDoorR
namespace Go.Proofs.YtkmddhljfjjglaaDoor.G
open Go.RowKit Go.Proofs.YtkmddhljfjjglaaDoorW.PrintWords Go.Proofs.YtkmddhljfjjglaaDoorW.PrintLast Go.Proofs.YtkmddhljfjjglaaDoorW.PrintMore

theorem rd_app (l t : List S39) (x : S39) (n : Nat) (h : l.length = n) : rd_T39 (l ++ x :: t) (n : Int) = x := by
  subst h
  simp [rd_T39]
theorem kept_take (fs : List S41) (j : Nat) (hj : j < fs.length) : keptL (fs.take (j + 1)) = keptL (fs.take j) ++ (if drawnB (mkF (rd_T41 fs j)) then [mkF (rd_T41 fs j)] else []) := by
  rw [List.take_succ_eq_append_getElem hj, keptL, List.map_append, List.filter_append, keptL]
  simp [rd_T41, hj, List.filter_cons]
theorem kept_rest (fs : List S41) (j : Nat) : ∃ t, keptL fs = keptL (fs.take j) ++ t := ⟨keptL (fs.drop j), by rw [keptL, keptL, keptL, ← List.filter_append, ← List.map_append, List.take_append_drop]⟩
theorem memF_rd (fs : List S41) (k : Nat) (hk : k < fs.length) : rd_T41 fs k ∈ fs := by
  have : rd_T41 fs k = fs[k] := by simp [rd_T41, hk]
  rw [this]
  exact List.getElem_mem hk
theorem order_loop1 (rs : List S30) (fs : List S41) (h0 : rs.length ≤ 60) (h1 : fs.length ≤ 100) (hk : ∀ f ∈ fs, 0 ≤ f.f3.f2 ∧ 0 ≤ f.f3.f3) (d : Nat) :
    ∀ (k j : Nat), j ≤ fs.length → fs.length - j = d → 2 * d + 1 < k → gutterlaw18_PaintOrder.l1 k fs true (rs.map mkR ++ keptL fs) ((rs.length + (keptL (fs.take j)).length : Nat) : Int) j = some true := by
  induction d with
  | zero =>
    intro k j hj hd hkk
    obtain ⟨k, rfl⟩ : ∃ m, k = m + 1 := ⟨k - 1, by omega⟩
    obtain rfl : j = fs.length := by omega
    simp only [gutterlaw18_PaintOrder.l1]
    rw [if_neg (by omega), if_pos trivial, List.take_length]
    simp
  | succ d ih =>
    intro k j hj hd hkk
    obtain ⟨k, rfl⟩ : ∃ m, k = m + 2 := ⟨k - 2, by omega⟩
    have hlt : j < fs.length := by omega
    have hkl := keptL_len (fs.take j)
    rw [List.length_take] at hkl
    have hz := hk _ (memF_rd fs j hlt)
    have ht := kept_take fs j hlt
    obtain ⟨t, hrest⟩ := kept_rest fs (j + 1)
    simp only [gutterlaw18_PaintOrder.l1, gutterlaw18_PaintOrder.j2]
    rw [if_pos (by omega), if_pos (by omega)]
    generalize rd_T41 fs j = f at *
    have hcond : drawnB (mkF f) = (decide (f.f3.f2 > 0) && decide (f.f3.f3 > 0)) := rfl
    have e1 := Aside0.mk (show wrap64 ((j : Int) + 1) = ((j + 1 : Nat) : Int) from by rw [i64w (by omega) (by omega)]; omega)
    have skip : drawnB (mkF f) = false → gutterlaw18_PaintOrder.l1 k fs true (rs.map mkR ++ keptL fs) ((rs.length + (keptL (fs.take j)).length : Nat) : Int) (wrap64 ((j : Int) + 1)) = some true := fun hf => by
      have h := ih k (j + 1) (by omega) (by omega) (by omega)
      rw [ht, hf] at h
      rw [e1.out]
      simpa using h
    have go : drawnB (mkF f) = true → (¬ f.f3.f2 = 0 ∧ ¬ f.f3.f3 = 0) := fun hf => by
      rw [hcond, Bool.and_eq_true, decide_eq_true_eq, decide_eq_true_eq] at hf
      omega
    have no : ¬ f.f3.f2 = 0 → ¬ f.f3.f3 = 0 → drawnB (mkF f) = true := fun ha hb => by
      rw [hcond, Bool.and_eq_true, decide_eq_true_eq, decide_eq_true_eq]
      omega
    by_cases hw : f.f3.f2 = 0
    · rw [if_pos hw, if_pos trivial]
      exact skip (Bool.eq_false_iff.mpr fun h => (go h).1 hw)
    rw [if_neg hw]
    by_cases hh : f.f3.f3 = 0
    · rw [if_pos (by simp [hh])]
      exact skip (Bool.eq_false_iff.mpr fun h => (go h).2 hh)
    have hd2 := no hw hh
    rw [if_neg (by simp [hh])]
    rw [ht, if_pos hd2] at hrest
    have hlen : ((rs.map mkR ++ keptL fs).length : Int) = ((rs.length + (keptL (fs.take j)).length + 1 + t.length : Nat) : Int) := by rw [hrest]; simp; omega
    have hrd : rd_T39 (rs.map mkR ++ keptL fs) ((rs.length + (keptL (fs.take j)).length : Nat) : Int) = mkF f := by
      rw [hrest, List.append_assoc, List.singleton_append, ← List.append_assoc]
      exact rd_app _ _ _ _ (by simp)
    rw [if_neg (by omega), if_pos (by omega), if_pos (by omega), if_pos (by omega), if_pos (by omega), hrd, if_neg (by simp [mkF])]
    have h := ih k (j + 1) (by omega) (by omega) (by omega)
    rw [ht, if_pos hd2] at h
    rw [e1.out, i64w (by omega) (by omega)]
    simpa [Nat.add_assoc, Int.add_assoc] using h
theorem rd_mapR (rs : List S30) (t : List S39) (i : Nat) (hi : i < rs.length) : rd_T39 (rs.map mkR ++ t) (i : Int) = mkR (rd_T30 rs i) := by
  simp [rd_T39, rd_T30, hi, List.getElem?_append_left]
theorem order_loop0 (rs : List S30) (fs : List S41) (h0 : rs.length ≤ 60) (h1 : fs.length ≤ 100) (hk : ∀ f ∈ fs, 0 ≤ f.f3.f2 ∧ 0 ≤ f.f3.f3) (d : Nat) :
    ∀ (k i : Nat), i ≤ rs.length → rs.length - i = d → d + 202 < k → gutterlaw18_PaintOrder.l0 k rs fs true (rs.map mkR ++ keptL fs) i = some true := by
  have hlen : ((rs.map mkR ++ keptL fs).length : Int) = ((rs.length + (keptL fs).length : Nat) : Int) := by simp
  induction d with
  | zero =>
    intro k i hi hd hkk
    obtain ⟨k, rfl⟩ : ∃ m, k = m + 1 := ⟨k - 1, by omega⟩
    simp only [gutterlaw18_PaintOrder.l0]
    rw [if_neg (by omega)]
    have h := order_loop1 rs fs h0 h1 hk fs.length k 0 (by omega) rfl (by omega)
    simpa [keptL] using h
  | succ d ih =>
    intro k i hi hd hkk
    obtain ⟨k, rfl⟩ : ∃ m, k = m + 1 := ⟨k - 1, by omega⟩
    have e1 := Aside0.mk (show wrap64 ((i : Int) + 1) = ((i + 1 : Nat) : Int) from by rw [i64w (by omega) (by omega)]; omega)
    simp only [gutterlaw18_PaintOrder.l0]
    rw [if_pos (by omega), if_neg (by omega), if_pos (by omega), if_pos (by omega), rd_mapR rs _ i (by omega), if_neg (by simp [mkR]), e1.out]
    exact ih k (i + 1) (by omega) (by omega) (by omega)
theorem PaintOrder (l0 : List S30) (l1 : List S41) (h0 : l0.all wfR = true) (_ : l1.all wfF = true) : ∃ k, gutterlaw18_PaintOrder.f k l0 l1 = some true := by
  refine ⟨400, ?_⟩
  unfold gutterlaw18_PaintOrder.f
  rw [shown_ge (by omega), pieces_eq 400 (by omega) l1]
  simp only [Option.bind_some]
  have hr : (l0.take 60).all wfR = true := all_take h0 60
  have hrl : (l0.take 60).length ≤ 60 := by rw [List.length_take]; omega
  have hfl := piecesL_len l1
  have hfw := piecesL_near l1
  generalize l0.take 60 = rs at *
  generalize piecesL l1 = fs at *
  rw [draws_eq rs fs hrl hfl hr hfw]
  simp only [Option.bind_some]
  by_cases hB : areB (drawsL rs fs) = true
  · rw [if_pos hB]
    dsimp only
    rw [if_pos rfl]
    have hout : (drawsL rs fs).filter drawnB = rs.map mkR ++ keptL fs := drawn_split rs fs
    rw [hout]
    have hk : ∀ f ∈ fs, 0 ≤ f.f3.f2 ∧ 0 ≤ f.f3.f3 := by
      intro f hf
      have := areB_mem hB (mkF f) (by simp only [drawsL, List.mem_append, List.mem_map]; exact .inr ⟨f, hf, rfl⟩)
      exact ⟨(isB_in this).2.2.1.1, (isB_in this).2.2.2.1⟩
    have h := order_loop0 rs fs hrl hfl hk rs.length 400 0 (by omega) rfl (by omega)
    exact h
  · rw [if_neg hB]
    dsimp only
    rw [if_neg (by decide), if_pos trivial]
    rfl
end Go.Proofs.YtkmddhljfjjglaaDoor.G
