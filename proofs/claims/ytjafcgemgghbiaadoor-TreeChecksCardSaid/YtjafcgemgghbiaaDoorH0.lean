/- Chapter 5: plain blocks: whether they are right. Written by tmpl.py out of H0.tl. -/
import Derived.Test.YtjafcgemgghbiaaDoorF21
namespace Go.Proofs.YtjafcgemgghbiaaDoor.G
theorem blk_form (p : Int) : formB (blkN p) = true := by
  have e : eqN (blkN p) (bareN (blkN p)) = true := by
    have h2 : (blkN p).f2 = (bareN (blkN p)).f2 := rfl
    unfold eqN
    rw [h2]
    have h3 : zN.f3 = 0 := rfl
    have h4 : zN.f4 = 0 := rfl
    simp [blkN, bareN, h3, h4]
  have hh : holdB (blkN p) = true := rfl
  unfold formB
  have k1 : (blkN p).f1 = 1 := rfl
  rw [k1, if_neg (by decide), if_neg (by decide), hh, e]
  rfl
theorem blk_styR (p : Int) : styR (blkN p) = true := by
  show rightB 0 0 0 0 false 0 1 1 false 0 0 false 0 false 0 0 = true
  decide
theorem blk_good {t : List Node} {i : Nat} {p : Int} (h : t.getD i zN = blkN p) (h0 : i = 0 → p = -1) (h1 : 0 < i → 0 ≤ p ∧ p < i ∧ ∃ q, t.getD p.toNat zN = blkN q) : goodB t i = true := by
  have hp : placeB t i = true := by
    unfold placeB
    by_cases hi : i = 0
    · subst hi
      rw [if_pos rfl, h, h0 rfl]
      rfl
    · obtain ⟨q1, q2, q, hq⟩ := h1 (by omega)
      rw [if_neg hi, parentOf, if_pos ⟨by omega, by rw [h]; exact q1, by rw [h]; exact q2⟩, h]
      show holdB (t.getD p.toNat zN) = true
      rw [hq]
      rfl
  have hs : styleB t i = true := by
    unfold styleB
    rw [h, blk_styR]
    have h2 : styM (blkN p) = false := rfl
    rw [h2]
    have h3 : (blkN p).f5.f12 = 0 := rfl
    have h4 : (blkN p).f1 = 1 := rfl
    have h5 : (blkN p).f5.f11 = false := rfl
    rw [h3, h4, h5]
    simp
  unfold goodB
  rw [hp, h, blk_form, hs]
  rfl
theorem scan_all {t : List Node} : ∀ (f i : Nat), (∀ j, i ≤ j → j < i + f → goodB t j = true ∧ depN t j (depsL t j) ≤ 64) → scanT t f i = none
  | 0, _, _ => rfl
  | f + 1, i, h => by
    obtain ⟨h1, h2⟩ := h i (Nat.le_refl _) (by omega)
    rw [scanT, if_pos h1, if_neg (by omega)]
    exact scan_all f (i + 1) fun j hj hlt => h j (by omega) (by omega)
theorem open_all {t : List Node} (h0 : 1 ≤ t.length) (h1 : t.length ≤ 200) (h : ∀ j, j < t.length → goodB t j = true ∧ depN t j (depsL t j) ≤ 64) : openT t = none := by
  rw [openT, if_neg (by omega)]
  exact scan_all _ 0 fun j _ hj => h j (by omega)
def t4 : List Node := [blkN (-1), blkN 0, blkN 0, blkN 1]
theorem t4_open : openT t4 = none := open_all (by decide) (by decide) fun j hj => by
  have hj4 : j < 4 := hj
  have hc : j = 0 ∨ j = 1 ∨ j = 2 ∨ j = 3 := by omega
  rcases hc with rfl | rfl | rfl | rfl
  · exact ⟨blk_good (p := -1) rfl (fun _ => rfl) (fun h => absurd h (by decide)), by decide⟩
  · exact ⟨blk_good (p := 0) rfl (fun h => absurd h (by decide)) (fun _ => ⟨by decide, by decide, _, rfl⟩), by decide⟩
  · exact ⟨blk_good (p := 0) rfl (fun h => absurd h (by decide)) (fun _ => ⟨by decide, by decide, _, rfl⟩), by decide⟩
  · exact ⟨blk_good (p := 1) rfl (fun h => absurd h (by decide)) (fun _ => ⟨by decide, by decide, _, rfl⟩), by decide⟩
theorem t4_below : belowL t4 0 = [0, 1, 3, 2] := by decide
theorem t4_order : tree_Order.f t4 = some ([0, 1, 3, 2], 0) := by
  have e : errN t4 0 = 0 := by unfold errN; rw [t4_open]; rfl
  unfold tree_Order.f tree_Below.f
  rw [if_neg (by rw [e]; simp), t4_below]
  rfl
theorem t4_deep : tree_Deep.f t4 3 = some (3, 0) := by
  have e : errN t4 3 = 0 := by unfold errN; rw [t4_open]; rfl
  unfold tree_Deep.f
  rw [if_neg (by rw [e]; simp)]
  decide
theorem t4_kids : tree_Kids.f t4 4 = some ([], 53) := by
  have e : errN t4 4 = 53 := by unfold errN; rw [t4_open]; rfl
  unfold tree_Kids.f
  rw [if_pos (by rw [e]; decide), e]
theorem t2_check : tree_Check.f [blkN (-1), blkN 1] = some (1, 50) := by
  have g0 : goodB [blkN (-1), blkN 1] 0 = true := blk_good (p := -1) rfl (fun _ => rfl) (fun h => absurd h (by decide))
  have g1 : goodB [blkN (-1), blkN 1] 1 = false := by
    have : placeB [blkN (-1), blkN 1] 1 = false := by decide
    unfold goodB
    rw [this]; rfl
  have e : openT [blkN (-1), blkN 1] = some (1, 0) := by
    rw [openT, if_neg (by decide)]
    show scanT _ 2 0 = _
    rw [scanT, if_pos g0, if_neg (by decide), scanT, if_neg (by rw [g1]; decide)]
  unfold tree_Check.f
  rw [e]
  rfl
end Go.Proofs.YtjafcgemgghbiaaDoor.G
