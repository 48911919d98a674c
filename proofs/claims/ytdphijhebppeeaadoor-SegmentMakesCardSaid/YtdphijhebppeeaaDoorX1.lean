/- Chapter 16: the known segments are shown; lists that are the same. Written by tmpl.py out of X1.tl. -/
import Derived.Test.YtdphijhebppeeaaDoorF34
import Derived.Test.YtdphijhebppeeaaDoorF35
import Derived.Test.YtdphijhebppeeaaDoorG2
import Derived.Test.YtdphijhebppeeaaDoorR
namespace Go.Proofs.YtdphijhebppeeaaDoor.G
open Go Go.RowKit Go.Proofs.YtdphijhebppeeaaDoorW.PrintWords
theorem ints_l (a b : List Int) (hl : a.length = b.length) (hm : a.length ≤ 1000000) : ∀ (k i : Nat), i ≤ a.length → a.length < k + i → gutterref05_Ints.l0 k a b i = some (decide (a.drop i = b.drop i))
  | 0, i, h1, h2 => by omega
  | k + 1, i, h1, h2 => by
    rw [gutterref05_Ints.l0]
    by_cases hi : i < a.length
    · have e : wrap64 ((i : Int) + 1) = ((i + 1 : Nat) : Int) := by rw [i64_in (by omega) (by omega)]; omega
      rw [if_pos (by omega), if_pos (by omega), if_pos (by omega), e, ints_l a b hl hm k (i + 1) (by omega) (by omega)]
      have ha : rd a i = a[i] := by simp [rd, List.getElem?_eq_getElem hi]
      have hb : rd b i = b[i]'(by omega) := by simp [rd, List.getElem?_eq_getElem (show i < b.length by omega)]
      rw [ha, hb, List.drop_eq_getElem_cons hi, List.drop_eq_getElem_cons (show i < b.length by omega)]
      by_cases hx : a[i] = b[i]'(by omega)
      · rw [if_pos hx]
        congr 1
        rw [decide_eq_decide, hx]
        exact ⟨fun h => by rw [h], fun h => (List.cons.inj h).2⟩
      · rw [if_neg hx, decide_eq_false (fun h => hx (List.cons.inj h).1)]
    · rw [if_neg (by omega), List.drop_of_length_le (by omega), List.drop_of_length_le (by omega)]
      simp
theorem ints_f (a b : List Int) (k : Nat) (hk : a.length < k) (hm : a.length ≤ 1000000) : gutterref05_Ints.f k a b = some (decide (a = b)) := by
  unfold gutterref05_Ints.f
  by_cases h : a.length = b.length
  · rw [if_pos (by omega)]
    have := ints_l a b h hm k 0 (by omega) (by omega)
    simpa using this
  · rw [if_neg (by omega)]
    have : a ≠ b := fun e => h (by rw [e])
    simp [this]
/-- Are two segments the same? -/
def eqSeg (x y : S40) : Bool := (x.f0 == y.f0) && decide (x.f1 = y.f1)
def eqSegs (a b : List S40) : Bool := decide (a.length = b.length) && (List.range a.length).all fun j => eqSeg (a.getD j z40) (b.getD j z40)
theorem same_l (a b : List S40) (n : Nat) (hl : a.length = b.length) (hm : a.length ≤ 1000000) (hn : ∀ x ∈ a, x.f1.length ≤ n) (hn1 : n ≤ 1000000) : ∀ (k i : Nat), i ≤ a.length → a.length + n + 1 < k + i →
    ∃ r, gutterref16_Same.l0 k a b i = some r ∧ (r = true ↔ ∀ j, i ≤ j → j < a.length → eqSeg (a.getD j z40) (b.getD j z40) = true)
  | 0, i, h1, h2 => by omega
  | k + 1, i, h1, h2 => by
    rw [gutterref16_Same.l0]
    by_cases hi : i < a.length
    · have e : wrap64 ((i : Int) + 1) = ((i + 1 : Nat) : Int) := by rw [i64_in (by omega) (by omega)]; omega
      rw [if_pos (by omega), if_pos (by omega), if_pos (by omega), e]
      have ra : rd_T40 a i = a.getD i z40 := by unfold rd_T40; rw [Int.toNat_natCast]
      have rb : rd_T40 b i = b.getD i z40 := by unfold rd_T40; rw [Int.toNat_natCast]
      rw [ra, rb]
      have hx : (a.getD i z40).f1.length ≤ n := hn _ (by rw [List.getD_eq_getElem?_getD, List.getElem?_eq_getElem hi]; exact List.getElem_mem _)
      by_cases h0 : (a.getD i z40).f0 = (b.getD i z40).f0
      · rw [if_neg (by rw [h0]; simp)]
        by_cases hf : (a.getD i z40).f1 = (b.getD i z40).f1
        · rw [ints_f _ _ k (by omega) (by omega), decide_eq_true hf, Option.bind_some, if_pos rfl]
          obtain ⟨r, h3, h4⟩ := same_l a b n hl hm hn hn1 k (i + 1) (by omega) (by omega)
          refine ⟨r, h3, h4.trans ⟨fun h j hj hjl => ?_, fun h j hj hjl => h j (by omega) hjl⟩⟩
          by_cases ej : j = i
          · subst ej
            unfold eqSeg
            rw [h0, decide_eq_true hf]
            simp
          · exact h j (by omega) hjl
        · rw [ints_f _ _ k (by omega) (by omega), decide_eq_false hf, Option.bind_some, if_neg (by decide)]
          refine ⟨false, rfl, ⟨fun h => by (cases h), fun h => ?_⟩⟩
          have := h i (Nat.le_refl _) hi
          unfold eqSeg at this
          rw [decide_eq_false hf, Bool.and_false] at this
          cases this
      · rw [if_pos (bne_iff_ne.2 h0)]
        refine ⟨false, rfl, ⟨fun h => by (cases h), fun h => ?_⟩⟩
        have := h i (Nat.le_refl _) hi
        unfold eqSeg at this
        rw [Bool.and_eq_true, beq_iff_eq] at this
        exact absurd this.1 h0
    · rw [if_neg (by omega)]
      exact ⟨true, rfl, fun _ j hj hjl => by omega, fun _ => rfl⟩
theorem eqSegs_iff (a b : List S40) (hl : a.length = b.length) : eqSegs a b = true ↔ ∀ j, 0 ≤ j → j < a.length → eqSeg (a.getD j z40) (b.getD j z40) = true := by
  unfold eqSegs
  rw [decide_eq_true hl, Bool.true_and, List.all_eq_true]
  exact ⟨fun h j _ hj => h j (List.mem_range.2 hj), fun h j hj => h j (Nat.zero_le _) (List.mem_range.1 hj)⟩
theorem same_f (a b : List S40) (n k : Nat) (hm : a.length ≤ 1000000) (hn : ∀ x ∈ a, x.f1.length ≤ n) (hn1 : n ≤ 1000000) (hk : a.length + n + 1 < k) : gutterref16_Same.f k a b = some (eqSegs a b) := by
  unfold gutterref16_Same.f
  by_cases h : a.length = b.length
  · rw [if_pos (by omega)]
    obtain ⟨r, h1, h2⟩ := same_l a b n h hm hn hn1 k 0 (Nat.zero_le _) (by omega)
    have e : r = eqSegs a b := by
      rw [Bool.eq_iff_iff, h2, eqSegs_iff a b h]
    rw [← e]
    exact h1
  · rw [if_neg (by omega)]
    unfold eqSegs
    rw [decide_eq_false h, Bool.false_and]
theorem eqSegs_refl (a : List S40) : eqSegs a a = true := by
  rw [eqSegs_iff a a rfl]
  intro j _ _
  unfold eqSeg
  simp
def rtN : Node := ⟨-1, 4, ⟨#[]⟩, 0, 0, ⟨2, 0, 0, 0, false, 0, 1, 1, false, 0, 0, false, 0, false, 0, 0⟩⟩
def t5 : List Node := [rtN, gboxN false, gboxN true, gboxN false, gboxN false]
theorem rt_good : goodB t5 0 = true := by
  have h1 : t5.getD 0 zN = rtN := rfl
  have hp : placeB t5 0 = true := rfl
  have hf : formB rtN = true := by
    unfold formB
    have k1 : rtN.f1 = 4 := rfl
    rw [k1, if_neg (by decide), if_neg (by decide), eqN_bare]
    have k2 : rtN.f2.toList = [] := by show ByteArray.toList ⟨#[]⟩ = []; unfold ByteArray.toList ByteArray.toList.loop; rfl
    have k3 : rtN.f3 = 0 := rfl
    have k4 : rtN.f4 = 0 := rfl
    have hh : holdB rtN = true := rfl
    rw [k2, k3, k4, hh]
    simp
  have hs : styleB t5 0 = true := by
    unfold styleB
    rw [h1]
    have k1 : styR rtN = true := by
      show rightB 2 0 0 0 false 0 1 1 false 0 0 false 0 false 0 0 = true
      decide
    have k2 : styM rtN = true := rfl
    have k3 : rtN.f5.f12 = 0 := rfl
    have k4 : rtN.f1 = 4 := rfl
    have k5 : rtN.f5.f11 = false := rfl
    rw [k1, k2, k3, k4, k5]
    simp
  unfold goodB
  rw [h1, hp, hf, hs]
  rfl
theorem bx_good (i : Nat) (sp : Bool) (h : t5.getD i zN = gboxN sp) (h0 : 0 < i) : goodB t5 i = true := by
  have hpar : parentOf t5 i = rtN := by
    rw [parentOf, h, if_pos ⟨h0, by show (0 : Int) ≤ 0; omega, by show (0 : Int) < i; omega⟩]
    rfl
  have hp : placeB t5 i = true := by
    unfold placeB
    rw [if_neg (by omega), hpar]
    rfl
  have hf : formB (gboxN sp) = true := by
    unfold formB
    have k1 : (gboxN sp).f1 = 3 := rfl
    rw [k1, if_neg (by decide), if_pos rfl, eqN_box]
    have k2 : (gboxN sp).f2.toList = [] := by show ByteArray.toList ⟨#[]⟩ = []; unfold ByteArray.toList ByteArray.toList.loop; rfl
    have k3 : sizB (gboxN sp).f3 = true := rfl
    have k4 : sizB (gboxN sp).f4 = true := rfl
    rw [k2, k3, k4]
    simp
  have hs : styleB t5 i = true := by
    unfold styleB
    rw [h]
    have k1 : styR (gboxN sp) = true := by
      show rightB 0 0 0 0 false 0 1 1 false 0 0 sp 0 false 0 0 = true
      cases sp <;> decide
    have k2 : styM (gboxN sp) = false := rfl
    have k3 : (gboxN sp).f5.f12 = 0 := rfl
    have k4 : (gboxN sp).f1 = 3 := rfl
    have k6 : spanB t5 i = true := by
      unfold spanB
      rw [h, hpar, k4, k3]
      rfl
    rw [k1, k2, k3, k4, k6]
    simp
  unfold goodB
  rw [h, hp, hf, hs]
  rfl
theorem scan_all {t : List Node} : ∀ (f i : Nat), (∀ j, i ≤ j → j < i + f → goodB t j = true ∧ depN t j (depsL t j) ≤ 64) → scanT t f i = none
  | 0, _, _ => rfl
  | f + 1, i, h => by
    obtain ⟨h1, h2⟩ := h i (Nat.le_refl _) (by omega)
    rw [scanT, if_pos h1, if_neg (by omega)]
    exact scan_all f (i + 1) fun j hj hlt => h j (by omega) (by omega)
theorem t5_open : openT t5 = none := by
  rw [openT, if_neg (by decide)]
  refine scan_all _ 0 fun j _ hj => ?_
  have hj5 : j < 5 := by simpa [t5] using hj
  have hc : j = 0 ∨ j = 1 ∨ j = 2 ∨ j = 3 ∨ j = 4 := by omega
  rcases hc with rfl | rfl | rfl | rfl | rfl
  · exact ⟨rt_good, by decide⟩
  · exact ⟨bx_good 1 false rfl (by decide), by decide⟩
  · exact ⟨bx_good 2 true rfl (by decide), by decide⟩
  · exact ⟨bx_good 3 false rfl (by decide), by decide⟩
  · exact ⟨bx_good 4 false rfl (by decide), by decide⟩
theorem t5_E (n : Nat) (hn : n < 5) : segE t5 n = 0 := by
  unfold segE
  rw [t5_open]
  have hl : t5.length = 5 := rfl
  dsimp only
  rw [if_neg (by rw [hl]; omega)]
theorem t5_segs : segment_Segs.f t5 0 = some ([⟨false, [1]⟩, ⟨true, [2]⟩, ⟨false, [3, 4]⟩], 0) := by
  have e : segsE t5 0 = 0 := by
    unfold segsE
    have := t5_E 0 (by decide)
    rw [show ((0 : Nat) : Int) = 0 from rfl] at this
    rw [if_neg (by rw [this]; decide)]
    rfl
  unfold segment_Segs.f
  rw [if_neg (by rw [e]; decide)]
  rfl
theorem t5_segs1 : segment_Segs.f t5 1 = some ([], 150) := by
  have e : segsE t5 1 = 150 := by
    unfold segsE
    have := t5_E 1 (by decide)
    rw [show ((1 : Nat) : Int) = 1 from rfl] at this
    rw [if_neg (by rw [this]; decide)]
    rfl
  unfold segment_Segs.f
  rw [if_pos (by rw [e]; decide), e]
theorem t5_host : segment_Host.f t5 3 = some (0, true, 0) := by
  have := t5_E 3 (by decide)
  rw [show ((3 : Nat) : Int) = 3 from rfl] at this
  unfold segment_Host.f
  rw [if_neg (by rw [this]; decide)]
  rfl
theorem t5_spanner : segment_Spanner.f t5 2 = some (2, true, 0) := by
  have := t5_E 2 (by decide)
  rw [show ((2 : Nat) : Int) = 2 from rfl] at this
  unfold segment_Spanner.f
  rw [if_neg (by rw [this]; decide)]
  rfl
end Go.Proofs.YtdphijhebppeeaaDoor.G
