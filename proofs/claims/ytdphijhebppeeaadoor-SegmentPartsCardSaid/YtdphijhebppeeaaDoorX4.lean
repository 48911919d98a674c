/- Chapter 16: what segments are: none is empty, one that spans has one kid, no two one behind the other are both without Span; all kids in order. Written by tmpl.py out of X4.tl. -/
import Derived.Test.YtdphijhebppeeaaDoorX1
import Derived.Test.YtdphijhebppeeaaDoorG6
namespace Go.Proofs.YtdphijhebppeeaaDoor.G
open Go Go.RowKit Go.Shelf Go.Maps Go.Proofs.YtdphijhebppeeaaDoorW.PrintWords Go.Proofs.YtdphijhebppeeaaDoorW.PrintLast Go.Proofs.YtdphijhebppeeaaDoorW.PrintMore
attribute [local irreducible] cN
theorem snoc_lt (g : List S40) (y : S40) {i : Nat} (h : i < g.length) : (g ++ [y]).getD i z40 = g.getD i z40 := by
  rw [List.getD_eq_getElem?_getD, List.getD_eq_getElem?_getD, List.getElem?_append_left h]
theorem snoc_eq (g : List S40) (y : S40) : (g ++ [y]).getD g.length z40 = y := by
  rw [List.getD_eq_getElem?_getD, List.getElem?_append_right (Nat.le_refl _), Nat.sub_self]; rfl
def elB (t : List Node) (y : S40) : Prop := y.f1 ≠ [] ∧ (y.f0 = true → y.f1.length = 1) ∧ ∀ x ∈ y.f1, ∃ n : Nat, x = n ∧ n < t.length ∧ (t.getD n zN).f5.f11 = y.f0
def segOK (t : List Node) (g : List S40) : Prop := ∀ i, i < g.length → elB t (g.getD i z40) ∧ (0 < i → (g.getD i z40).f0 = false → (g.getD (i - 1) z40).f0 = true)
theorem segOK_snoc {t : List Node} {g : List S40} {y : S40} (h : segOK t g) (hy : elB t y) (hl : 0 < g.length → y.f0 = false → (g.getD (g.length - 1) z40).f0 = true) : segOK t (g ++ [y]) := by
  intro i hi
  rw [List.length_append, List.length_singleton] at hi
  rcases Nat.lt_or_ge i g.length with h1 | h1
  · rw [snoc_lt g y h1]
    refine ⟨(h i h1).1, fun h0 hf => ?_⟩
    rw [snoc_lt g y (by omega)]
    exact (h i h1).2 h0 hf
  · obtain rfl : i = g.length := by omega
    rw [snoc_eq]
    refine ⟨hy, fun h0 hf => ?_⟩
    rw [snoc_lt g y (by omega)]
    exact hl h0 hf
theorem segOK_init {t : List Node} {g : List S40} {y : S40} (h : segOK t (g ++ [y])) : segOK t g ∧ elB t y ∧ (0 < g.length → y.f0 = false → (g.getD (g.length - 1) z40).f0 = true) := by
  have hn : (g ++ [y]).length = g.length + 1 := by rw [List.length_append, List.length_singleton]
  refine ⟨fun i hi => ?_, ?_, fun h0 hf => ?_⟩
  · have h1 := h i (by omega)
    rw [snoc_lt g y hi] at h1
    refine ⟨h1.1, fun h0 hf => ?_⟩
    have h2 := h1.2 h0 hf
    rwa [snoc_lt g y (by omega)] at h2
  · have h1 := (h g.length (by omega)).1
    rwa [snoc_eq] at h1
  · have h1 := (h g.length (by omega)).2 h0 (by rw [snoc_eq]; exact hf)
    rwa [snoc_lt g y (by omega)] at h1
theorem joinL_snoc {g : List S40} {y : S40} {sp : Bool} (k : Int) : joinL (g ++ [y]) sp k = if sp = false ∧ y.f0 = false then g ++ [⟨y.f0, y.f1 ++ [k]⟩] else g ++ [y] ++ [⟨sp, [k]⟩] := by
  have hn : (g ++ [y]).length - 1 = g.length := by rw [List.length_append, List.length_singleton]; omega
  have hr : rd_T40 (g ++ [y]) (((g ++ [y]).length - 1 : Nat) : Int) = y := by
    unfold rd_T40
    rw [Int.toNat_natCast, hn, snoc_eq]
  unfold joinL joinAt
  rw [hr, hn]
  have hp : decide (0 < (g ++ [y]).length) = true := decide_eq_true (by rw [List.length_append, List.length_singleton]; omega)
  rw [hp, Bool.true_and]
  cases sp <;> cases y.f0 <;> simp
theorem joinL_nil (sp : Bool) (k : Int) : joinL [] sp k = [⟨sp, [k]⟩] := by
  unfold joinL joinAt
  simp
def flatL (g : List S40) : List Int := g.flatMap fun x => x.f1
theorem flatL_snoc (g : List S40) (y : S40) : flatL (g ++ [y]) = flatL g ++ y.f1 := by
  unfold flatL
  rw [List.flatMap_append]
  simp
theorem joinL_ok {t : List Node} {g : List S40} (n : Nat) (h : segOK t g) (hn : n < t.length) : segOK t (joinL g (spanP t n) n) ∧ flatL (joinL g (spanP t n) n) = flatL g ++ [(n : Int)] := by
  have he : elB t ⟨spanP t n, [(n : Int)]⟩ := ⟨by simp, fun _ => rfl, fun x hx => ⟨n, by simpa using hx, hn, rfl⟩⟩
  rcases List.eq_nil_or_concat g with rfl | ⟨g', y, rfl⟩
  · rw [joinL_nil]
    exact ⟨segOK_snoc (g := []) h he (fun h0 => by cases h0), rfl⟩
  · rw [List.concat_eq_append] at h ⊢
    obtain ⟨h1, h2, h3⟩ := segOK_init h
    rw [joinL_snoc]
    split
    · rename_i hc
      refine ⟨segOK_snoc h1 ⟨by simp, fun hf => ?_, fun x hx => ?_⟩ h3, by rw [flatL_snoc, flatL_snoc, List.append_assoc]⟩
      · have hf' : y.f0 = true := hf
        rw [hc.2] at hf'; cases hf'
      · rcases List.mem_append.1 (show x ∈ y.f1 ++ [(n : Int)] from hx) with hx | hx
        · exact h2.2.2 x hx
        · exact ⟨n, by simpa using hx, hn, by rw [show (S40.mk y.f0 (y.f1 ++ [(n : Int)])).f0 = y.f0 from rfl, hc.2]; exact hc.1⟩
    · rename_i hc
      refine ⟨segOK_snoc h he fun _ hf => ?_, by rw [flatL_snoc]⟩
      have hf' : spanP t n = false := hf
      rw [List.length_append, List.length_singleton, Nat.add_sub_cancel, snoc_eq]
      cases hy : y.f0 with
      | true => rfl
      | false => exact absurd ⟨hf', hy⟩ hc
theorem segsL_ok {t : List Node} (L : List Int) (h : ∀ x ∈ L, ∃ n : Nat, x = n ∧ n < t.length) : segOK t (segsL t L) ∧ flatL (segsL t L) = L := by
  induction L using snoc_ind' with
  | h0 => exact ⟨fun i hi => absurd hi (Nat.not_lt_zero _), rfl⟩
  | h1 L k ih =>
    obtain ⟨n, rfl, hn⟩ := h k (by simp)
    obtain ⟨i1, i2⟩ := ih fun x hx => h x (List.mem_append_left _ hx)
    rw [segsL_snoc, Int.toNat_natCast]
    obtain ⟨j1, j2⟩ := joinL_ok n i1 hn
    exact ⟨j1, by rw [j2, i2]⟩
theorem flatL_len (g : List S40) (n : Nat) (h : ∀ x ∈ g, x.f1.length ≤ n) : (flatL g).length ≤ g.length * n := by
  induction g with
  | nil => exact Nat.zero_le _
  | cons x g ih =>
    have h1 := ih fun y hy => h y (List.mem_cons_of_mem _ hy)
    have h2 := h x (List.mem_cons_self ..)
    unfold flatL at h1 ⊢
    rw [List.flatMap_cons, List.length_append, List.length_cons, Nat.add_mul, Nat.one_mul]
    omega
theorem kids_l (g : List S40) (n : Nat) (hm : g.length ≤ 1000000) (hn : ∀ x ∈ g, x.f1.length ≤ n) (hn1 : n ≤ 1000000) : ∀ (k i : Nat) (acc : List Int), i ≤ g.length → g.length < k + i → acc.length ≤ i * n → segment_Kids.l0 k acc g (g.length : Int) (i : Int) = some (acc ++ flatL (g.drop i)) := by
  intro k
  induction k with
  | zero => intro i acc h1 h2; omega
  | succ k ih =>
    intro i acc h1 h2 h3
    rw [segment_Kids.l0]
    by_cases hlt : i < g.length
    · have hx : rd_T40 g (i : Int) = g[i] := by
        unfold rd_T40
        rw [Int.toNat_natCast, List.getD_eq_getElem?_getD, List.getElem?_eq_getElem hlt]; rfl
      have hxl := hn g[i] (List.getElem_mem _)
      have h5 : i * n ≤ 1000000 * 1000000 := Nat.mul_le_mul (by omega) hn1
      have h6 : (i + 1) * n = i * n + n := by rw [Nat.add_mul, Nat.one_mul]
      rw [if_pos (by omega), if_pos (by omega), if_pos (by omega), hx, if_pos (by omega)]
      rw [show wrap64 ((i : Int) + 1) = ((i + 1 : Nat) : Int) from by rw [i64_in (by omega) (by omega)]; omega]
      rw [ih (i + 1) _ (by omega) (by omega) (by rw [List.length_append]; omega)]
      rw [show g.drop i = g[i] :: g.drop (i + 1) from List.drop_eq_getElem_cons hlt]
      unfold flatL
      rw [List.flatMap_cons, List.append_assoc]
    · rw [if_neg (by omega)]
      rw [show g.drop i = [] from List.drop_eq_nil_of_le (by omega)]
      simp [flatL]
theorem kids_f (g : List S40) (n k : Nat) (hm : g.length ≤ 1000000) (hn : ∀ x ∈ g, x.f1.length ≤ n) (hn1 : n ≤ 1000000) (hk : g.length < k) : segment_Kids.f k g = some (flatL g) := by
  unfold segment_Kids.f
  exact kids_l g n hm hn hn1 k 0 [] (Nat.zero_le _) (by omega) (Nat.zero_le _)
end Go.Proofs.YtdphijhebppeeaaDoor.G
