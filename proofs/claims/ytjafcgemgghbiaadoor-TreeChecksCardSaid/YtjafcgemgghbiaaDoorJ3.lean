/- Chapter 5: each node but the root is one deeper than what it hangs on; each is a kid of that node alone. Written by tmpl.py out of H3.tl by mkJ.py. -/
import Derived.Test.YtjafcgemgghbiaaDoorH1
import Derived.Test.YtjafcgemgghbiaaDoorR
namespace Go.Proofs.YtjafcgemgghbiaaDoor.G
open Go Go.RowKit Go.Proofs.YtjafcgemgghbiaaDoorW.PrintWords
theorem deps_get (t : List Node) (j : Nat) : ∀ i, j < i → (depsL t i).getD j 0 = depN t j (depsL t j)
  | 0, h => by omega
  | i + 1, h => by
    have hl := depsL_len t i
    rw [depsL, List.getD_eq_getElem?_getD]
    by_cases e : j = i
    · subst e
      rw [List.getElem?_append_right (by omega), hl]
      simp
    · rw [List.getElem?_append_left (by omega), ← List.getD_eq_getElem?_getD, deps_get t j i (by omega)]
theorem dep_all (t : List Node) : ∀ i, ∀ d ∈ depsL t i, 0 ≤ d
  | 0, d, h => by cases h
  | i + 1, d, h => by
    rw [depsL, List.mem_append, List.mem_singleton] at h
    rcases h with h | rfl
    · exact dep_all t i d h
    · unfold depN
      split
      · omega
      · rename_i hz
        by_cases hq : (t.getD i zN).f0.toNat < (depsL t i).length
        · have := dep_all t i _ (show (depsL t i).getD (t.getD i zN).f0.toNat 0 ∈ depsL t i by rw [List.getD_eq_getElem?_getD, List.getElem?_eq_getElem hq]; exact List.getElem_mem _)
          omega
        · rw [List.getD_eq_getElem?_getD, List.getElem?_eq_none (by omega)]
          simp
theorem dep_pos (t : List Node) (i : Nat) : 0 ≤ depN t i (depsL t i) := dep_all t (i + 1) _ (by rw [depsL]; simp)
theorem errN_ok {t : List Node} (h : openT t = none) {n : Int} (h0 : 0 ≤ n) (h1 : n < t.length) : errN t n = 0 := by
  unfold errN
  rw [h]
  exact if_neg (by omega)
theorem err_cases (t : List Node) (n : Int) : (errN t n ≠ 0) ∨ (openT t = none ∧ 0 ≤ n ∧ n < t.length ∧ errN t n = 0) := by
  cases h : errI t n with
  | none => exact .inr (errI_none h)
  | some p => exact .inl (by rw [(errI_code h).2]; omega)
theorem deep_ok {t : List Node} (h : openT t = none) (n : Nat) (h1 : n < t.length) : tree_Deep.f t n = some (depN t n (depsL t n), 0) := by
  unfold tree_Deep.f
  rw [if_neg (by rw [errN_ok h (by omega) (by omega)]; simp), Int.toNat_natCast, deps_get t n t.length h1]
theorem good_place {t : List Node} {i : Nat} (h : goodB t i = true) : placeB t i = true := by
  unfold goodB at h
  revert h
  cases placeB t i <;> simp
theorem kids_sorted (t : List Node) (n : Int) : (kidsL t t.length n).Pairwise (· < ·) := by
  unfold kidsL
  rw [List.pairwise_map]
  refine List.Pairwise.filter _ ?_
  exact List.pairwise_lt_range.imp fun h => by omega
theorem kids_mem {t : List Node} {n : Int} {m : Nat} : (m : Int) ∈ kidsL t t.length n ↔ 0 < m ∧ m < t.length ∧ (t.getD m zN).f0 = n := by
  constructor
  · intro h
    obtain ⟨q, hq, h1, h2, h3⟩ := kidsL_mem h
    obtain rfl : m = q := by omega
    exact ⟨h1, h2, h3⟩
  · rintro ⟨h1, h2, h3⟩
    unfold kidsL
    exact List.mem_map.2 ⟨m, List.mem_filter.2 ⟨List.mem_range.2 h2, by rw [h3]; simp [h1]⟩, rfl⟩
end Go.Proofs.YtjafcgemgghbiaaDoor.G
