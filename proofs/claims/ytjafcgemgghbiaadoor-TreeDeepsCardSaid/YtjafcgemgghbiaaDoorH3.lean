/- Chapter 5: each node but the root is one deeper than what it hangs on; each is a kid of that node alone. Written by tmpl.py out of H3.tl. -/
import Derived.Test.YtjafcgemgghbiaaDoorH1
import Derived.Test.YtjafcgemgghbiaaDoorG5
import Derived.Test.YtjafcgemgghbiaaDoorG7
import Derived.Test.YtjafcgemgghbiaaDoorR
namespace Go.Proofs.YtjafcgemgghbiaaDoor.G
open Go Go.RowKit Go.Proofs.YtjafcgemgghbiaaDoorW.PrintWords
theorem deps_get (t : List Node) (j : Nat) : ∀ i, j < i → (depsL t i).getD j 0 = depN t j (depsL t j)
  | 0, h => by omega
  | i + 1, h => by
    have hl := depsL_len t i
    rw [depsL, List.getD_eq_getElem?_getD]
    by_cases e : j = i
    · subst e
      rw [List.getElem?_append_right (by omega), hl]
      simp
    · rw [List.getElem?_append_left (by omega), ← List.getD_eq_getElem?_getD, deps_get t j i (by omega)]
theorem dep_all (t : List Node) : ∀ i, ∀ d ∈ depsL t i, 0 ≤ d
  | 0, d, h => by cases h
  | i + 1, d, h => by
    rw [depsL, List.mem_append, List.mem_singleton] at h
    rcases h with h | rfl
    · exact dep_all t i d h
    · unfold depN
      split
      · omega
      · rename_i hz
        by_cases hq : (t.getD i zN).f0.toNat < (depsL t i).length
        · have := dep_all t i _ (show (depsL t i).getD (t.getD i zN).f0.toNat 0 ∈ depsL t i by rw [List.getD_eq_getElem?_getD, List.getElem?_eq_getElem hq]; exact List.getElem_mem _)
          omega
        · rw [List.getD_eq_getElem?_getD, List.getElem?_eq_none (by omega)]
          simp
theorem dep_pos (t : List Node) (i : Nat) : 0 ≤ depN t i (depsL t i) := dep_all t (i + 1) _ (by rw [depsL]; simp)
theorem errN_ok {t : List Node} (h : openT t = none) {n : Int} (h0 : 0 ≤ n) (h1 : n < t.length) : errN t n = 0 := by
  unfold errN
  rw [h]
  exact if_neg (by omega)
theorem err_cases (t : List Node) (n : Int) : (errN t n ≠ 0) ∨ (openT t = none ∧ 0 ≤ n ∧ n < t.length ∧ errN t n = 0) := by
  cases h : errI t n with
  | none => exact .inr (errI_none h)
  | some p => exact .inl (by rw [(errI_code h).2]; omega)
theorem deep_ok {t : List Node} (h : openT t = none) (n : Nat) (h1 : n < t.length) : tree_Deep.f t n = some (depN t n (depsL t n), 0) := by
  unfold tree_Deep.f
  rw [if_neg (by rw [errN_ok h (by omega) (by omega)]; simp), Int.toNat_natCast, deps_get t n t.length h1]
theorem good_place {t : List Node} {i : Nat} (h : goodB t i = true) : placeB t i = true := by
  unfold goodB at h
  revert h
  cases placeB t i <;> simp
theorem TreeDeeper (l0 : List Node) (a1 : Int) (_ : l0.all wfN = true) (_ : (Lit.int .i64 a1).wf = true) : ∃ k, gutterlaw05_TreeDeeper.f k l0 a1 = some true := by
  refine ⟨10, ?_⟩
  unfold gutterlaw05_TreeDeeper.f gutterlaw05_Few.f
  rw [shown_f 10 (by decide), Option.bind_some, Option.bind_some]
  generalize fewL l0 = t
  rcases err_cases t a1 with he | ⟨ho, h0, h1, he⟩
  · have hd : tree_Deep.f t a1 = some (0, errN t a1) := by unfold tree_Deep.f; rw [if_pos he]
    rw [hd, Option.bind_some, if_neg he]
    rfl
  · obtain ⟨n, rfl⟩ : ∃ n : Nat, a1 = n := ⟨a1.toNat, by omega⟩
    obtain ⟨_, _, hall⟩ := open_none ho
    have hn : n < t.length := by omega
    rw [deep_ok ho n hn, Option.bind_some, if_pos rfl]
    by_cases hz : n = 0
    · subst hz
      rw [if_pos rfl]
      rfl
    · have hg := (hall n hn).1
      have hd64 := (hall n hn).2
      obtain ⟨p0, p1⟩ := place_parent (by omega) (good_place hg)
      obtain ⟨p, hp⟩ : ∃ p : Nat, (t.getD n zN).f0 = p := ⟨(t.getD n zN).f0.toNat, by omega⟩
      have hr : (rd_T32 t n).f0 = p := hp
      rw [if_neg (by omega), if_pos (by omega), if_pos (by omega), hr, deep_ok ho p (by omega), Option.bind_some, if_pos rfl, if_pos rfl]
      have hdn : depN t n (depsL t n) = 1 + depN t p (depsL t p) := by
        conv => lhs; unfold depN
        rw [if_neg hz, hp, Int.toNat_natCast, deps_get t p n (by omega)]
      have hw : wrap64 (depN t p (depsL t p) + 1) = depN t p (depsL t p) + 1 := by
        have hpb : 0 ≤ depN t p (depsL t p) := dep_pos t p
        exact i64_in (by omega) (by omega)
      rw [hw, if_pos (by omega), decide_eq_true hd64]
theorem kids_sorted (t : List Node) (n : Int) : (kidsL t t.length n).Pairwise (· < ·) := by
  unfold kidsL
  rw [List.pairwise_map]
  refine List.Pairwise.filter _ ?_
  exact List.pairwise_lt_range.imp fun h => by omega
theorem kids_mem {t : List Node} {n : Int} {m : Nat} : (m : Int) ∈ kidsL t t.length n ↔ 0 < m ∧ m < t.length ∧ (t.getD m zN).f0 = n := by
  constructor
  · intro h
    obtain ⟨q, hq, h1, h2, h3⟩ := kidsL_mem h
    obtain rfl : m = q := by omega
    exact ⟨h1, h2, h3⟩
  · rintro ⟨h1, h2, h3⟩
    unfold kidsL
    exact List.mem_map.2 ⟨m, List.mem_filter.2 ⟨List.mem_range.2 h2, by rw [h3]; simp [h1]⟩, rfl⟩
end Go.Proofs.YtjafcgemgghbiaaDoor.G
