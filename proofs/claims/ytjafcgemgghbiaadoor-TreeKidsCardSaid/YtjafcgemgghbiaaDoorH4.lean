/- Chapter 5: each node but the root is a kid of the node it hangs on, and of no other. Written by tmpl.py out of H4.tl. -/
import Derived.Test.YtjafcgemgghbiaaDoorH3
namespace Go.Proofs.YtjafcgemgghbiaaDoor.G
open Go Go.RowKit Go.Proofs.YtjafcgemgghbiaaDoorW.PrintWords
theorem kids_l (t : List Node) (n : Int) (m : Nat) (l : List Int) (hl : l.length ≤ 1000000) (hs : l.Pairwise (· < ·)) (hm : m < t.length) (hf : decide ((m : Int) ∈ l) = ((rd_T32 t m).f0 == n)) :
    ∀ (k i : Nat), i ≤ l.length → l.length < k + i → gutterlaw05_TreeKids.l0 k t n m true l (decide ((m : Int) ∈ l.take i)) i = some true
  | 0, i, a, b => by omega
  | k + 1, i, a, b => by
    rw [gutterlaw05_TreeKids.l0]
    by_cases hi : i < l.length
    · have ih := kids_l t n m l hl hs hm hf k (i + 1) (by omega) (by omega)
      have hr : rd l i = l[i] := by simp [rd, List.getElem?_eq_getElem hi]
      have e2 : wrap64 ((i : Int) + 1) = ((i + 1 : Nat) : Int) := by rw [i64_in (by omega) (by omega)]; omega
      have e1 : wrap64 ((i : Int) - 1) = (i : Int) - 1 := i64_in (by omega) (by omega)
      rw [if_pos (by omega), e1, e2]
      have hlt : 0 < i → ¬ rd l i ≤ rd l ((i : Int) - 1) := fun h0 => by
        have h3 : rd l ((i : Int) - 1) = l[i - 1]'(by omega) := by
          rw [show (i : Int) - 1 = ((i - 1 : Nat) : Int) by omega]
          simp [rd, List.getElem?_eq_getElem (show i - 1 < l.length by omega)]
        rw [hr, h3]
        have := List.pairwise_iff_getElem.1 hs (i - 1) i (by omega) hi (by omega)
        omega
      have htk : decide ((m : Int) ∈ l.take (i + 1)) = (decide ((m : Int) ∈ l.take i) || (rd l i == (m : Int))) := by
        rw [List.take_add_one, List.getElem?_eq_getElem hi, hr, Bool.eq_iff_iff]
        simp only [List.mem_append, Option.toList_some, List.mem_singleton, decide_eq_true_eq, Bool.or_eq_true, beq_iff_eq]
        exact ⟨fun h => h.imp id Eq.symm, fun h => h.imp id Eq.symm⟩
      rw [htk] at ih
      cases hx : decide ((m : Int) ∈ l.take i)
      · rw [hx, Bool.false_or] at ih
        rw [if_neg (by decide), if_pos (by omega)]
        by_cases h0 : 0 < i
        · rw [if_pos (by omega), if_pos (by omega), if_pos (by omega), if_neg (hlt h0)]
          exact ih
        · rw [if_neg (by omega)]
          exact ih
      · rw [hx, Bool.true_or] at ih
        rw [if_pos rfl]
        by_cases h0 : 0 < i
        · rw [if_pos (by omega), if_pos (by omega), if_pos (by omega), if_pos (by omega), if_neg (hlt h0)]
          exact ih
        · rw [if_neg (by omega)]
          exact ih
    · have hil : i = l.length := by omega
      subst hil
      rw [if_neg (by omega), if_pos rfl, if_pos (by omega), if_pos (by omega), List.take_length, hf]
      simp
theorem root_parent {t : List Node} (h : openT t = none) : (t.getD 0 zN).f0 = -1 := by
  obtain ⟨h1, _, hall⟩ := open_none h
  have hp := good_place (hall 0 (by omega)).1
  unfold placeB at hp
  rw [if_pos rfl, Bool.and_eq_true, decide_eq_true_eq] at hp
  exact hp.1
theorem TreeKids (l0 : List Node) (a1 a2 : Int) (_ : l0.all wfN = true) (_ : (Lit.int .i64 a1).wf = true) (_ : (Lit.int .i64 a2).wf = true) : ∃ k, gutterlaw05_TreeKids.f k l0 a1 a2 = some true := by
  refine ⟨400, ?_⟩
  unfold gutterlaw05_TreeKids.f gutterlaw05_Few.f
  rw [shown_f 400 (by decide), Option.bind_some, Option.bind_some]
  generalize fewL l0 = t
  rcases err_cases t a1 with he | ⟨ho, h0, h1, he⟩
  · have hd : tree_Kids.f t a1 = some ([], errN t a1) := by unfold tree_Kids.f; rw [if_pos he]
    rw [hd, Option.bind_some, if_neg he, gutterlaw05_TreeKids.j0, if_pos rfl, if_pos rfl, if_neg he]
    rfl
  · have hd : tree_Kids.f t a1 = some (kidsL t t.length a1, 0) := by unfold tree_Kids.f; rw [if_neg (by rw [he]; simp)]
    obtain ⟨_, hl, hall⟩ := open_none ho
    have hkl := kidsL_len t t.length a1
    rw [hd, Option.bind_some, if_pos rfl]
    by_cases c1 : a2 < 0
    · rw [if_pos c1, gutterlaw05_TreeKids.j0, if_pos rfl, if_pos rfl, if_pos rfl]
    · rw [if_neg c1]
      by_cases c2 : a2 ≥ t.length
      · rw [decide_eq_true c2, gutterlaw05_TreeKids.j0, if_pos rfl, if_pos rfl, if_pos rfl]
      · obtain ⟨m, rfl⟩ : ∃ m : Nat, a2 = m := ⟨a2.toNat, by omega⟩
        have hm : m < t.length := by omega
        rw [decide_eq_false c2, gutterlaw05_TreeKids.j0, if_neg (by decide)]
        have hf : decide ((m : Int) ∈ kidsL t t.length a1) = ((rd_T32 t m).f0 == a1) := by
          have hr : (rd_T32 t m).f0 = (t.getD m zN).f0 := rfl
          rw [hr, Bool.eq_iff_iff, decide_eq_true_eq, beq_iff_eq, kids_mem]
          constructor
          · exact fun h => h.2.2
          · intro h
            refine ⟨?_, hm, h⟩
            apply Nat.pos_of_ne_zero
            rintro rfl
            rw [root_parent ho] at h
            omega
        exact kids_l t a1 m _ (by omega) (kids_sorted t a1) hm hf 399 0 (by omega) (by omega)
end Go.Proofs.YtjafcgemgghbiaaDoor.G
