/- Chapter 5: what lies below a node is deeper than it. Written by tmpl.py out of H6.tl. -/
import Derived.Test.YtjafcgemgghbiaaDoorH5
import Derived.Test.YtjafcgemgghbiaaDoorG8
namespace Go.Proofs.YtjafcgemgghbiaaDoor.G
open Go Go.RowKit Go.Proofs.YtjafcgemgghbiaaDoorW.PrintWords
attribute [local irreducible] belowL belowF kidsL depsL depN openT
theorem deeps_l (t : List Node) (ho : openT t = none) (n : Nat) (hn : n < t.length) (all : List Int) (hall : all.length ≤ 200) : ∀ (k i : Nat), 1 ≤ i → i ≤ (belowL t n).length → (belowL t n).length + 250 < k + i →
    gutterlaw05_TreeDeeps.l0 k t true (belowL t n) (depN t n (depsL t n)) all 0 all 0 i = some true
  | 0, i, _, a, b => by omega
  | k + 1, i, h1, a, b => by
    have hT := open_OKT ho
    have hlen := below_len hT hn
    have h200 := (open_none ho).2.1
    rw [gutterlaw05_TreeDeeps.l0]
    by_cases hi : i < (belowL t n).length
    · have p1 : (i : Int) < ((belowL t n).length : Int) := by omega
      have p2 : (0 : Int) ≤ i := by omega
      have r1 : i + 1 ≤ (belowL t n).length := hi
      have r2 : (belowL t n).length + 250 < k + (i + 1) := by omega
      have e2 : wrap64 ((i : Int) + 1) = ((i + 1 : Nat) : Int) := by rw [i64_in (by omega) (by omega)]; omega
      have hx : rd (belowL t n) i ∈ (kidsL t t.length n).flatMap (belowL t) := by
        have e : rd (belowL t n) i = ((kidsL t t.length n).flatMap (belowL t)).getD (i - 1) 0 := by
          rw [below_cons hT hn]
          obtain ⟨j, rfl⟩ : ∃ j, i = j + 1 := ⟨i - 1, by omega⟩
          simp [rd]
        rw [e, List.getD_eq_getElem?_getD, List.getElem?_eq_getElem (by rw [below_cons hT hn] at hi; simp only [List.length_cons] at hi; omega)]
        exact List.getElem_mem _
      have hm : rd (belowL t n) i ∈ belowL t n := by rw [below_cons hT hn]; exact List.mem_cons_of_mem _ (by rw [below_cons hT hn] at hx; exact hx)
      have hr := below_range hT n hn _ hm
      obtain ⟨x, hxe⟩ : ∃ x : Nat, rd (belowL t n) i = x := ⟨(rd (belowL t n) i).toNat, (Int.toNat_of_nonneg (Int.le_trans (Int.natCast_nonneg n) hr.1)).symm⟩
      rw [hxe] at hx
      obtain ⟨q1, q2⟩ := below_deeper hT hx
      rw [if_pos p1, if_pos p2, hxe, deep_ok ho x q1, Option.bind_some, if_pos rfl, if_neg (Int.not_le.2 q2), e2]
      exact deeps_l t ho n hn all hall k (i + 1) (Nat.le_add_left 1 i) r1 r2
    · rw [if_neg (by omega), if_pos rfl, if_pos rfl, if_pos rfl, ints_f all all k (by omega) (by omega)]
      simp
theorem TreeDeeps (l0 : List Node) (a1 : Int) (_ : l0.all wfN = true) (_ : (Lit.int .i64 a1).wf = true) : ∃ k, gutterlaw05_TreeDeeps.f k l0 a1 = some true := by
  refine ⟨1000, ?_⟩
  unfold gutterlaw05_TreeDeeps.f gutterlaw05_Few.f
  rw [shown_f 1000 (by decide), Option.bind_some, Option.bind_some]
  generalize fewL l0 = t
  rcases err_cases t a1 with he | ⟨ho, h0, h1, he⟩
  · have hb : tree_Below.f t a1 = some ([], errN t a1) := by unfold tree_Below.f; rw [if_pos he]
    have hd : tree_Deep.f t a1 = some (0, errN t a1) := by unfold tree_Deep.f; rw [if_pos he]
    obtain ⟨r, hr⟩ : ∃ r, tree_Below.f t 0 = some r := by
      rcases err_cases t 0 with hz | ⟨ho, _, hz, _⟩
      · exact ⟨_, by unfold tree_Below.f; rw [if_pos hz]⟩
      · exact ⟨_, below_f ho (n := 0) (by omega)⟩
    have hor : tree_Order.f t = some r := hr
    rw [hb, hd, hr, hor]
    simp only [Option.bind_some]
    rw [if_neg he, gutterlaw05_TreeDeeps.j0, if_pos rfl, if_pos rfl]
    simp
  · obtain ⟨n, rfl⟩ : ∃ n : Nat, a1 = n := ⟨a1.toNat, by omega⟩
    have hn : n < t.length := by omega
    have hT := open_OKT ho
    have hz : 0 < t.length := by omega
    have hr : tree_Below.f t 0 = some (belowL t ((0 : Nat) : Int), 0) := below_f ho hz
    have hor : tree_Order.f t = some (belowL t ((0 : Nat) : Int), 0) := hr
    have hl := below_len hT hz
    have hl2 := below_len hT hn
    have h200 := (open_none ho).2.1
    rw [below_f ho hn, deep_ok ho n hn, hr, hor]
    simp only [Option.bind_some]
    simp only [if_true]
    rw [gutterlaw05_TreeDeeps.j0, if_neg (by decide)]
    exact deeps_l t ho n hn _ (by omega) 999 1 (by omega) (by rw [below_cons hT hn]; simp) (by omega)
end Go.Proofs.YtjafcgemgghbiaaDoor.G
