/- Chapter 5: where what is below a node stands in the whole order. Written by tmpl.py out of J6.tl. -/
import Derived.Test.YtjafcgemgghbiaaDoorJ5
namespace Go.Proofs.YtjafcgemgghbiaaDoor.G
open Go Go.RowKit Go.Proofs.YtjafcgemgghbiaaDoorW.PrintWords
variable {t : List Node}
theorem below_split (hT : OKT t) (j : Nat) : ∀ n : Nat, n < t.length → (j : Int) ∈ belowL t n → ∃ A B, belowL t n = A ++ (belowL t j ++ B) := by
  refine below_ind hT (p := fun n => (j : Int) ∈ belowL t n → ∃ A B, belowL t n = A ++ (belowL t j ++ B)) fun n hn ih hj => ?_
  by_cases e : j = n
  · subst e; exact ⟨[], [], by simp⟩
  · rw [below_cons hT hn, List.mem_cons, List.mem_flatMap] at hj
    rcases hj with h | ⟨k, hk, hj⟩
    · exact absurd (by omega : j = n) e
    · obtain ⟨K1, K2, hK⟩ := List.append_of_mem hk
      obtain ⟨m, rfl, h0, h1, h2⟩ := kidsL_mem hk
      obtain ⟨A, B, hAB⟩ := ih m h0 h1 h2 hj
      refine ⟨(n : Int) :: (K1.flatMap (belowL t) ++ A), B ++ K2.flatMap (belowL t), ?_⟩
      rw [below_cons hT hn, hK, List.flatMap_append, List.flatMap_cons, hAB]
      simp
theorem below_down (hT : OKT t) {n y x : Nat} (hn : n < t.length) (hy : (y : Int) ∈ belowL t n) (hx0 : 0 < x) (hx1 : x < t.length) (hf : (t.getD x zN).f0 = (y : Int)) : (x : Int) ∈ belowL t n := by
  obtain ⟨A, B, h⟩ := below_split hT y n hn hy
  have hyr := below_range hT n hn _ hy
  rw [h, below_cons hT (n := y) (by omega)]
  refine List.mem_append_right _ (List.mem_append_left _ (List.mem_cons_of_mem _ ?_))
  exact List.mem_flatMap.2 ⟨x, kids_mem.2 ⟨hx0, hx1, hf⟩, below_self hT hx1⟩
theorem below_all (hT : OKT t) (hz : 0 < t.length) : ∀ x : Nat, x < t.length → (x : Int) ∈ belowL t ((0 : Nat) : Int) := by
  intro x
  induction x using Nat.strongRecOn with
  | _ x ih =>
    intro hx
    by_cases h0 : x = 0
    · subst h0; exact below_self hT hz
    · obtain ⟨p0, p1⟩ := hT x (by omega) hx
      obtain ⟨y, hy⟩ : ∃ y : Nat, (t.getD x zN).f0 = y := ⟨(t.getD x zN).f0.toNat, by omega⟩
      rw [hy] at p1
      exact below_down hT hz (ih y (by omega) (by omega)) (by omega) hx hy
end Go.Proofs.YtjafcgemgghbiaaDoor.G
