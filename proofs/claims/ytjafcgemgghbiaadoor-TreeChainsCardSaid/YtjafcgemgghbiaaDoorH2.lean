/- Chapter 5: of blocks in blocks so many may be, and no more. Written by tmpl.py out of H2.tl. -/
import Derived.Test.YtjafcgemgghbiaaDoorH1
import Derived.Test.YtjafcgemgghbiaaDoorG6
namespace Go.Proofs.YtjafcgemgghbiaaDoor.G
open Go Go.RowKit Go.Proofs.YtjafcgemgghbiaaDoorW.PrintWords
def chainL (n : Nat) : List Node := (List.range n).map fun i : Nat => blkN ((i : Int) - 1)
theorem chain_len (n : Nat) : (chainL n).length = n := by simp [chainL]
theorem chain_snoc (n : Nat) : chainL (n + 1) = chainL n ++ [blkN ((n : Int) - 1)] := by simp [chainL, List.range_succ]
theorem chain_get (n i : Nat) (h : i < n) : (chainL n).getD i zN = blkN ((i : Int) - 1) := by
  simp [chainL, h]
theorem chain_good (n i : Nat) (h : i < n) : goodB (chainL n) i = true :=
  blk_good (chain_get n i h) (fun h0 => by subst h0; rfl) (fun h1 => ⟨by omega, by omega, _, by
    rw [show ((i : Int) - 1).toNat = i - 1 by omega]
    exact chain_get n (i - 1) (by omega)⟩)
theorem chain_deps (n : Nat) : ∀ i, i ≤ n → depsL (chainL n) i = (List.range i).map fun j : Nat => (j : Int) + 1
  | 0, _ => rfl
  | i + 1, h => by
    rw [depsL, chain_deps n i (by omega), List.range_succ, List.map_append]
    congr 1
    show [depN (chainL n) i _] = [(i : Int) + 1]
    congr 1
    unfold depN
    by_cases h0 : i = 0
    · subst h0; rfl
    · rw [if_neg h0, chain_get n i (by omega)]
      show 1 + _ = _
      have e : ((i : Int) - 1).toNat = i - 1 := by omega
      show 1 + ((List.range i).map fun j : Nat => (j : Int) + 1).getD ((i : Int) - 1).toNat 0 = _
      rw [e, List.getD_eq_getElem?_getD, List.getElem?_map, List.getElem?_range (by omega)]
      simp
      omega
theorem chain_dep (n i : Nat) (h : i < n) : depN (chainL n) i (depsL (chainL n) i) = (i : Int) + 1 := by
  have h1 := chain_deps n (i + 1) h
  have h2 := chain_deps n i (by omega)
  rw [depsL, List.range_succ, List.map_append, ← h2] at h1
  exact (List.cons.inj (List.append_cancel_left h1)).1
theorem chain_scan (n : Nat) : ∀ (f i : Nat), i + f = n → scanT (chainL n) f i = if 64 < n ∧ i ≤ 64 then some (64, 1) else if 64 < i ∧ i < n then some (i, 1) else none
  | 0, i, h => by
    rw [scanT, if_neg (by omega), if_neg (by omega)]
  | f + 1, i, h => by
    rw [scanT, if_pos (chain_good n i (by omega)), chain_dep n i (by omega)]
    by_cases h1 : 64 < (i : Int) + 1
    · rw [if_pos h1]
      by_cases h2 : i ≤ 64
      · have : i = 64 := by omega
        subst this
        rw [if_pos ⟨by omega, by omega⟩]
      · rw [if_neg (by omega), if_pos ⟨by omega, by omega⟩]
    · rw [if_neg h1, chain_scan n f (i + 1) (by omega)]
      by_cases h2 : 64 < n
      · rw [if_pos ⟨h2, by omega⟩, if_pos ⟨h2, by omega⟩]
      · rw [if_neg (by omega), if_neg (by omega), if_neg (by omega), if_neg (by omega)]
theorem chain_open (n : Nat) (h1 : 1 ≤ n) (h2 : n ≤ 80) : openT (chainL n) = if 64 < n then some (64, 1) else none := by
  rw [openT, chain_len, if_neg (by omega), chain_scan n n 0 (by omega)]
  by_cases h : 64 < n
  · rw [if_pos ⟨h, by omega⟩, if_pos h]
  · rw [if_neg (by omega), if_neg (by omega), if_neg h]
theorem chains_l (n : Nat) (h1 : 1 ≤ n) (h2 : n ≤ 80) : ∀ (k i : Nat), i ≤ n → n < k + i → gutterlaw05_TreeChains.l0 k n true (chainL i) i = some true
  | 0, i, a, b => by omega
  | k + 1, i, a, b => by
    rw [gutterlaw05_TreeChains.l0]
    by_cases hi : i < n
    · have e1 : wrap64 ((i : Int) - 1) = (i : Int) - 1 := i64_in (by omega) (by omega)
      have e2 : wrap64 ((i : Int) + 1) = ((i + 1 : Nat) : Int) := by rw [i64_in (by omega) (by omega)]; omega
      have ih := chains_l n h1 h2 k (i + 1) (by omega) (by omega)
      rw [chain_snoc] at ih
      rw [if_pos (by omega), e1, e2]
      unfold gutterlaw05_block.f
      rw [Option.bind_some, if_pos (by rw [chain_len]; omega)]
      exact ih
    · have hin : i = n := by omega
      subst hin
      have e1 : wrap64 ((i : Int) - 1) = ((i - 1 : Nat) : Int) := by rw [i64_in (by omega) (by omega)]; omega
      have ho := chain_open i h1 h2
      rw [if_neg (by omega), e1]
      by_cases h64 : 64 < i
      · rw [if_pos h64] at ho
        have hc : tree_Check.f (chainL i) = some (64, 51) := by unfold tree_Check.f; rw [ho]; rfl
        have he : errN (chainL i) ((i - 1 : Nat) : Int) = 51 := by unfold errN; rw [ho]; rfl
        have hd : tree_Deep.f (chainL i) ((i - 1 : Nat) : Int) = some (0, 51) := by
          unfold tree_Deep.f
          rw [if_pos (by rw [he]; decide), he]
        rw [hc, hd]
        simp only [Option.bind_some]
        rw [if_pos (show (i : Int) > 64 by omega)]
        rfl
      · rw [if_neg h64] at ho
        have hc : tree_Check.f (chainL i) = some (0, 0) := by unfold tree_Check.f; rw [ho]
        have he : errN (chainL i) ((i - 1 : Nat) : Int) = 0 := by unfold errN; rw [ho]; exact if_neg (by rw [chain_len]; omega)
        have hd : tree_Deep.f (chainL i) ((i - 1 : Nat) : Int) = some ((i : Int), 0) := by
          unfold tree_Deep.f
          rw [if_neg (by rw [he]; simp), chain_len, chain_deps i i (by omega), Int.toNat_natCast, List.getD_eq_getElem?_getD, List.getElem?_map, List.getElem?_range (by omega)]
          simp
          omega
        have hr : rd_T32 (chainL i) 0 = blkN (-1) := chain_get i 0 (by omega)
        rw [hc, hd]
        simp only [Option.bind_some]
        rw [if_neg (show ¬ (i : Int) > 64 by omega)]
        simp only [if_true]
        rw [if_pos (by rw [chain_len]; omega), hr]
        rfl
theorem TreeChains : gutterlaw05_TreeChains.Pure := by
  intro a0 _
  refine ⟨100, ?_⟩
  unfold gutterlaw05_TreeChains.f
  rw [shown_f 100 (by decide), Option.bind_some]
  by_cases h1 : a0 < 1
  · rw [if_pos h1, gutterlaw05_TreeChains.j0]; rfl
  · rw [if_neg h1]
    by_cases h2 : a0 > 80
    · rw [decide_eq_true h2, gutterlaw05_TreeChains.j0]; rfl
    · obtain ⟨n, rfl⟩ : ∃ n : Nat, a0 = n := ⟨a0.toNat, by omega⟩
      rw [decide_eq_false h2, gutterlaw05_TreeChains.j0]
      exact chains_l n (by omega) (by omega) 99 0 (by omega) (by omega)
end Go.Proofs.YtjafcgemgghbiaaDoor.G
