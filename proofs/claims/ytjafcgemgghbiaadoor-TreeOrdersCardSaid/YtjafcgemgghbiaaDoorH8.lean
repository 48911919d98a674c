/- Chapter 5: all nodes stand in the order, once, each behind what it hangs on. Written by tmpl.py out of H8.tl. -/
import Derived.Test.YtjafcgemgghbiaaDoorJ6
import Derived.Test.YtjafcgemgghbiaaDoorG3
namespace Go.Proofs.YtjafcgemgghbiaaDoor.G
open Go Go.RowKit Go.Proofs.YtjafcgemgghbiaaDoorW.PrintWords
variable {t : List Node}
attribute [local irreducible] belowL belowF kidsL depsL depN openT
theorem order_len (hT : OKT t) (hz : 0 < t.length) : (belowL t ((0 : Nat) : Int)).length = t.length := by
  have h1 := below_len hT hz
  have h2 : (natsL t.length).length ≤ (belowL t ((0 : Nat) : Int)).length := nodup_sub (natsL_nodup _) fun x hx => by
    obtain ⟨a, b⟩ := natsL_mem.1 hx
    obtain ⟨m, rfl⟩ : ∃ m : Nat, x = m := ⟨x.toNat, by omega⟩
    exact below_all hT hz m (by omega)
  rw [natsL_len] at h2
  omega
theorem nodup_after {A C : List Int} {y n : Int} (h : (A ++ y :: C).Nodup) (hn : n ∈ C) {i j : Nat} (hi : (A ++ y :: C)[i]? = some y) (hj : (A ++ y :: C)[j]? = some n) : i < j := by
  obtain ⟨_, hc, hd⟩ := List.nodup_append.1 h
  have hyC := (List.nodup_cons.1 hc).1
  have hj1 : A.length < j := by
    by_cases e : j < A.length
    · rw [List.getElem?_append_left e] at hj
      exact absurd rfl (hd n (List.mem_of_getElem? hj) n (List.mem_cons_of_mem _ hn))
    · by_cases e2 : j = A.length
      · subst e2
        rw [List.getElem?_append_right (Nat.le_refl _), Nat.sub_self, List.getElem?_cons_zero] at hj
        exact absurd (Option.some.inj hj ▸ hn) hyC
      · omega
  have hi1 : i ≤ A.length := by
    by_cases e : i ≤ A.length
    · exact e
    · rw [List.getElem?_append_right (by omega), show i - A.length = (i - A.length - 1) + 1 by omega, List.getElem?_cons_succ] at hi
      exact absurd (List.mem_of_getElem? hi) hyC
  omega
def AtOK (l : List Int) (N : Nat) (a : List Int) (i : Nat) : Prop :=
  a.length = N ∧ ∀ x : Nat, x < N → (∃ j, j < i ∧ l[j]? = some (x : Int) ∧ rd a x = (j : Int) + 1) ∨ ((x : Int) ∉ l.take i ∧ rd a x = 0)
theorem AtOK.step {l a : List Int} {N i : Nat} (h : AtOK l N a i) (x : Nat) (hx : x < N) (hl : l[i]? = some (x : Int)) : AtOK l N (a.set x ((i : Int) + 1)) (i + 1) := by
  refine ⟨by rw [List.length_set]; exact h.1, fun y hy => ?_⟩
  by_cases e : y = x
  · subst e
    refine .inl ⟨i, Nat.lt_succ_self i, hl, ?_⟩
    have hlen := h.1
    simp [rd, hlen, hy]
  · have hs : rd (a.set x ((i : Int) + 1)) y = rd a y := by
      simp only [rd, Int.toNat_natCast, List.getD_eq_getElem?_getD]
      rw [List.getElem?_set_ne (fun h => e h.symm)]
    rcases h.2 y hy with ⟨j, h1, h2, h3⟩ | ⟨h1, h2⟩
    · exact .inl ⟨j, by omega, h2, hs.trans h3⟩
    · refine .inr ⟨fun hm => ?_, hs.trans h2⟩
      rw [List.take_add_one, hl, List.mem_append] at hm
      rcases hm with hm | hm
      · exact h1 hm
      · simp only [Option.toList_some, List.mem_singleton] at hm
        omega
theorem orders_lt (hT : OKT t) (hz : 0 < t.length) {a : List Int} (ha : AtOK (belowL t ((0 : Nat) : Int)) t.length a t.length) {n : Nat} (h0 : 0 < n) (h1 : n < t.length) : rd a (t.getD n zN).f0 < rd a n := by
  obtain ⟨p0, p1⟩ := hT n h0 h1
  obtain ⟨y, hy⟩ : ∃ y : Nat, (t.getD n zN).f0 = y := ⟨(t.getD n zN).f0.toNat, by omega⟩
  have hyn : y < n := by omega
  have hfull : (belowL t ((0 : Nat) : Int)).take t.length = belowL t ((0 : Nat) : Int) := by conv => lhs; rw [← order_len hT hz]; rw [List.take_length]
  rw [hy]
  rcases ha.2 y (by omega) with ⟨i, _, hi, hri⟩ | ⟨hno, _⟩
  · rcases ha.2 n h1 with ⟨j, _, hj, hrj⟩ | ⟨hno, _⟩
    · obtain ⟨A, B, hAB⟩ := below_split hT y 0 hz (below_all hT hz y (by omega))
      have hnd := below_nodup hT 0 hz
      rw [below_cons hT (n := y) (by omega), List.cons_append] at hAB
      rw [hAB] at hnd hi hj
      have hm : (n : Int) ∈ (kidsL t t.length y).flatMap (belowL t) ++ B := List.mem_append_left _ (List.mem_flatMap.2 ⟨n, kids_mem.2 ⟨h0, h1, hy⟩, below_self hT h1⟩)
      have := nodup_after hnd hm hi hj
      omega
    · rw [hfull] at hno
      exact absurd (below_all hT hz n h1) hno
  · rw [hfull] at hno
    exact absurd (below_all hT hz y (by omega)) hno
theorem orders_l1 (hT : OKT t) (a : List Int) (hN : a.length = t.length) (h200 : t.length ≤ 200) (hlt : ∀ n : Nat, 0 < n → n < t.length → rd a (t.getD n zN).f0 < rd a n) : ∀ (k i : Nat), 1 ≤ i → i ≤ t.length → 250 < k + i →
    gutterlaw05_TreeOrders.l1 k t true a i = some true
  | 0, i, _, b, c => by omega
  | k + 1, i, h1, b, c => by
    rw [gutterlaw05_TreeOrders.l1]
    by_cases hi : i < t.length
    · obtain ⟨p0, p1⟩ := hT i (by omega) hi
      have hr : (rd_T32 t i).f0 = (t.getD i zN).f0 := rfl
      have e2 : wrap64 ((i : Int) + 1) = ((i + 1 : Nat) : Int) := by rw [i64_in (by omega) (by omega)]; omega
      have hq := hlt i (by omega) hi
      rw [if_pos (by omega), if_pos (by omega), hr, if_pos (by omega), if_pos (by omega), if_pos (by omega), if_neg (Int.not_le.2 hq), e2]
      exact orders_l1 hT a hN h200 hlt k (i + 1) (by omega) (by omega) (by omega)
    · rw [if_neg (by omega)]
theorem orders_l0 (hT : OKT t) (hz : 0 < t.length) (h200 : t.length ≤ 200) : ∀ (k i : Nat) (a : List Int), i ≤ t.length → 700 < k + 2 * i → AtOK (belowL t ((0 : Nat) : Int)) t.length a i →
    gutterlaw05_TreeOrders.l0 k t true (belowL t ((0 : Nat) : Int)) a i = some true
  | 0, i, a, b, c, ha => by omega
  | k + 1, i, a, b, c, ha => by
    have hl := order_len hT hz
    rw [gutterlaw05_TreeOrders.l0]
    by_cases hi : i < t.length
    · have hg : (belowL t ((0 : Nat) : Int))[i]? = some (rd (belowL t ((0 : Nat) : Int)) i) := by
        simp only [rd, Int.toNat_natCast, List.getD_eq_getElem?_getD]
        rw [List.getElem?_eq_getElem (by omega)]
        rfl
      have hrg := below_range hT 0 hz _ (List.mem_of_getElem? hg)
      obtain ⟨x, hx⟩ : ∃ x : Nat, rd (belowL t ((0 : Nat) : Int)) i = x := ⟨(rd (belowL t ((0 : Nat) : Int)) i).toNat, by omega⟩
      rw [hx] at hg hrg
      have hxl : x < t.length := by omega
      have hal := ha.1
      have ha0 : rd a x = 0 := by
        rcases ha.2 x hxl with ⟨j, h1, h2, _⟩ | h
        · have hnd := below_nodup hT 0 hz
          obtain ⟨q1, q2⟩ := List.getElem?_eq_some_iff.1 h2
          obtain ⟨q3, q4⟩ := List.getElem?_eq_some_iff.1 hg
          exact absurd (q2.trans q4.symm) (List.pairwise_iff_getElem.1 hnd j i q1 q3 h1)
        · exact h.2
      have e2 : wrap64 ((i : Int) + 1) = ((i + 1 : Nat) : Int) := by rw [i64_in (by omega) (by omega)]; omega
      have ih := orders_l0 hT hz h200 (k - 1) (i + 1) (a.set x ((i : Int) + 1)) hi (by omega) (ha.step x hxl hg)
      obtain ⟨k, rfl⟩ : ∃ m, k = m + 1 := ⟨k - 1, by omega⟩
      rw [Nat.add_sub_cancel] at ih
      rw [if_pos (by omega), if_pos (by omega), hx, if_neg (by omega), if_neg (by omega)]
      have hj : gutterlaw05_TreeOrders.j1 (k + 1) t true (belowL t ((0 : Nat) : Int)) a i false = some true := by
        rw [gutterlaw05_TreeOrders.j1, if_neg (by decide), if_pos (by omega), if_pos (by omega), hx, if_pos (by omega), if_pos (by omega), if_pos ha0, Int.toNat_natCast, e2]
        exact ih
      by_cases hx0 : (x : Int) > 0
      · have hi0 : ((i : Int) == 0) = false := by
          rw [beq_eq_false_iff_ne]
          intro e
          have e' : i = 0 := by omega
          subst e'
          rw [below_cons hT hz, List.getElem?_cons_zero] at hg
          have := Option.some.inj hg
          omega
        rw [if_pos hx0, hi0]
        exact hj
      · rw [if_neg hx0]
        exact hj
    · have hil : i = t.length := by omega
      subst hil
      rw [if_neg (by omega)]
      exact orders_l1 hT a ha.1 h200 (fun n h0 h1 => orders_lt hT hz ha h0 h1) k 1 (Nat.le_refl _) hz (by omega)
theorem TreeOrders (l0 : List Node) (_ : l0.all wfN = true) : ∃ k, gutterlaw05_TreeOrders.f k l0 = some true := by
  refine ⟨1000, ?_⟩
  unfold gutterlaw05_TreeOrders.f gutterlaw05_Few.f
  rw [shown_f 1000 (by decide), Option.bind_some, Option.bind_some]
  generalize fewL l0 = t
  rcases err_cases t 0 with he | ⟨ho, _, h1, he⟩
  · have hor : tree_Order.f t = some ([], errN t 0) := by unfold tree_Order.f tree_Below.f; rw [if_pos he]
    rw [hor]
    simp only [Option.bind_some]
    rw [if_neg he]
    rfl
  · have hT := open_OKT ho
    have hz : 0 < t.length := by omega
    have h200 := (open_none ho).2.1
    have hor : tree_Order.f t = some (belowL t ((0 : Nat) : Int), 0) := below_f ho hz
    rw [hor]
    simp only [Option.bind_some]
    rw [if_pos trivial, if_pos (by rw [order_len hT hz]), if_pos (by omega), if_pos (by omega), Int.toNat_natCast]
    refine orders_l0 hT hz h200 1000 0 _ (Nat.zero_le _) (by omega) ⟨List.length_replicate, fun x hx => .inr ⟨List.not_mem_nil, ?_⟩⟩
    simp [rd, hx]
end Go.Proofs.YtjafcgemgghbiaaDoor.G
