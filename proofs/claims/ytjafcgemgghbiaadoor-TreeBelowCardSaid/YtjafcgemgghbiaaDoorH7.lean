/- Chapter 5: what is below a node stands together in the document order. Written by tmpl.py out of H7.tl. -/
import Derived.Test.YtjafcgemgghbiaaDoorJ6
import Derived.Test.YtjafcgemgghbiaaDoorG4
namespace Go.Proofs.YtjafcgemgghbiaaDoor.G
open Go Go.RowKit Go.Proofs.YtjafcgemgghbiaaDoorW.PrintWords
variable {t : List Node}
attribute [local irreducible] belowL belowF kidsL depsL depN openT
theorem below_l1 (n : Int) (A l B want : List Int) (hA : n ∉ A) (hl : ∃ r, l = n :: r) (hw : want = l) (hb : (A ++ (l ++ B)).length ≤ 200) : ∀ (k i : Nat), i ≤ A.length → A.length + 300 < k + i →
    gutterlaw05_TreeBelow.l1 k n true l (A ++ (l ++ B)) want i = some true
  | 0, i, a, b => by simp only [List.length_append] at hb; omega
  | k + 1, i, a, b => by
    obtain ⟨r, rfl⟩ := hl
    have hb' := hb
    simp only [List.length_append, List.length_cons] at hb'
    have e1 : wrap64 ((i : Int) + ((n :: r).length : Int)) = (((i + (n :: r).length : Nat)) : Int) := by
      simp only [List.length_cons]
      rw [i64_in (by omega) (by omega)]
      omega
    have e2 : wrap64 ((i : Int) + 1) = ((i + 1 : Nat) : Int) := by rw [i64_in (by omega) (by omega)]; omega
    rw [gutterlaw05_TreeBelow.l1, e1, e2]
    rw [if_pos (by simp only [List.length_append, List.length_cons]; omega), if_pos (by omega), if_pos (by simp only [List.length_append, List.length_cons]; omega)]
    by_cases hi : i < A.length
    · have hr : rd (A ++ (n :: r ++ B)) i = A[i] := by
        simp only [rd, Int.toNat_natCast, List.getD_eq_getElem?_getD]
        rw [List.getElem?_append_left hi, List.getElem?_eq_getElem hi]
        rfl
      rw [hr, if_neg (fun e => hA (by rw [← e]; exact List.getElem_mem hi))]
      exact below_l1 n A (n :: r) B want hA ⟨r, rfl⟩ hw hb k (i + 1) hi (by omega)
    · have hil : i = A.length := by omega
      subst hil
      have hr : rd (A ++ (n :: r ++ B)) (A.length : Int) = n := by
        simp only [rd, Int.toNat_natCast, List.getD_eq_getElem?_getD]
        rw [List.getElem?_append_right (Nat.le_refl _)]
        simp
      have hcut : ((A ++ (n :: r ++ B)).take (((A.length + (n :: r).length : Nat)) : Int).toNat).drop ((A.length : Nat) : Int).toNat = n :: r := by
        rw [Int.toNat_natCast, Int.toNat_natCast, List.drop_take, List.drop_left, Nat.add_sub_cancel_left, List.take_left]
      rw [hr, if_pos rfl, if_pos rfl, if_pos (by omega), hcut, ints_f _ _ k (by simp only [List.length_cons]; omega) (by simp only [List.length_cons]; omega), Option.bind_some, hw, ints_f _ _ k (by simp only [List.length_cons]; omega) (by simp only [List.length_cons]; omega)]
      simp
theorem below_l0 (ho : openT t = none) (n : Nat) (hn : n < t.length) : ∀ (k i : Nat), i ≤ (kidsL t t.length n).length → 800 < k + i →
    gutterlaw05_TreeBelow.l0 k t n true (belowL t n) (belowL t ((0 : Nat) : Int)) (kidsL t t.length n) ((n : Int) :: ((kidsL t t.length n).take i).flatMap (belowL t)) i = some true
  | 0, i, a, b => by
    have := kidsL_len t t.length n
    have := (open_none ho).2.1
    omega
  | k + 1, i, a, b => by
    have hT := open_OKT ho
    have h200 := (open_none ho).2.1
    have hkl := kidsL_len t t.length n
    have hz : 0 < t.length := by omega
    have hbl := below_len hT hn
    have hb0 := below_len hT hz
    rw [gutterlaw05_TreeBelow.l0]
    by_cases hi : i < (kidsL t t.length n).length
    · have p1 : (i : Int) < ((kidsL t t.length n).length : Int) := by omega
      have p2 : (0 : Int) ≤ i := by omega
      have e2 : wrap64 ((i : Int) + 1) = ((i + 1 : Nat) : Int) := by rw [i64_in (by omega) (by omega)]; omega
      have r2 : 800 < k + (i + 1) := by omega
      have hr : rd (kidsL t t.length n) i = (kidsL t t.length n)[i] := by
        simp only [rd, Int.toNat_natCast, List.getD_eq_getElem?_getD]
        rw [List.getElem?_eq_getElem hi]
        rfl
      obtain ⟨m, hm, h0, h1, h2⟩ := kidsL_mem (List.getElem_mem hi)
      have htk : (kidsL t t.length n).take (i + 1) = (kidsL t t.length n).take i ++ [(m : Int)] := by rw [List.take_add_one, List.getElem?_eq_getElem hi, hm]; rfl
      have ih := below_l0 ho n hn k (i + 1) hi r2
      rw [htk, List.flatMap_append] at ih
      have hlen : ((n : Int) :: ((kidsL t t.length n).take i).flatMap (belowL t)).length + (belowL t m).length ≤ 400 := by
        have q1 := below_len hT h1
        have q2 : (((kidsL t t.length n).take i).flatMap (belowL t)).length ≤ ((kidsL t t.length n).flatMap (belowL t)).length := by
          conv => rhs; rw [← List.take_append_drop i (kidsL t t.length n), List.flatMap_append, List.length_append]
          omega
        have q3 : ((kidsL t t.length n).flatMap (belowL t)).length + 1 = (belowL t n).length := by rw [below_cons hT hn, List.length_cons]
        simp only [List.length_cons]
        omega
      rw [if_pos p1, if_pos p2, hr, hm, below_f ho h1, Option.bind_some, if_pos rfl, e2, if_pos (Nat.lt_of_le_of_lt hlen (by decide))]
      simpa using ih
    · have hil : i = (kidsL t t.length n).length := by omega
      have p1 : ¬ (i : Int) < ((kidsL t t.length n).length : Int) := by omega
      rw [if_neg p1, hil, List.take_length, ← below_cons hT hn]
      obtain ⟨A, B, hAB⟩ := below_split hT n 0 hz (below_all hT hz n hn)
      have hnd := below_nodup hT 0 hz
      rw [hAB] at hnd hb0 ⊢
      refine below_l1 n A (belowL t n) B (belowL t n) (fun h => ?_) ⟨_, below_cons hT hn⟩ rfl (by omega) k 0 (Nat.zero_le _) ?_
      · exact (List.nodup_append.1 hnd).2.2 _ h _ (List.mem_append_left _ (below_self hT hn)) rfl
      · simp only [List.length_append] at hb0
        omega
theorem TreeBelow (l0 : List Node) (a1 : Int) (_ : l0.all wfN = true) (_ : (Lit.int .i64 a1).wf = true) : ∃ k, gutterlaw05_TreeBelow.f k l0 a1 = some true := by
  refine ⟨1000, ?_⟩
  unfold gutterlaw05_TreeBelow.f gutterlaw05_Few.f
  rw [shown_f 1000 (by decide), Option.bind_some, Option.bind_some]
  generalize fewL l0 = t
  rcases err_cases t a1 with he | ⟨ho, h0, h1, he⟩
  · have hb : tree_Below.f t a1 = some ([], errN t a1) := by unfold tree_Below.f; rw [if_pos he]
    have hd : tree_Kids.f t a1 = some ([], errN t a1) := by unfold tree_Kids.f; rw [if_pos he]
    obtain ⟨r, hr⟩ : ∃ r, tree_Below.f t 0 = some r := by
      rcases err_cases t 0 with hz | ⟨ho, _, hz, _⟩
      · exact ⟨_, by unfold tree_Below.f; rw [if_pos hz]⟩
      · exact ⟨_, below_f ho (n := 0) (by omega)⟩
    have hor : tree_Order.f t = some r := hr
    rw [hb, hd, hor]
    simp only [Option.bind_some]
    rw [if_neg he]
    simp
  · obtain ⟨n, rfl⟩ : ∃ n : Nat, a1 = n := ⟨a1.toNat, by omega⟩
    have hn : n < t.length := by omega
    have hT := open_OKT ho
    have hz : 0 < t.length := by omega
    have hr : tree_Below.f t 0 = some (belowL t ((0 : Nat) : Int), 0) := below_f ho hz
    have hor : tree_Order.f t = some (belowL t ((0 : Nat) : Int), 0) := hr
    have hd : tree_Kids.f t n = some (kidsL t t.length n, 0) := by unfold tree_Kids.f; rw [if_neg (by rw [he]; simp)]
    have hpos : 0 < (belowL t n).length := by rw [below_cons hT hn]; simp
    have hrd : rd (belowL t n) 0 = n := by rw [below_cons hT hn]; rfl
    rw [below_f ho hn, hor, hd]
    simp only [Option.bind_some, if_true]
    rw [if_neg (by omega), if_pos (by omega), hrd, gutterlaw05_TreeBelow.j0, if_neg (by simp)]
    exact below_l0 ho n hn 999 0 (Nat.zero_le _) (by omega)
end Go.Proofs.YtjafcgemgghbiaaDoor.G
