/- Chapter 5: what is below a node: each once, a parent ahead of its kids. Written by tmpl.py out of H5.tl by mkJ.py. -/
import Derived.Test.YtjafcgemgghbiaaDoorJ3
namespace Go.Proofs.YtjafcgemgghbiaaDoor.G
open Go Go.RowKit Go.Proofs.YtjafcgemgghbiaaDoorW.PrintWords
theorem nodup_sub {a : List Int} : ∀ {b : List Int}, a.Nodup → (∀ x ∈ a, x ∈ b) → a.length ≤ b.length := by
  induction a with
  | nil => intro b _ _; simp
  | cons x a ih =>
    intro b hn hs
    obtain ⟨h1, h2⟩ := List.nodup_cons.1 hn
    have hx : x ∈ b := hs x (by simp)
    have := ih (b := b.erase x) h2 (fun y hy => (List.mem_erase_of_ne (fun e => h1 (by rw [← e]; exact hy))).2 (hs y (by simp [hy])))
    rw [List.length_erase_of_mem hx] at this
    have hp : 0 < b.length := List.length_pos_of_mem hx
    simp only [List.length_cons]
    omega
def natsL (n : Nat) : List Int := (List.range n).map fun i : Nat => (i : Int)
theorem natsL_len (n : Nat) : (natsL n).length = n := by simp [natsL]
theorem natsL_mem {n : Nat} {x : Int} : x ∈ natsL n ↔ 0 ≤ x ∧ x < n := by
  unfold natsL
  constructor
  · intro h
    obtain ⟨i, hi, rfl⟩ := List.mem_map.1 h
    have := List.mem_range.1 hi
    omega
  · intro h
    exact List.mem_map.2 ⟨x.toNat, List.mem_range.2 (by omega), by omega⟩
theorem natsL_nodup (n : Nat) : (natsL n).Nodup := by
  unfold natsL
  rw [List.Nodup, List.pairwise_map]
  exact List.nodup_range.imp fun h e => h (by omega)
variable {t : List Node}
/-- Below a node: it, or what is below a kid. -/
theorem below_ind (hT : OKT t) {p : Int → Prop} (h : ∀ n : Nat, n < t.length → (∀ k : Nat, 0 < k → k < t.length → (t.getD k zN).f0 = (n : Int) → p k) → p n) : ∀ n : Nat, n < t.length → p n := by
  intro n hn
  have key : ∀ d n : Nat, n < t.length → t.length - n ≤ d → p n := by
    intro d
    induction d with
    | zero => intro n h1 h2; omega
    | succ d ih =>
      intro n h1 h2
      refine h n h1 fun k h0 hk hf => ih k hk ?_
      have := hT k h0 hk
      omega
  exact key t.length n hn (by omega)
theorem below_cons (hT : OKT t) {n : Nat} (hn : n < t.length) : belowL t n = (n : Int) :: (kidsL t t.length n).flatMap (belowL t) := belowL_eq hT (by omega) (by omega)
theorem below_range (hT : OKT t) : ∀ n : Nat, n < t.length → ∀ x ∈ belowL t n, (n : Int) ≤ x ∧ x < t.length := by
  refine below_ind hT (p := fun n => ∀ x ∈ belowL t n, n ≤ x ∧ x < t.length) fun n hn ih x hx => ?_
  rw [below_cons hT hn, List.mem_cons, List.mem_flatMap] at hx
  rcases hx with rfl | ⟨k, hk, hx⟩
  · omega
  · obtain ⟨m, rfl, h0, h1, h2⟩ := kidsL_mem hk
    have := ih m h0 h1 h2 x hx
    have := hT m h0 h1
    omega
/-- A node that is below n, and is not n, has its parent there. -/
theorem below_up (hT : OKT t) : ∀ n : Nat, n < t.length → ∀ x : Nat, (x : Int) ∈ belowL t n → x ≠ n → 0 < x ∧ (t.getD x zN).f0 ∈ belowL t n := by
  have key := below_ind hT (p := fun n => ∀ x : Nat, (x : Int) ∈ belowL t n → (x : Int) ≠ n → 0 < x ∧ (t.getD x zN).f0 ∈ belowL t n) fun n hn ih x hx hne => by
    rw [below_cons hT hn, List.mem_cons, List.mem_flatMap] at hx
    rcases hx with e | ⟨k, hk, hx⟩
    · exact absurd e hne
    · obtain ⟨m, rfl, h0, h1, h2⟩ := kidsL_mem hk
      by_cases e : (x : Int) = m
      · have e' : x = m := by omega
        subst e'
        refine ⟨h0, ?_⟩
        rw [h2, below_cons hT hn]
        exact List.mem_cons_self ..
      · obtain ⟨q1, q2⟩ := ih m h0 h1 h2 x hx e
        refine ⟨q1, ?_⟩
        rw [below_cons hT hn, List.mem_cons, List.mem_flatMap]
        exact .inr ⟨_, hk, q2⟩
  exact fun n hn x hx hne => key n hn x hx (by omega)
theorem below_self (hT : OKT t) {n : Nat} (hn : n < t.length) : (n : Int) ∈ belowL t n := by rw [below_cons hT hn]; exact List.mem_cons_self ..
/-- No node is below two kids of one. -/
theorem below_apart (hT : OKT t) {n k k' : Nat} (h0 : 0 < k) (h1 : k < t.length) (h2 : (t.getD k zN).f0 = (n : Int)) (h0' : 0 < k') (h1' : k' < t.length) (h2' : (t.getD k' zN).f0 = (n : Int)) (hne : k ≠ k') :
    ∀ x : Nat, x < t.length → (x : Int) ∈ belowL t k → (x : Int) ∈ belowL t k' → False := by
  intro x
  induction x using Nat.strongRecOn with
  | _ x ih =>
    intro hx ha hb
    have hn := hT k h0 h1
    have hn' := hT k' h0' h1'
    by_cases e : x = k
    · subst e
      obtain ⟨_, q⟩ := below_up hT k' h1' x hb hne
      rw [h2] at q
      have := below_range hT k' h1' _ q
      omega
    · by_cases e' : x = k'
      · subst e'
        obtain ⟨_, q⟩ := below_up hT k h1 x ha (Ne.symm hne)
        rw [h2'] at q
        have := below_range hT k h1 _ q
        omega
      · obtain ⟨q0, q1⟩ := below_up hT k h1 x ha e
        obtain ⟨_, q2⟩ := below_up hT k' h1' x hb e'
        obtain ⟨p0, p1⟩ := hT x q0 hx
        obtain ⟨y, hy⟩ : ∃ y : Nat, (t.getD x zN).f0 = y := ⟨(t.getD x zN).f0.toNat, by omega⟩
        rw [hy] at q1 q2 p1
        exact ih y (by omega) (by omega) q1 q2
theorem below_nodup (hT : OKT t) : ∀ n : Nat, n < t.length → (belowL t n).Nodup := by
  refine below_ind hT (p := fun n => (belowL t n).Nodup) fun n hn ih => ?_
  rw [below_cons hT hn]
  refine List.nodup_cons.2 ⟨fun h => ?_, ?_⟩
  · obtain ⟨k, hk, hx⟩ := List.mem_flatMap.1 h
    obtain ⟨m, rfl, h0, h1, h2⟩ := kidsL_mem hk
    have := below_range hT m h1 _ hx
    have := hT m h0 h1
    omega
  · rw [List.Nodup, List.pairwise_flatMap]
    refine ⟨fun k hk => ?_, ?_⟩
    · obtain ⟨m, rfl, h0, h1, h2⟩ := kidsL_mem hk
      exact ih m h0 h1 h2
    · refine (kids_sorted t n).imp_of_mem fun {a b} ha hb hlt x hx y hy e => ?_
      obtain ⟨ma, rfl, a0, a1, a2⟩ := kidsL_mem ha
      obtain ⟨mb, rfl, b0, b1, b2⟩ := kidsL_mem hb
      subst e
      have hr := below_range hT ma a1 _ hx
      obtain ⟨z, rfl⟩ : ∃ z : Nat, x = z := ⟨x.toNat, by omega⟩
      exact below_apart hT a0 a1 a2 b0 b1 b2 (by omega) z (by omega) hx hy
theorem below_len (hT : OKT t) {n : Nat} (hn : n < t.length) : (belowL t n).length ≤ t.length := by
  have := nodup_sub (below_nodup hT n hn) (b := natsL t.length) fun x hx => by
    have := below_range hT n hn x hx
    exact natsL_mem.2 ⟨by omega, by omega⟩
  rwa [natsL_len] at this
theorem below_f (ho : openT t = none) {n : Nat} (hn : n < t.length) : tree_Below.f t n = some (belowL t n, 0) := by
  have h1 := below_len (open_OKT ho) hn
  have h2 := (open_none ho).2.1
  unfold tree_Below.f
  rw [if_neg (by rw [errN_ok ho (by omega) (by omega)]; simp), if_pos (by omega)]
theorem dep_step {n p : Nat} (h0 : 0 < n) (hp : (t.getD n zN).f0 = p) (hlt : p < n) : depN t n (depsL t n) = 1 + depN t p (depsL t p) := by
  conv => lhs; unfold depN
  rw [if_neg (by omega), hp, Int.toNat_natCast, deps_get t p n hlt]
theorem below_deep (hT : OKT t) {n : Nat} (hn : n < t.length) : ∀ x : Nat, (x : Int) ∈ belowL t n → depN t n (depsL t n) ≤ depN t x (depsL t x) := by
  intro x
  induction x using Nat.strongRecOn with
  | _ x ih =>
    intro hx
    by_cases e : x = n
    · subst e; exact Int.le_refl _
    · obtain ⟨h0, hq⟩ := below_up hT n hn x hx e
      have hr := below_range hT n hn _ hx
      obtain ⟨p0, p1⟩ := hT x h0 (by omega)
      obtain ⟨y, hy⟩ : ∃ y : Nat, (t.getD x zN).f0 = y := ⟨(t.getD x zN).f0.toNat, by omega⟩
      rw [hy] at hq p1
      have := ih y (by omega) hq
      rw [dep_step h0 hy (by omega)]
      omega
theorem below_deeper (hT : OKT t) {n : Nat} {x : Nat} (hx : (x : Int) ∈ (kidsL t t.length n).flatMap (belowL t)) : x < t.length ∧ depN t n (depsL t n) < depN t x (depsL t x) := by
  obtain ⟨k, hk, hx⟩ := List.mem_flatMap.1 hx
  obtain ⟨m, rfl, h0, h1, h2⟩ := kidsL_mem hk
  have hr := below_range hT m h1 _ hx
  have h3 := below_deep hT h1 x hx
  have h4 := hT m h0 h1
  rw [h2] at h4
  have h5 := dep_step h0 h2 (by omega)
  exact ⟨by omega, by omega⟩
end Go.Proofs.YtjafcgemgghbiaaDoor.G
