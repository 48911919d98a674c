/- Chapter 5: the reference's deep, Check, node. Written by tmpl.py out of F24.tl. -/
import Derived.Test.YtjafcgemgghbiaaDoorF23
namespace Go.Proofs.YtjafcgemgghbiaaDoor.G
open Go.RowKit Go.Shelf Go.Maps Go.MapKept Go.ChangeMaps Go.ChangeShapes Go.Proofs.YtjafcgemgghbiaaDoorW.PrintWords Go.Proofs.YtjafcgemgghbiaaDoorW.PrintLast Go.Proofs.YtjafcgemgghbiaaDoorW.PrintMore
attribute [local irreducible] cN
theorem deps_at (t : List Node) (j : Nat) : ∀ i, j < i → (depsL t i).getD j 0 = depN t j (depsL t j)
  | 0, h => by omega
  | i + 1, h => by
    have hl := depsL_len t i
    rw [depsL, List.getD_eq_getElem?_getD]
    by_cases e : j = i
    · subst e
      rw [List.getElem?_append_right (by omega), hl, Nat.sub_self]
      rfl
    · rw [List.getElem?_append_left (by omega), ← List.getD_eq_getElem?_getD]
      exact deps_at t j i (by omega)
/-- Each node but the root, up to n, hangs on one ahead of it. -/
def UpTo (t : List Node) (n : Nat) : Prop := ∀ j, 0 < j → j ≤ n → 0 ≤ (t.getD j zN).f0 ∧ (t.getD j zN).f0 < j
theorem rdep_step {t : List Node} {n p : Nat} (h0 : 0 < n) (hp : (t.getD n zN).f0 = p) (hpn : p < n) : depN t n (depsL t n) = 1 + depN t p (depsL t p) := by
  rw [depN, if_neg (by omega), hp, Int.toNat_natCast, deps_at t p n hpn]
theorem rdep_bound {t : List Node} : ∀ (n : Nat), UpTo t n → 1 ≤ depN t n (depsL t n) ∧ depN t n (depsL t n) ≤ n + 1 := by
  intro n
  induction n using Nat.strongRecOn with
  | ind n ih =>
    intro hu
    by_cases h0 : n = 0
    · subst h0; rw [depN, if_pos rfl]; omega
    · have h := hu n (by omega) (Nat.le_refl _)
      obtain ⟨p, hp⟩ : ∃ p : Nat, (t.getD n zN).f0 = p := ⟨(t.getD n zN).f0.toNat, by omega⟩
      have hpn : p < n := by omega
      have := ih p hpn (fun j h1 h2 => hu j h1 (by omega))
      rw [rdep_step (by omega) hp hpn]
      omega
set_option maxHeartbeats 1000000 in
set_option maxRecDepth 100000 in
theorem rdeep_any (t : List Node) (A0 : Option Addr) (c0 : Nat) (hlen : t.length ≤ 200) : ∀ (n : Nat) (w : World), n < t.length → UpTo t n → kN.C w A0 t.length t →
    Calls Tryd.prog 35 #[.slice A0 t.length c0, .int .i64 n] w fun e w' => e = .returned (.int .i64 (depN t n (depsL t n))) ∧ Below w.heap.size w w' := by
  intro n
  induction n using Nat.strongRecOn with
  | ind n ih =>
    intro w hn hu hc
    by_cases h0 : n = 0
    · subst h0
      rw [show depN t 0 (depsL t 0) = 1 from by rw [depN, if_pos rfl]]
      clear ih hc
      go_enter Tryd.func35, Tryd.ntmps35
      go_wp2
      go_ret
      exact ⟨rfl, Below.refl ..⟩
    · have h := hu n (by omega) (Nat.le_refl _)
      obtain ⟨ad, M, rfl, hM, hr⟩ := node_at hc n hn
      obtain ⟨p, hp⟩ : ∃ p : Nat, (t.getD n zN).f0 = p := ⟨(t.getD n zN).f0.toNat, by omega⟩
      have hpn : p < n := by omega
      have hu' : UpTo t p := fun j h1 h2 => hu j h1 (by omega)
      have HI := Aside0.mk (ih p hpn w (by omega) hu' hc)
      have hb := rdep_bound p hu'
      rw [rdep_step (by omega) hp hpn]
      generalize depN t p (depsL t p) = d at *
      have c0' := hM.c0
      rw [hp] at c0'
      have g0 := ranges_first hr c0'
      have hn' : (n : Int) < t.length := by omega
      have hz : ¬ (n : Int) = 0 := by omega
      obtain ⟨hb1, hb2⟩ := hb
      clear ih hc hM hr hu hu' h c0' hp
      go_enter Tryd.func35, Tryd.ntmps35
      go_wp2_with (first | (go_at_call 35; refine HI.out.mono ?_; rintro e w2 ⟨rfl, hb3⟩))
      go_ret
      exact ⟨by go_num, hb3⟩
/-- What the scan of the reference still owes from k on. -/
theorem good_up {t : List Node} {k : Nat} (h : ∀ j, j < k → goodB t j = true) (hg : goodB t k = true) : UpTo t k := fun j h0 h1 => by
  have hj : goodB t j = true := by
    by_cases e : j = k
    · subst e; exact hg
    · exact h j (by omega)
  unfold goodB at hj
  exact place_parent h0 (by revert hj; cases placeB t j <;> simp)
def gutterref05_Check.f (l0 : List (S32)) : Option (Int × Int) := tree_Check.f l0
set_option maxHeartbeats 2000000 in
set_option maxRecDepth 100000 in
theorem gutterref05_Check.calls (A0 : Option Addr) (c0 : Nat) (l0 : List (S32)) (r1 : Int) (r2 : Int) (w : World) (hr0 : Kd.C k32 w A0 l0.length l0) (hc0 : l0.length ≤ c0) (h : gutterref05_Check.f l0 = some (r1, r2)) :
    Calls Tryd.prog 20 #[.slice A0 l0.length c0] w fun e w' => e = .returned (.tuple #[.int .i64 r1, .int .i64 r2]) ∧ Below w.heap.size w w' := by
  have _h0 := hc0
  unfold gutterref05_Check.f tree_Check.f at h
  have h := Option.some.inj h
  have HC := Aside0.mk hr0
  clear hr0
  by_cases h1 : l0.length < 1
  · rw [show openT l0 = some (0, 2) by rw [openT, if_pos (.inl h1)]] at h
    simp only [Prod.mk.injEq] at h
    obtain ⟨rfl, rfl⟩ := h
    have h1' : (l0.length : Int) < 1 := by omega
    go_enter Tryd.func20, Tryd.ntmps20
    go_wp2
    go_ret2
    exact ⟨rfl, Below.refl ..⟩
  · have h1' : ¬ (l0.length : Int) < 1 := by omega
    by_cases h2 : 200 < l0.length
    · rw [show openT l0 = some (0, 2) by rw [openT, if_pos (.inr h2)]] at h
      simp only [Prod.mk.injEq] at h
      obtain ⟨rfl, rfl⟩ := h
      have h2' : (l0.length : Int) > 200 := by omega
      go_enter Tryd.func20, Tryd.ntmps20
      go_wp2
      go_ret2
      exact ⟨rfl, Below.refl ..⟩
    · have h2' : ¬ (l0.length : Int) > 200 := by omega
      have hO : openT l0 = scanT l0 l0.length 0 := by rw [openT, if_neg (by omega)]
      rw [hO] at h
      replace h := Aside0.mk h
      clear hO
      go_enter Tryd.func20, Tryd.ntmps20
      go_wp2
      go_loopw [4] (fun i wr => ∃ k : Nat, i = .int .i64 k ∧ k ≤ l0.length ∧ Aside0 (scanT l0 (l0.length - k) k = scanT l0 l0.length 0) ∧ Aside0 (∀ j, j < k → goodB l0 j = true) ∧ Aside0 (Below w.heap.size w wr)) (fun i _ => l0.length - (intZ i).toNat)
      case atStart => exact ⟨0, rfl, Nat.zero_le _, ⟨rfl⟩, ⟨fun j hj => by omega⟩, ⟨Below.refl ..⟩⟩
      case round =>
        obtain ⟨k, rfl, hk, HS, HG, HB⟩ := hrel
        by_cases hlt : k < l0.length
        · have hlt' : (k : Int) < l0.length := by omega
          have HI := Aside0.mk (ris_any l0 A0 c0 k wr hlt (Kd.C_below HC.out HB.out))
          have hst := HS.out
          rw [show l0.length - k = (l0.length - (k + 1)) + 1 by omega, scanT] at hst
          obtain ⟨g, hg⟩ : ∃ g, goodB l0 k = g := ⟨_, rfl⟩
          rw [hg] at HI hst
          cases g with
          | false =>
            rw [if_neg (by decide)] at hst
            have h' := h.out
            rw [← hst] at h'
            simp only [Prod.mk.injEq] at h'
            obtain ⟨rfl, rfl⟩ := h'
            clear hst hg
            go_wp2_with (first | (go_at_call 34; refine HI.out.mono ?_; rintro e w2 ⟨rfl, hb2⟩))
            go_ret2
            exact ⟨rfl, below_then HB.out HB.out.size hb2⟩
          | true =>
            rw [if_pos rfl] at hst
            have hu := good_up HG.out hg
            have hdb := rdep_bound k hu
            have HD := Aside0.mk (fun w' (hb : Below w.heap.size w w') => rdeep_any l0 A0 c0 (by omega) k w' hlt hu (Kd.C_below HC.out hb))
            have hg' := Aside0.mk hg
            generalize depN l0 k (depsL l0 k) = d at *
            clear hu hg
            obtain ⟨hd1, hd2⟩ := hdb
            by_cases hd : 64 < d
            · rw [if_pos hd] at hst
              have h' := h.out
              rw [← hst] at h'
              simp only [Prod.mk.injEq] at h'
              obtain ⟨rfl, rfl⟩ := h'
              have hd' : d > 64 := hd
              clear hst
              go_wp2_with (first | (go_at_call 34; refine HI.out.mono ?_; rintro e w2 ⟨rfl, hb2⟩; have HB2 := Aside0.mk (below_then HB.out HB.out.size hb2); clear hb2) | (go_at_call 35; refine (HD.out _ HB2.out).mono ?_; rintro e w3 ⟨rfl, hb3⟩))
              go_ret2
              exact ⟨rfl, below_then HB2.out HB2.out.size hb3⟩
            · rw [if_neg hd] at hst
              have hd' : ¬ d > 64 := hd
              replace hst := Aside0.mk hst
              go_wp2_with (first | (go_at_call 34; refine HI.out.mono ?_; rintro e w2 ⟨rfl, hb2⟩; have HB2 := Aside0.mk (below_then HB.out HB.out.size hb2); clear hb2) | (go_at_call 35; refine (HD.out _ HB2.out).mono ?_; rintro e w3 ⟨rfl, hb3⟩))
              refine ⟨⟨k + 1, by go_num, by omega, hst, ⟨fun j hj => ?_⟩, ⟨below_then HB2.out HB2.out.size hb3⟩⟩, by simp [intZ]; omega⟩
              by_cases e : j = k
              · subst e; exact hg'.out
              · exact HG.out j (by omega)
        · have hke : k = l0.length := by omega
          subst hke
          have hst := HS.out
          rw [Nat.sub_self, scanT] at hst
          have h' := h.out
          rw [← hst] at h'
          simp only [Prod.mk.injEq] at h'
          obtain ⟨rfl, rfl⟩ := h'
          go_wp2
          go_ret2
          exact ⟨rfl, HB.out⟩
set_option maxRecDepth 100000 in
theorem rnode_any (t : List Node) (A0 : Option Addr) (c0 : Nat) (n : Int) (w : World) (hc : kN.C w A0 t.length t) (hc0 : t.length ≤ c0) :
    Calls Tryd.prog 36 #[.slice A0 t.length c0, .int .i64 n] w fun e w' => e = .returned (.int .i64 (errN t n)) ∧ Below w.heap.size w w' := by
  cases hop : openT t with
  | some p =>
    obtain ⟨k, i⟩ := p
    have hE : errN t n = 50 + (i : Int) := by unfold errN; rw [hop]
    have HC := Aside0.mk (gutterref05_Check.calls A0 c0 t k (50 + (i : Int)) w hc hc0 (by unfold gutterref05_Check.f tree_Check.f; rw [hop]))
    have hi := open_code hop
    rw [hE]
    have hi2 : ¬ (50 + (i : Int)) = 0 := by omega
    generalize 50 + (i : Int) = e0 at *
    clear hop hE hi hc
    go_enter Tryd.func36, Tryd.ntmps36
    go_wp2_with (first | (go_at_call 20; refine HC.out.mono ?_; rintro e w2 ⟨rfl, hb⟩))
    go_ret
    exact ⟨rfl, hb⟩
  | none =>
    have HC := Aside0.mk (gutterref05_Check.calls A0 c0 t 0 0 w hc hc0 (by unfold gutterref05_Check.f tree_Check.f; rw [hop]))
    have hE : errN t n = if n < 0 ∨ (t.length : Int) ≤ n then 53 else 0 := by unfold errN; rw [hop]
    rw [hE]
    clear hop hE hc
    by_cases h1 : n < 0
    · rw [if_pos (.inl h1)]
      go_enter Tryd.func36, Tryd.ntmps36
      go_wp2_with (first | (go_at_call 20; refine HC.out.mono ?_; rintro e w2 ⟨rfl, hb⟩))
      go_ret
      exact ⟨rfl, hb⟩
    · by_cases h2 : n ≥ (t.length : Int)
      · rw [if_pos (.inr h2)]
        go_enter Tryd.func36, Tryd.ntmps36
        go_wp2_with (first | (go_at_call 20; refine HC.out.mono ?_; rintro e w2 ⟨rfl, hb⟩))
        go_ret
        exact ⟨rfl, hb⟩
      · rw [if_neg (by omega)]
        go_enter Tryd.func36, Tryd.ntmps36
        go_wp2_with (first | (go_at_call 20; refine HC.out.mono ?_; rintro e w2 ⟨rfl, hb⟩))
        go_ret
        exact ⟨rfl, hb⟩
end Go.Proofs.YtjafcgemgghbiaaDoor.G
