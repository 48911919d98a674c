/- Chapter 16: the climber, how one begins; what is wrong with a tree, or a number. Written by tmpl.py out of F29.tl. -/
import Derived.Test.YtdphijhebppeeaaDoorF22
namespace Go.Proofs.YtdphijhebppeeaaDoor.G
open Go.RowKit Go.Shelf Go.Maps Go.WideElems Go.MapKept Go.ChangeMaps Go.ChangeShapes Go.Proofs.YtdphijhebppeeaaDoorW.PrintWords Go.Proofs.YtdphijhebppeeaaDoorW.PrintLast Go.Proofs.YtdphijhebppeeaaDoorW.PrintMore
attribute [local irreducible] cN
def anyR : Value → Option (DataW Unit × List MemPlace) := fun _ => some (.nil, [])
/-- The climber's block g, its map's block m (of k nodes at most). -/
structure Climb (w : World) (base g m : Nat) (t : List Node) (A : Option Addr) (k : Nat) : Prop where
  cells : w.heap[g]? = some (.cells #[.slice A t.length t.length, .map (some m)] 64 (0, 0))
  map : ∃ D, w.ownsMap Tryd.prog 3 anyR m k D
  gb : base ≤ g
  mb : base ≤ m
theorem Climb.below {w w' : World} {base g m k : Nat} {t : List Node} {A : Option Addr} (h : Climb w base g m t A k) (hb : Below w.heap.size w w') : Climb w' base g m t A k :=
  ⟨blk_below h.cells hb, by obtain ⟨D, hD⟩ := h.map; exact ⟨D, hD.kept (grown_below hb) (by simp)⟩, h.gb, h.mb⟩
theorem has_any (p : Addr) (A : Option Addr) (l c : Nat) (n : Int) (w : World) (hp : w.cell? p = some (.slice A l c)) :
    Calls Tryd.prog 46 #[.pointer (some p), .int .i64 n] w fun e w' => e = .returned (.bool (decide (0 ≤ n) && decide (n < l))) ∧ w = w' := by
  by_cases h1 : n ≥ 0
  · by_cases h2 : n < (l : Int)
    · rw [decide_eq_true h1, decide_eq_true h2]
      go_enter Tryd.func46, Tryd.ntmps46
      go_wp2
      go_ret
      exact ⟨rfl, rfl⟩
    · rw [decide_eq_true h1, decide_eq_false h2]
      go_enter Tryd.func46, Tryd.ntmps46
      go_wp2
      go_ret
      exact ⟨rfl, rfl⟩
  · rw [decide_eq_false (show ¬ 0 ≤ n from h1)]
    go_enter Tryd.func46, Tryd.ntmps46
    go_wp2
    go_ret
    exact ⟨rfl, rfl⟩
def SOpenPost (t : List Node) (A : Option Addr) (w : World) (e : Ending) (w' : World) : Prop :=
  match openT t with
  | none => ∃ g m, e = .returned (.tuple #[.pointer (some ⟨g, 0, none⟩), .nilIface]) ∧ Climb w' w.heap.size g m t A 0 ∧ Below w.heap.size w w'
  | some (_, i) => e = .returned (.tuple #[.pointer none, .iface 59 (.agg #[.int .i64 (50 + (i : Int))])]) ∧ Below w.heap.size w w'
set_option maxRecDepth 100000 in
theorem sopen_any (t : List Node) (A : Option Addr) (c : Nat) (w : World) (hc : kN.C w A t.length t) (hc0 : t.length ≤ c) (hG : GOK w) :
    Calls Tryd.prog 41 #[.slice A t.length c] w (SOpenPost t A w) := by
  cases hop : openT t with
  | some p =>
    obtain ⟨k, i⟩ := p
    have HC := Aside0.mk (tree_Check.calls A c t k (50 + (i : Int)) w hc hc0 (by unfold tree_Check.f; rw [hop]) hG)
    have hi : ¬ (50 + (i : Int)) = 0 := by omega
    unfold SOpenPost
    rw [hop]
    dsimp only
    generalize 50 + (i : Int) = e0 at *
    clear hc hG hop
    go_enter Tryd.func41, Tryd.ntmps41
    go_wp2_with (first | (go_at_call 55; refine HC.out.mono ?_; rintro e w2 ⟨rfl, hb⟩))
    go_ret2
    exact ⟨rfl, hb⟩
  | none =>
    have HC := Aside0.mk (tree_Check.calls A c t 0 0 w hc hc0 (by unfold tree_Check.f; rw [hop]) hG)
    obtain ⟨h1, h2, _⟩ := open_none hop
    obtain ⟨ad, M, rfl, _, _⟩ := node_at hc 0 (by omega)
    unfold SOpenPost
    rw [hop]
    dsimp only
    have hmm := @run_makeMap Tryd.prog
    have q1 : (t.length : Int) ≤ c := by omega
    clear hc hG hop
    go_enter Tryd.func41, Tryd.ntmps41
    go_wp2_with (first | (go_at_call 55; refine HC.out.mono ?_; rintro e w2 ⟨rfl, hb⟩; have HB := Aside0.mk hb; clear hb))
    go_ret2
    have hs := HB.out.size
    refine ⟨_, _, rfl, ⟨?_, ⟨_, (World.ownsMap_made w2 Tryd.prog 3 anyR).alloc _⟩, ?_, hs⟩, below_alloc (below_alloc HB.out _) _⟩
    · have := blk_new (w2.alloc (.map #[] 0)) (.cells #[.slice (some ad) t.length t.length, .map (some w2.heap.size)] 64)
      simpa using this
    · first | omega | (simp; omega)
/-- What is wrong when one asks for node n. -/
def segE (t : List Node) (n : Int) : Int := match openT t with | some (_, i) => 50 + (i : Int) | none => if n < 0 ∨ (t.length : Int) ≤ n then 150 else 0
theorem segE_zero {t : List Node} {n : Int} (h : segE t n = 0) : openT t = none ∧ 0 ≤ n ∧ n < t.length := by
  unfold segE at h
  cases hop : openT t with
  | some q => rw [hop] at h; dsimp only at h; omega
  | none =>
    rw [hop] at h
    dsimp only at h
    split at h
    · omega
    · exact ⟨rfl, by omega, by omega⟩
def SAtPost (t : List Node) (A : Option Addr) (n : Int) (w : World) (e : Ending) (w' : World) : Prop :=
  if segE t n = 0 then ∃ g m, e = .returned (.tuple #[.pointer (some ⟨g, 0, none⟩), .nilIface]) ∧ Climb w' w.heap.size g m t A 0 ∧ Below w.heap.size w w'
  else ∃ p, e = .returned (.tuple #[p, .iface 59 (.agg #[.int .i64 (segE t n)])]) ∧ Below w.heap.size w w'
set_option maxRecDepth 100000 in
theorem sat_any (t : List Node) (A : Option Addr) (c : Nat) (n : Int) (w : World) (hc : kN.C w A t.length t) (hc0 : t.length ≤ c) (hG : GOK w) :
    Calls Tryd.prog 28 #[.slice A t.length c, .int .i64 n] w (SAtPost t A n w) := by
  have HO := Aside0.mk (sopen_any t A c w hc hc0 hG)
  clear hc hG
  cases hop : openT t with
  | some p =>
    obtain ⟨k, i⟩ := p
    have hE : segE t n = 50 + (i : Int) := by unfold segE; rw [hop]
    have hne : ¬ (50 + (i : Int)) = 0 := by omega
    unfold SAtPost
    rw [hE]
    simp only [hne, if_false]
    generalize hee : 50 + (i : Int) = e0
    replace hee := Aside0.mk hee
    clear hne
    go_enter Tryd.func28, Tryd.ntmps28
    go_wp2_with (first | (go_at_call 41; refine HO.out.mono ?_; rintro e w2 hq; simp only [SOpenPost, hop] at hq; rw [hee.out] at hq; obtain ⟨rfl, hb⟩ := hq))
    go_ret2
    exact ⟨_, rfl, hb⟩
  | none =>
    have hE : segE t n = if n < 0 ∨ (t.length : Int) ≤ n then 150 else 0 := by unfold segE; rw [hop]
    unfold SAtPost
    rw [hE]
    by_cases h : n < 0 ∨ (t.length : Int) ≤ n
    · rw [if_pos h]
      simp only [show ¬ ((150 : Int) = 0) by decide, if_false]
      have hb : (decide (0 ≤ n) && decide (n < (t.length : Int))) = false := by
        rw [Bool.and_eq_false_iff, decide_eq_false_iff_not, decide_eq_false_iff_not]; omega
      replace hb := Aside0.mk hb
      clear h
      go_enter Tryd.func28, Tryd.ntmps28
      go_wp2_with (first | (go_at_call 41; refine HO.out.mono ?_; rintro e w2 hq; simp only [SOpenPost, hop] at hq; obtain ⟨g, m, rfl, hC, hB⟩ := hq; have h0 := cell_at hC.cells 0 rfl; clear hC) | (go_at_call 46; refine (has_any _ A t.length t.length n _ h0).mono ?_; rintro e w3 ⟨rfl, rfl⟩; rw [hb.out]))
      go_ret2
      exact ⟨_, rfl, hB⟩
    · rw [if_neg h]
      simp only [if_true]
      have hb : (decide (0 ≤ n) && decide (n < (t.length : Int))) = true := by
        rw [Bool.and_eq_true, decide_eq_true_eq, decide_eq_true_eq]; omega
      replace hb := Aside0.mk hb
      clear h
      go_enter Tryd.func28, Tryd.ntmps28
      go_wp2_with (first | (go_at_call 41; refine HO.out.mono ?_; rintro e w2 hq; simp only [SOpenPost, hop] at hq; obtain ⟨g, m, rfl, hC, hB⟩ := hq; have h0 := cell_at hC.cells 0 rfl; have HCl := Aside0.mk hC; clear hC) | (go_at_call 46; refine (has_any _ A t.length t.length n _ h0).mono ?_; rintro e w3 ⟨rfl, rfl⟩; rw [hb.out]))
      go_ret2
      exact ⟨g, m, rfl, HCl.out, hB⟩
end Go.Proofs.YtdphijhebppeeaaDoor.G
