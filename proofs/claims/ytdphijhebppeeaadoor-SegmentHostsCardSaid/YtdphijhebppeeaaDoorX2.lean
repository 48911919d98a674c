/- Chapter 16: a node's host has it below itself, and none between has columns. Written by tmpl.py out of X2.tl. -/
import Derived.Test.YtdphijhebppeeaaDoorX1
import Derived.Test.YtdphijhebppeeaaDoorG3
import Derived.Test.YtdphijhebppeeaaDoorG4
namespace Go.Proofs.YtdphijhebppeeaaDoor.G
open Go Go.RowKit Go.Proofs.YtdphijhebppeeaaDoorW.PrintWords
theorem up_zero (t : List Node) (p : Nat → Bool) : upFirst t p 1 0 = none := rfl
theorem up_hit {t : List Node} {p : Nat → Bool} {n : Nat} (h0 : 0 < n) (h : p n = true) : upFirst t p (n + 1) n = some n := by
  rw [upFirst, if_neg (by omega), if_pos h]
theorem up_miss {t : List Node} (hT : OKT t) {p : Nat → Bool} {n q : Nat} (h0 : 0 < n) (hn : n < t.length) (h : p n = false) (hq : (t.getD n zN).f0 = q) (hqn : q < n) : upFirst t p (n + 1) n = upFirst t p (q + 1) q := by
  rw [upFirst, if_neg (by omega), if_neg (by rw [h]; decide), hq, Int.toNat_natCast]
  exact upFirst_enough hT p _ _ _ (by omega) (by omega) (by omega)
theorem hosts_l {t : List Node} (hT : OKT t) (r1 : Int) (r2 : Bool) : ∀ (k n : Nat), n < t.length → n < k → (match upFirst t (hostP t) (n + 1) n with | some m => ((t.getD m zN).f0, true) | none => ((0 : Int), false)) = (r1, r2) → gutterlaw16_SegmentHosts.l0 k t true r1 r2 n = some true
  | 0, n, _, h, _ => by omega
  | k + 1, n, hn, hk, hr => by
    rw [gutterlaw16_SegmentHosts.l0]
    by_cases h0 : n = 0
    · subst h0
      rw [up_zero] at hr
      simp only [Prod.mk.injEq] at hr
      obtain ⟨rfl, rfl⟩ := hr
      rw [if_neg (by decide), if_pos rfl, if_neg (by decide)]
      rfl
    · have hp := hT n (by omega) hn
      obtain ⟨q, hq⟩ : ∃ q : Nat, (t.getD n zN).f0 = q := ⟨(t.getD n zN).f0.toNat, by omega⟩
      rw [hq] at hp
      have hx : (rd_T31 t n).f0 = q := by unfold rd_T31; rw [Int.toNat_natCast]; exact hq
      have hy : rd_T31 t q = t.getD q zN := by unfold rd_T31; rw [Int.toNat_natCast]
      rw [if_pos (by omega), if_pos (by omega), if_pos (by omega), hx, if_pos (by omega), if_pos (by omega), hy]
      have hh : hostP t n = ((t.getD q zN).f1 == 4) := by unfold hostP; rw [par_in (by omega) hq (by omega)]
      by_cases h4 : (t.getD q zN).f1 = 4
      · rw [up_hit (by omega) (by rw [hh, h4]; rfl)] at hr
        simp only [Prod.mk.injEq] at hr
        obtain ⟨rfl, rfl⟩ := hr
        rw [if_pos h4, if_pos rfl, if_pos rfl, hq]
        simp
      · rw [if_neg h4]
        rw [up_miss hT (by omega) hn (by rw [hh]; simpa using h4) hq (by omega)] at hr
        exact hosts_l hT r1 r2 k q (by omega) (by omega) hr
theorem SegmentHosts (l0 : List Node) (a1 : Int) (_ : l0.all wfN = true) (_ : (Lit.int .i64 a1).wf = true) : ∃ k, gutterlaw16_SegmentHosts.f k l0 a1 = some true := by
  refine ⟨1000, ?_⟩
  unfold gutterlaw16_SegmentHosts.f gutterlaw05_Few.f
  rw [shown_f 1000 (by decide), Option.bind_some, Option.bind_some]
  generalize fewL l0 = t
  by_cases hE : segE t a1 = 0
  · obtain ⟨hop, hn0, hn1⟩ := segE_zero hE
    obtain ⟨a, rfl⟩ : ∃ a : Nat, a1 = a := ⟨a1.toNat, by omega⟩
    have hl := (open_none hop).2.1
    obtain ⟨r1, r2, hr⟩ : ∃ r1 r2, (match upFirst t (hostP t) (a + 1) a with | some m => ((t.getD m zN).f0, true) | none => ((0 : Int), false)) = (r1, r2) := ⟨_, _, rfl⟩
    have hf : segment_Host.f t (a : Int) = some (r1, r2, 0) := by
      unfold segment_Host.f
      rw [if_neg (by rw [hE]; simp), Int.toNat_natCast]
      revert hr
      cases upFirst t (hostP t) (a + 1) a with
      | none => intro hr; simp only [Prod.mk.injEq] at hr; rw [← hr.1, ← hr.2]
      | some m => intro hr; simp only [Prod.mk.injEq] at hr; rw [← hr.1, ← hr.2]
    rw [hf, Option.bind_some, if_pos rfl]
    exact hosts_l (open_OKT hop) r1 r2 1000 a (by omega) (by omega) hr
  · have hf : segment_Host.f t a1 = some (0, false, segE t a1) := by unfold segment_Host.f; rw [if_pos hE]
    rw [hf, Option.bind_some, if_neg hE, if_pos rfl, if_neg (show ¬ (false = true) by decide)]
    rfl
end Go.Proofs.YtdphijhebppeeaaDoor.G
