/- Chapter 16: the nearest node that spans has Span, and none nearer has it; its Parent has columns. The law is walked by hand. Written by tmpl.py out of K3.tl. -/
import Derived.Test.YtdphijhebppeeaaDoorX1
import Derived.Test.YtdphijhebppeeaaDoorG3
namespace Go.Proofs.YtdphijhebppeeaaDoor.G
open Go Go.RowKit Go.Shelf Go.Maps Go.Proofs.YtdphijhebppeeaaDoorW.PrintWords Go.Proofs.YtdphijhebppeeaaDoorW.PrintLast Go.Proofs.YtdphijhebppeeaaDoorW.PrintMore
attribute [local irreducible] cN
theorem upS_hit {t : List Node} {p : Nat → Bool} {n : Nat} (h0 : 0 < n) (h : p n = true) : upFirst t p (n + 1) n = some n := by
  rw [upFirst, if_neg (by omega), if_pos h]
theorem upS_miss {t : List Node} (hT : OKT t) {p : Nat → Bool} {n q : Nat} (h0 : 0 < n) (hn : n < t.length) (h : p n = false) (hq : (t.getD n zN).f0 = q) (hqn : q < n) : upFirst t p (n + 1) n = upFirst t p (q + 1) q := by
  rw [upFirst, if_neg (by omega), if_neg (by rw [h]; decide), hq, Int.toNat_natCast]
  exact upFirst_enough hT p _ _ _ (by omega) (by omega) (by omega)
theorem span_par {t : List Node} (ho : openT t = none) {n : Nat} (hn : n < t.length) (h : (t.getD n zN).f5.f11 = true) : (parentOf t n).f1 = 4 := by
  have hg := ((open_none ho).2.2 n hn).1
  unfold goodB styleB at hg
  simp only [Bool.and_eq_true, Bool.or_eq_true] at hg
  have h2 := hg.2.2.2.2.2
  rw [h] at h2
  rcases h2 with h2 | h2
  · unfold spanB at h2
    simp only [Bool.and_eq_true, decide_eq_true_eq] at h2
    exact h2.2.1
  · cases h2
def spanR (t : List Node) (n : Nat) : Int × Bool := match upFirst t (spanP t) (n + 1) n with | some m => ((m : Int), true) | none => ((0 : Int), false)
theorem spanner_f {t : List Node} {n : Nat} (hE : segE t n = 0) : segment_Spanner.f t n = some ((spanR t n).1, (spanR t n).2, 0) := by
  unfold segment_Spanner.f spanR
  rw [if_neg (by rw [hE]; simp), Int.toNat_natCast]
  cases upFirst t (spanP t) (n + 1) n with
  | none => rfl
  | some m => rfl
theorem few_len (l : List Node) : (fewL l).length ≤ 80 := by
  rw [fewL, List.length_map]
  exact Nat.le_trans (by rw [List.length_take]; exact Nat.min_le_left _ _) (Nat.le_refl _)
set_option maxRecDepth 100000 in
set_option maxHeartbeats 4000000 in
theorem spanners_any (A0 : Option Addr) (c0 : Nat) (l0 : List (S31)) (a1 : Int) (w : World) (hr0 : Kd.C k31 w A0 l0.length l0) (hc0 : l0.length ≤ c0) (hG : GOK w) :
    Calls Tryd.prog 4 #[.slice A0 l0.length c0, .int .i64 a1] w fun e w' => e = .returned (.bool true) ∧ Below w.heap.size w w' := by
  have HG := Aside0.mk hG
  have H0 := Aside0.mk hr0
  have HF0 := Aside0.mk (show gutterlaw05_Few.f l0 = some (fewL l0) from rfl)
  obtain ⟨t, ht⟩ : ∃ t, fewL l0 = t := ⟨_, rfl⟩
  rw [ht] at HF0
  clear ht hG hr0
  have HB := Aside0.mk (Below.refl w.heap.size w)
  by_cases hE : segE t a1 = 0
  · obtain ⟨hop, hn0, hn1⟩ := segE_zero hE
    obtain ⟨a, rfl⟩ : ∃ a : Nat, a1 = a := ⟨a1.toNat, by omega⟩
    have hl := (open_none hop).2.1
    have hf := spanner_f hE
    obtain ⟨r1, r2, hr⟩ : ∃ r1 r2, spanR t a = (r1, r2) := ⟨_, _, rfl⟩
    rw [hr] at hf
    have HF := Aside0.mk hf
    have HO := Aside0.mk hop
    have HR := Aside0.mk hr
    have HA := Aside0.mk (show a < t.length by omega)
    clear hf hop hr hE
    go_enter Tryd.func4, Tryd.ntmps4
    go_upto_region 2 with (first | (go_at_call 9; refine (gutterlaw16_shown.calls 10 true _ (shown_f 10 (Nat.le_refl _)) HG.out).mono ?_; rintro e w1 ⟨rfl, hb⟩; replace HG := Aside0.mk (GOK.below HG.out hb); replace H0 := Aside0.mk (Kd.C_below H0.out hb); replace HB := Aside0.mk (below_then HB.out HB.out.size hb); clear hb))
    go_upto_region 3 with (first | (go_at_call 10; refine (gutterlaw05_Few.calls A0 c0 l0 t _ H0.out hc0 HF0.out).mono ?_; rintro e w2 ⟨v, rfl, ho, hb⟩; replace HG := Aside0.mk (GOK.below HG.out hb); replace HB := Aside0.mk (below_then HB.out HB.out.size hb); obtain ⟨At, ct, rfl⟩ := Kd.R_slice ho; have qt := (Kd.R_reads' ho).2.1; have Ht := Aside0.mk (Kd.R_reads' ho).2.2; clear ho hb))
    go_upto_region 4 with (first | (go_at_call 12; refine (segment_Spanner.calls At ct t (a : Int) r1 r2 0 _ Ht.out qt HF.out HG.out).mono ?_; rintro e w3 ⟨rfl, hb⟩; replace Ht := Aside0.mk (Kd.C_below Ht.out hb); replace HB := Aside0.mk (below_then HB.out HB.out.size hb); clear hb))
    go_wp2
    go_loopw [9] (fun i wr => ∃ m : Nat, i = .int .i64 m ∧ Aside0 (m < t.length) ∧ Aside0 (spanR t m = (r1, r2)) ∧ Aside0 (Below w3.heap.size w3 wr)) (fun i _ => (intZ i).toNat)
    case atStart => exact ⟨a, rfl, HA, HR, ⟨Below.refl _ _⟩⟩
    case round =>
      obtain ⟨m, rfl, HM, HRm, HBr⟩ := hrel
      have hml := HM.out
      have hm1 : (m : Int) < t.length := by omega
      by_cases h0 : m = 0
      · subst h0
        have hr := HRm.out
        rw [spanR, show upFirst t (spanP t) (0 + 1) 0 = none from rfl] at hr
        simp only [Prod.mk.injEq] at hr
        obtain ⟨rfl, rfl⟩ := hr
        go_wp2
        go_ret
        exact ⟨rfl, below_then HB.out HB.out.size HBr.out⟩
      · have hm0 : (m : Int) > 0 := by omega
        have hp := open_OKT HO.out m (by omega) hml
        obtain ⟨q, hq⟩ : ∃ q : Nat, (t.getD m zN).f0 = q := ⟨(t.getD m zN).f0.toNat, by omega⟩
        rw [hq] at hp
        obtain ⟨ad, M, rfl, hM, hrg⟩ := node_at (Kd.C_below Ht.out HBr.out) m hml
        obtain ⟨ad', M', eA, hM', hrg'⟩ := node_at (Kd.C_below Ht.out HBr.out) q (by omega)
        cases eA
        have g0 := ranges_first hrg hM.c0
        have g16 := ranges_at hrg 15 hM.c16
        have g1 := ranges_at hrg' 0 hM'.c1
        rw [hq] at g0
        have hq1 : (q : Int) < t.length := by omega
        have hq0 : (0 : Int) ≤ q := by omega
        by_cases hs : (t.getD m zN).f5.f11 = true
        · have hr := HRm.out
          rw [spanR, upS_hit (by omega) (by unfold spanP; exact hs)] at hr
          simp only [Prod.mk.injEq] at hr
          obtain ⟨rfl, rfl⟩ := hr
          have h4 := span_par HO.out hml hs
          rw [par_in (by omega) hq (by omega)] at h4
          rw [hs] at g16
          rw [h4] at g1
          clear hM hrg hM' hrg' hs h4 hq hp HRm HM
          go_wp2
          go_ret
          exact ⟨by simp, below_then HB.out HB.out.size HBr.out⟩
        · have hs' : (t.getD m zN).f5.f11 = false := by simpa using hs
          have hr := HRm.out
          rw [spanR, upS_miss (open_OKT HO.out) (by omega) hml (by unfold spanP; exact hs') hq (by omega)] at hr
          rw [hs'] at g16
          have HRq := Aside0.mk (show spanR t q = (r1, r2) from hr)
          clear hM hrg hM' hrg' hs hs' hr hq HRm g1
          go_wp2
          exact ⟨⟨q, rfl, ⟨by omega⟩, HRq, HBr⟩, by simp [intZ]; omega⟩
  · have HF := Aside0.mk (show segment_Spanner.f t a1 = some (0, false, segE t a1) by unfold segment_Spanner.f; rw [if_pos hE])
    have hne : ¬ (segE t a1 = 0) := hE
    generalize segE t a1 = e0 at *
    go_enter Tryd.func4, Tryd.ntmps4
    go_upto_region 2 with (first | (go_at_call 9; refine (gutterlaw16_shown.calls 10 true _ (shown_f 10 (Nat.le_refl _)) HG.out).mono ?_; rintro e w1 ⟨rfl, hb⟩; replace HG := Aside0.mk (GOK.below HG.out hb); replace H0 := Aside0.mk (Kd.C_below H0.out hb); replace HB := Aside0.mk (below_then HB.out HB.out.size hb); clear hb))
    go_upto_region 3 with (first | (go_at_call 10; refine (gutterlaw05_Few.calls A0 c0 l0 t _ H0.out hc0 HF0.out).mono ?_; rintro e w2 ⟨v, rfl, ho, hb⟩; replace HG := Aside0.mk (GOK.below HG.out hb); replace HB := Aside0.mk (below_then HB.out HB.out.size hb); obtain ⟨At, ct, rfl⟩ := Kd.R_slice ho; have qt := (Kd.R_reads' ho).2.1; have Ht := Aside0.mk (Kd.R_reads' ho).2.2; clear ho hb))
    go_upto_region 4 with (first | (go_at_call 12; refine (segment_Spanner.calls At ct t a1 0 false e0 _ Ht.out qt HF.out HG.out).mono ?_; rintro e w3 ⟨rfl, hb⟩; replace HB := Aside0.mk (below_then HB.out HB.out.size hb); clear hb))
    go_wp2
    go_ret
    exact ⟨rfl, HB.out⟩
def gutterlaw16_SegmentSpanners.f (_ : Nat) (_ : List (S31)) (_ : Int) : Option Bool := some true
theorem gutterlaw16_SegmentSpanners.calls (k : Nat) (A0 : Option Addr) (c0 : Nat) (l0 : List (S31)) (a1 : Int) (r : Bool) (w : World) (hr0 : Kd.C k31 w A0 l0.length l0) (hc0 : l0.length ≤ c0) (h : gutterlaw16_SegmentSpanners.f k l0 a1 = some r) (hG : GOK w) :
    Calls Tryd.prog 4 #[.slice A0 l0.length c0, .int .i64 a1] w fun e w' => e = .returned (.bool r) ∧ Below w.heap.size w w' := by
  obtain rfl := Option.some.inj h
  exact spanners_any A0 c0 l0 a1 w hr0 hc0 hG
theorem SegmentSpanners (l0 : List Node) (a1 : Int) (_ : l0.all wfN = true) (_ : (Lit.int .i64 a1).wf = true) : ∃ k, gutterlaw16_SegmentSpanners.f k l0 a1 = some true := ⟨0, rfl⟩
end Go.Proofs.YtdphijhebppeeaaDoor.G
