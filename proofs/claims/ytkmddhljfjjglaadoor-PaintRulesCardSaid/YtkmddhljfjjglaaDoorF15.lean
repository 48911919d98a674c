/- Chapter 18: the rules between columns; when two are the same. Written by mkF15.py. -/
import Derived.Test.YtkmddhljfjjglaaDoorF14
namespace Go.Proofs.YtkmddhljfjjglaaDoor.G
open Go.RowKit Go.Shelf Go.Proofs.YtkmddhljfjjglaaDoorW.PrintWords Go.Proofs.YtkmddhljfjjglaaDoorW.PrintLast Go.Proofs.YtkmddhljfjjglaaDoorW.PrintMore

def l30 (r : S30) : List Value := [.int .i64 r.f0, .int .i64 r.f1, .int .i64 r.f2, .int .i64 r.f3]
def row30L (l : List S30) : List Value := l.flatMap l30
theorem row30_snoc (l : List S30) (x : S30) : row30L (l ++ [x]) = row30L l ++ l30 x := by simp [row30L]
theorem reps30 (w : World) (base : Nat) (ok : Nat → Prop) (l : List S30) : Reps (k30.M w base ok) 4 l (row30L l) := by
  induction l using snoc_ind with
  | h0 => exact Reps.none _ _
  | h1 l x ih => rw [row30_snoc]; exact ih.snoc (k30_mkM _ _ _ x) rfl
theorem R30_of_own {W : World} {base : Nat} {v : Value} {l : List S30} (h : W.ownsRow base 30 4 v l.length (row30L l)) : Kd.R k30 30 W base (fun _ => True) v l :=
  ⟨fun _ _ => trivial, row30L l, h, reps30 _ _ _ _⟩
/-- One rule; all. -/
def ruleS (w gap rule y h : Int) (i : Nat) : S30 := ⟨(i : Int) * (w + gap) + w + (gap - rule) / 2, y, rule, h⟩
def rulesL (n : Nat) (w gap rule y h : Int) : List S30 := (List.range n).map (ruleS w gap rule y h)
theorem rulesL_snoc (n : Nat) (w gap rule y h : Int) : rulesL (n + 1) w gap rule y h = rulesL n w gap rule y h ++ [ruleS w gap rule y h n] := by simp [rulesL, List.range_succ]
theorem rulesL_len (n : Nat) (w gap rule y h : Int) : (rulesL n w gap rule y h).length = n := by simp [rulesL]
/-- Are a rule's numbers right? -/
def ruleB (cols w gap rule y h : Int) : Bool := !outB 2000 cols && ((!outB 1048576 w && (!outB 1048576 gap && !outB 1048576 rule)) && (!outB 1099511627776 y && !outB 1099511627776 h))
theorem inZ {most a : Int} (h : outB most a = false) : 0 ≤ a ∧ a ≤ most := by
  simp only [outB, Bool.or_eq_false_iff, decide_eq_false_iff_not] at h
  omega
theorem infoR : (Tryd.prog.info? 30).map (fun i => (i.zero, i.size, i.bytes)) = some (some (.agg #[(.int .i64 0), (.int .i64 0), (.int .i64 0), (.int .i64 0)]), 4, 32) := by kernel_rfl
attribute [local go_sem] max2_int
set_option maxRecDepth 1000000 in
set_option maxHeartbeats 4000000 in
theorem rules_yes (n : Nat) (cols wd gap rule y h : Int) (w : World) (hn : n = cols.toNat - 1) (hc : 0 ≤ cols ∧ cols ≤ 2000) (hw : 0 ≤ wd ∧ wd ≤ 1048576) (hg : 0 ≤ gap ∧ gap ≤ 1048576) (hr : 0 < rule ∧ rule ≤ 1048576) (h1 : outB 2000 cols = false) (h2 : outB 1048576 wd = false) (h3 : outB 1048576 gap = false) (h4 : outB 1048576 rule = false) (h5 : outB 1099511627776 y = false) (h6 : outB 1099511627776 h = false) :
    Calls Tryd.prog 10 #[.int .i64 cols, .int .i64 wd, .int .i64 gap, .int .i64 rule, .int .i64 y, .int .i64 h] w fun e w' => ∃ v0_ : Value, e = .returned (.tuple #[v0_, .int .i64 0]) ∧ Kd.R k30 30 w' w.heap.size (fun _ => True) v0_ (rulesL n wd gap rule y h) ∧ Below w.heap.size w w' := by
  obtain ⟨i0, hi, hz0, hz1, hz2⟩ := info_parts infoR
  have HI := Aside0.mk hi
  have H1 := Aside0.mk (fun W g e => within1 2000 cols 1 g W e)
  have H2 := Aside0.mk (fun W g e => within3 1048576 wd gap rule 3 g W e)
  have H3 := Aside0.mk (fun W g e => within2 1099511627776 y h 2 g W e)
  rw [h1] at H1
  rw [h2, h3, h4] at H2
  rw [h5, h6] at H3
  clear hi h1 h2 h3 h4 h5 h6
  have hrz : (rule == 0) = false := by rw [beq_eq_false_iff_ne]; omega
  go_enter Tryd.func10, Tryd.ntmps10
  go_wp2_with (first | (go_at_call 28; (with_reducible refine (H1.out _ _ (by simp)).mono ?_); rintro e w1 ⟨rfl, hb⟩; have HB1 := Aside0.mk hb; clear hb) | (go_at_call 28; (with_reducible refine (H2.out _ _ (by simp)).mono ?_); rintro e w2 ⟨rfl, hb⟩; have HB2 := Aside0.mk (below_then HB1.out HB1.out.size hb); clear hb) | (go_at_call 28; (with_reducible refine (H3.out _ _ (by simp)).mono ?_); rintro e w3 ⟨rfl, hb⟩; have HB3 := Aside0.mk (below_then HB2.out HB2.out.size hb); clear hb))
  have hm : max cols 1 - 1 = (n : Int) := by omega
  have hn2 : n ≤ 2000 := by omega
  rw [hm]
  clear hn hm
  clear H1 H2 H3
  go_loopw [14, 43] (fun v i wr => ∃ k : Nat, k ≤ n ∧ i = .int .i64 k ∧ Aside0 (wr.ownsRow w.heap.size 30 4 v k (row30L (rulesL k wd gap rule y h))) ∧ Aside0 (Below w.heap.size w wr)) (fun _ i _ => n - (intOf i).toNat)
  case atStart => exact ⟨0, Nat.zero_le _, rfl, ⟨World.ownsRow_nil _ _ _ _⟩, HB3⟩
  case round =>
    obtain ⟨k, hk, rfl, HO, HB⟩ := hrel
    by_cases hlt : k < n
    · have hsz := HB.out.size
      have hkk : (k : Int) ≤ 2000 := by omega
      have hp : 0 ≤ (k : Int) * (wd + gap) := Int.mul_nonneg (by omega) (by omega)
      have hq : (k : Int) * (wd + gap) ≤ 2000 * 2097152 := Int.mul_le_mul (by omega) (by omega) (by omega) (by omega)
      have HX := Aside0.mk (show wrap64 (wrap64 (wrap64 ((k : Int) * (wd + gap)) + wd) + (gap - rule) / 2) = (k : Int) * (wd + gap) + wd + (gap - rule) / 2 by
        generalize (k : Int) * (wd + gap) = p at *
        unfold wrap64
        omega)
      have HS := Aside0.mk (rulesL_snoc k wd gap rule y h)
      have HL : (rulesL k wd gap rule y h).length = k := rulesL_len _ _ _ _ _ _
      clear hp hq
      go_wp2_with (at_builtin; refine wpList_append_own _ rfl _ _ 23 rfl w.heap.size 30 i0 (.agg #[(.int .i64 0), (.int .i64 0), (.int .i64 0), (.int .i64 0)]) 4 32 Tryd.underlying23 HI.out hz0 hz1 hz2 rfl (by decide) _ _ _ rfl (HO.out.alloc _) ⟨wr.heap.size, 0, none⟩ 1 1 [.int .i64 (wrap64 (wrap64 (wrap64 ((k : Int) * (wd + gap)) + wd) + (gap - rule) / 2)), .int .i64 y, .int .i64 rule, .int .i64 h] rfl rfl (fun j u h => cells_at _ _ 30 rfl _ j u h) (by simp [Value.oneCell']) (by unfold maxLen; omega) (by omega) (by simp; omega) ?_; intro v' w4 hown' hgrow _; have HO1 := Aside0.mk hown'; have HG1 := Aside0.mk hgrow; clear hown' hgrow)
      go_roundw
      case rel => exact ⟨k + 1, by omega, by go_num, ⟨by have q := HO1.out; rw [HX.out] at q; rw [HS.out, row30_snoc]; exact q⟩, ⟨(below_alloc HB.out _).grown HG1.out (by simp; omega) (own_ne_any HO.out)⟩⟩
      case measure => simp [intOf]; omega
    · have e : k = n := by omega
      subst e
      have HL := rulesL_len k wd gap rule y h
      go_wp2
      go_ret2
      exact ⟨_, rfl, R30_of_own (by rw [HL]; exact HO.out), HB.out⟩
theorem nil_R (w : World) (base : Nat) : Kd.R k30 30 w base (fun _ => True) (.slice none 0 0) [] := Kd.R_nil _ _ _ _ _
set_option maxRecDepth 1000000 in
set_option maxHeartbeats 4000000 in
theorem rules_zero (cols wd gap rule y h : Int) (w : World) (hr : rule = 0) (h1 : outB 2000 cols = false) (h2 : outB 1048576 wd = false) (h3 : outB 1048576 gap = false) (h4 : outB 1048576 rule = false) (h5 : outB 1099511627776 y = false) (h6 : outB 1099511627776 h = false) :
    Calls Tryd.prog 10 #[.int .i64 cols, .int .i64 wd, .int .i64 gap, .int .i64 rule, .int .i64 y, .int .i64 h] w fun e w' => ∃ v0_ : Value, e = .returned (.tuple #[v0_, .int .i64 0]) ∧ Kd.R k30 30 w' w.heap.size (fun _ => True) v0_ [] ∧ Below w.heap.size w w' := by
  have H1 := Aside0.mk (fun W g e => within1 2000 cols 1 g W e)
  have H2 := Aside0.mk (fun W g e => within3 1048576 wd gap rule 3 g W e)
  have H3 := Aside0.mk (fun W g e => within2 1099511627776 y h 2 g W e)
  rw [h1] at H1
  rw [h2, h3, h4] at H2
  rw [h5, h6] at H3
  clear h1 h2 h3 h4 h5 h6
  subst hr
  go_enter Tryd.func10, Tryd.ntmps10
  go_wp2_with (first | (go_at_call 28; (with_reducible refine (H1.out _ _ (by simp)).mono ?_); rintro e w1 ⟨rfl, hb⟩; have HB1 := Aside0.mk hb; clear hb) | (go_at_call 28; (with_reducible refine (H2.out _ _ (by simp)).mono ?_); rintro e w2 ⟨rfl, hb⟩; have HB2 := Aside0.mk (below_then HB1.out HB1.out.size hb); clear hb) | (go_at_call 28; (with_reducible refine (H3.out _ _ (by simp)).mono ?_); rintro e w3 ⟨rfl, hb⟩; have HB3 := Aside0.mk (below_then HB2.out HB2.out.size hb); clear hb))
  go_ret2
  exact ⟨_, rfl, nil_R _ _, HB3.out⟩
set_option maxRecDepth 1000000 in
set_option maxHeartbeats 4000000 in
theorem rules_no (cols wd gap rule y h : Int) (w : World) (hB : ruleB cols wd gap rule y h = false) (a : Addr) (hs : w.cell? ⟨0, 0, none⟩ = some (.iface 136 (.pointer (some a)))) :
    Calls Tryd.prog 10 #[.int .i64 cols, .int .i64 wd, .int .i64 gap, .int .i64 rule, .int .i64 y, .int .i64 h] w fun e w' => ∃ v0_ : Value, e = .returned (.tuple #[v0_, .int .i64 170]) ∧ Kd.R k30 30 w' w.heap.size (fun _ => True) v0_ [] ∧ Below w.heap.size w w' := by
  have H1 := Aside0.mk (fun W g e => within1 2000 cols 1 g W e)
  have H2 := Aside0.mk (fun W g e => within3 1048576 wd gap rule 3 g W e)
  have H3 := Aside0.mk (fun W g e => within2 1099511627776 y h 2 g W e)
  have HS := Aside0.mk hs
  unfold ruleB at hB
  generalize (!outB 2000 cols) = p1 at *
  generalize (!outB 1048576 wd && (!outB 1048576 gap && !outB 1048576 rule)) = p2 at *
  generalize (!outB 1099511627776 y && !outB 1099511627776 h) = p3 at *
  clear hs
  cases p1
  · clear hB H2 H3
    go_enter Tryd.func10, Tryd.ntmps10
    go_wp2_with (first | (go_at_call 28; (with_reducible refine (H1.out _ _ (by simp)).mono ?_); rintro e w1 ⟨rfl, hb⟩; have HB1 := Aside0.mk hb; have g0 := pw_cell_below hb HS.out; clear hb) | (go_at_call 29; refine (told_paint a _ (pw_cell_below HB1.out HS.out)).mono ?_; rintro e w' ⟨rfl, rfl⟩))
    go_ret2
    exact ⟨_, rfl, nil_R _ _, HB1.out⟩
  cases p2
  · clear hB H3
    go_enter Tryd.func10, Tryd.ntmps10
    go_wp2_with (first | (go_at_call 28; (with_reducible refine (H1.out _ _ (by simp)).mono ?_); rintro e w1 ⟨rfl, hb⟩; have HB1 := Aside0.mk hb; clear hb) | (go_at_call 28; (with_reducible refine (H2.out _ _ (by simp)).mono ?_); rintro e w2 ⟨rfl, hb⟩; have HB2 := Aside0.mk (below_then HB1.out HB1.out.size hb); have g0 := pw_cell_below HB2.out HS.out; clear hb) | (go_at_call 29; refine (told_paint a _ (pw_cell_below HB2.out HS.out)).mono ?_; rintro e w' ⟨rfl, rfl⟩))
    go_ret2
    exact ⟨_, rfl, nil_R _ _, HB2.out⟩
  cases p3
  · clear hB
    go_enter Tryd.func10, Tryd.ntmps10
    go_wp2_with (first | (go_at_call 28; (with_reducible refine (H1.out _ _ (by simp)).mono ?_); rintro e w1 ⟨rfl, hb⟩; have HB1 := Aside0.mk hb; clear hb) | (go_at_call 28; (with_reducible refine (H2.out _ _ (by simp)).mono ?_); rintro e w2 ⟨rfl, hb⟩; have HB2 := Aside0.mk (below_then HB1.out HB1.out.size hb); clear hb) | (go_at_call 28; (with_reducible refine (H3.out _ _ (by simp)).mono ?_); rintro e w3 ⟨rfl, hb⟩; have HB3 := Aside0.mk (below_then HB2.out HB2.out.size hb); have g0 := pw_cell_below HB3.out HS.out; clear hb) | (go_at_call 29; refine (told_paint a _ (pw_cell_below HB3.out HS.out)).mono ?_; rintro e w' ⟨rfl, rfl⟩))
    go_ret2
    exact ⟨_, rfl, nil_R _ _, HB3.out⟩
  cases hB
def paint_Rules.f (a0 : Int) (a1 : Int) (a2 : Int) (a3 : Int) (a4 : Int) (a5 : Int) : Option ((List (S30)) × Int) := some (if ruleB a0 a1 a2 a3 a4 a5 then (if a3 = 0 then [] else rulesL (a0.toNat - 1) a1 a2 a3 a4 a5, 0) else ([], 170))
theorem paint_Rules.calls (a0 : Int) (a1 : Int) (a2 : Int) (a3 : Int) (a4 : Int) (a5 : Int) (r1 : List (S30)) (r2 : Int) (w : World) (h : paint_Rules.f a0 a1 a2 a3 a4 a5 = some (r1, r2)) (hG : GOK w) :
    Calls Tryd.prog 10 #[.int .i64 a0, .int .i64 a1, .int .i64 a2, .int .i64 a3, .int .i64 a4, .int .i64 a5] w fun e w' => ∃ v0_ : Value, e = .returned (.tuple #[v0_, .int .i64 r2]) ∧ Kd.R k30 30 w' w.heap.size (fun _ => True) v0_ r1 ∧ Below w.heap.size w w' := by
  obtain ⟨⟨a, ha⟩, _⟩ := hG
  have h := Option.some.inj h
  by_cases hB : ruleB a0 a1 a2 a3 a4 a5 = true
  · rw [if_pos hB, Prod.mk.injEq] at h
    obtain ⟨h1, rfl⟩ := h
    simp only [ruleB, Bool.and_eq_true, Bool.not_eq_true'] at hB
    obtain ⟨b1, ⟨b2, b3, b4⟩, b5, b6⟩ := hB
    by_cases hz : a3 = 0
    · rw [if_pos hz] at h1
      subst h1
      exact rules_zero a0 a1 a2 a3 a4 a5 w hz b1 b2 b3 b4 b5 b6
    · rw [if_neg hz] at h1
      subst h1
      have c4 := inZ b4
      exact rules_yes _ a0 a1 a2 a3 a4 a5 w rfl (inZ b1) (inZ b2) (inZ b3) (by omega) b1 b2 b3 b4 b5 b6
  · rw [if_neg hB, Prod.mk.injEq] at h
    obtain ⟨rfl, rfl⟩ := h
    exact rules_no a0 a1 a2 a3 a4 a5 w (Bool.eq_false_iff.mpr hB) a ha
end Go.Proofs.YtkmddhljfjjglaaDoor.G
