/- Chapter 18: what a rectangle is. Written by mkF3.py. -/
import Derived.Test.YtkmddhljfjjglaaDoorF2
import Derived.Deep.RegionHeld3
namespace Go.Proofs.YtkmddhljfjjglaaDoor.G
open Go.RowKit Go.Proofs.YtkmddhljfjjglaaDoorW.PrintWords Go.Proofs.YtkmddhljfjjglaaDoorW.PrintLast Go.Proofs.YtkmddhljfjjglaaDoorW.PrintMore

/-- Is a number not from 0 to the greatest one? -/
def outB (most n : Int) : Bool := decide (n < 0) || decide (n > most)
set_option maxRecDepth 100000 in
theorem out_any (n most : Int) (b : Nat) (w : World) (hb : w.cell? ⟨b, 0, none⟩ = some (.int .i64 most)) :
    Calls Tryd.prog 54 #[.int .i64 n, .pointer (some ⟨b, 0, none⟩)] w fun e w' => e = .returned (.bool (outB most n)) ∧ w = w' := by
  unfold outB
  by_cases h : n < 0
  · go_enter Tryd.func54, Tryd.ntmps54
    go_wp2
    go_ret
    exact ⟨by simp [h], rfl⟩
  · go_enter Tryd.func54, Tryd.ntmps54
    go_wp2
    go_ret
    exact ⟨by rw [show decide (n < 0) = false from decide_eq_false (by omega)]; rfl, rfl⟩
theorem take_rd (rs : List Int) (k : Nat) (hk : k < rs.length) : rs.take (k + 1) = rs.take k ++ [rd rs k] := by
  rw [List.take_succ_eq_append_getElem hk]
  simp [rd, hk]
theorem any_at {rs : List Int} {f : Int → Bool} (k : Nat) (hk : k < rs.length) (h : f (rd rs k) = true) : rs.any f = true := by
  rw [List.any_eq_true]
  exact ⟨rs[k], List.getElem_mem hk, by simpa [rd, hk] using h⟩
set_option maxRecDepth 100000 in
set_option maxHeartbeats 1000000 in
theorem indexFunc_any (most : Int) (b : Nat) (A : Option Addr) (c : Nat) (l : List Int) (w : World) (hr : Kd.C (Kd.int .i64) w A l.length l) (hl : l.length ≤ 1000) (hb : w.cell? ⟨b, 0, none⟩ = some (.int .i64 most)) :
    Calls Tryd.prog 64 #[.slice A l.length c, .func (.func 54) #[] #[.pointer (some ⟨b, 0, none⟩)]] w fun e w' => (∃ i : Int, e = .returned (.int .i64 i) ∧ decide (i ≥ 0) = l.any (outB most)) ∧ w = w' := by
  have HR := Aside0.mk hr
  have HB := Aside0.mk hb
  clear hr hb
  go_enter Tryd.func64, Tryd.ntmps64
  go_wp2
  go_loopw [8] (fun i wr => ∃ k : Nat, k ≤ l.length ∧ i = .int .i64 k ∧ wr = w ∧ Aside0 ((l.take k).any (outB most) = false)) (fun i _ => l.length - (intOf i).toNat)
  case atStart => exact ⟨0, Nat.zero_le _, rfl, rfl, ⟨rfl⟩⟩
  case round =>
    obtain ⟨k, hk, rfl, rfl, hT⟩ := hrel
    by_cases hlt : k < l.length
    · obtain ⟨ad, ea, hx⟩ := Kd.at_int HR.out (k : Int) (by omega) (by omega)
      cases ea
      rw [Int.toNat_natCast] at hx
      have ht := Aside0.mk (take_rd l k hlt)
      by_cases ho : outB most (rd l k) = true
      · have HO := Aside0.mk ho
        have HA := Aside0.mk (any_at k hlt ho)
        clear ho
        go_wp2_with (go_at_call 54; refine (out_any _ most b _ HB.out).mono ?_; rintro e w' ⟨rfl, rfl⟩; rw [HO.out])
        go_ret
        exact ⟨⟨_, rfl, by rw [HA.out]; simp⟩, rfl⟩
      · have HO := Aside0.mk (Bool.eq_false_iff.mpr ho)
        clear ho
        go_wp2_with (go_at_call 54; refine (out_any _ most b _ HB.out).mono ?_; rintro e w' ⟨rfl, rfl⟩; rw [HO.out])
        go_roundw
        case rel => exact ⟨k + 1, by omega, by go_num, trivial, ⟨by rw [ht.out, List.any_append, hT.out]; simpa using HO.out⟩⟩
        case measure => simp [intOf]; omega
    · have e : k = l.length := by omega
      subst e
      rw [List.take_length] at hT
      go_wp2
      go_ret
      exact ⟨⟨_, rfl, by rw [hT.out]; decide⟩, rfl⟩
theorem containsFunc_any (most : Int) (b : Nat) (A : Option Addr) (c : Nat) (l : List Int) (w : World) (hr : Kd.C (Kd.int .i64) w A l.length l) (hl : l.length ≤ 1000) (hb : w.cell? ⟨b, 0, none⟩ = some (.int .i64 most)) :
    Calls Tryd.prog 53 #[.slice A l.length c, .func (.func 54) #[] #[.pointer (some ⟨b, 0, none⟩)]] w fun e w' => e = .returned (.bool (l.any (outB most))) ∧ w = w' := by
  have HC := Aside0.mk (indexFunc_any most b A c l w hr hl hb)
  clear hr hb
  go_enter Tryd.func53, Tryd.ntmps53
  go_wp2_with (go_at_call 64; refine HC.out.mono ?_; rintro e w' ⟨⟨i, rfl, hi⟩, rfl⟩; have HI := Aside0.mk hi; clear hi)
  go_ret
  exact ⟨by rw [← HI.out]; rfl, rfl⟩
theorem areWithin_any (most : Int) (A : Option Addr) (c : Nat) (l : List Int) (w : World) (hr : Kd.C (Kd.int .i64) w A l.length l) (hl : l.length ≤ 1000) :
    Calls Tryd.prog 28 #[.int .i64 most, .slice A l.length c] w fun e w' => e = .returned (.bool (!l.any (outB most))) ∧ Below w.heap.size w w' := by
  have hB := below_alloc (Below.refl w.heap.size w) (.cells #[.int .i64 most] 2)
  have HC := Aside0.mk (containsFunc_any most w.heap.size A c l (w.alloc (.cells #[.int .i64 most] 2)) (Kd.C_below hr hB) hl ((blk_cell (blk_new w _) 0).trans rfl))
  have HB := Aside0.mk hB
  clear hr hB
  go_enter Tryd.func28, Tryd.ntmps28
  go_wp2_with (go_at_call 53; refine HC.out.mono ?_; rintro e w' ⟨rfl, rfl⟩)
  go_ret
  exact ⟨rfl, HB.out⟩
theorem fresh_C (w : World) (t : TypeId) (l : List Int) (hl : l.length ≤ 1000) : Kd.C (Kd.int .i64) (w.alloc (.cells (l.map (Value.int .i64)).toArray t)) (some ⟨w.heap.size, 0, none⟩) l.length l := by
  refine Kd.C_of_reads (d := (0 : Int)) (h1 := fun _ => rfl) ⟨rfl, by omega, fun _ => ⟨_, rfl, fun j hj => ?_⟩⟩
  rw [add_plain, World.cell?_alloc_new]
  simp [hj]
theorem within1 (most a : Int) (c g : Nat) (w : World) (hg : w.heap.size = g) : Calls Tryd.prog 28 #[.int .i64 most, .slice (some ⟨g, 0, none⟩) 1 c] (w.alloc (.cells #[.int .i64 a] 2)) fun e w' => e = .returned (.bool (!outB most a)) ∧ Below w.heap.size w w' := by
  subst hg
  refine (areWithin_any most _ c [a] _ (fresh_C w 2 [a] (by simp)) (by simp)).mono ?_
  rintro e w' ⟨rfl, hb⟩
  exact ⟨by simp, below_then (below_alloc (Below.refl _ _) _) (by simp) hb⟩
theorem within2 (most a b : Int) (c g : Nat) (w : World) (hg : w.heap.size = g) : Calls Tryd.prog 28 #[.int .i64 most, .slice (some ⟨g, 0, none⟩) 2 c] (w.alloc (.cells #[.int .i64 a, .int .i64 b] 2)) fun e w' => e = .returned (.bool (!outB most a && !outB most b)) ∧ Below w.heap.size w w' := by
  subst hg
  refine (areWithin_any most _ c [a, b] _ (fresh_C w 2 [a, b] (by simp)) (by simp)).mono ?_
  rintro e w' ⟨rfl, hb⟩
  exact ⟨by simp, below_then (below_alloc (Below.refl _ _) _) (by simp) hb⟩
theorem within3 (most a b d : Int) (c g : Nat) (w : World) (hg : w.heap.size = g) : Calls Tryd.prog 28 #[.int .i64 most, .slice (some ⟨g, 0, none⟩) 3 c] (w.alloc (.cells #[.int .i64 a, .int .i64 b, .int .i64 d] 2)) fun e w' => e = .returned (.bool (!outB most a && (!outB most b && !outB most d))) ∧ Below w.heap.size w w' := by
  subst hg
  refine (areWithin_any most _ c [a, b, d] _ (fresh_C w 2 [a, b, d] (by simp)) (by simp)).mono ?_
  rintro e w' ⟨rfl, hb⟩
  exact ⟨by simp, below_then (below_alloc (Below.refl _ _) _) (by simp) hb⟩
/-- Is it a rectangle? -/
def isB (r : S30) : Bool := (!outB 2199023255552 (wrap64 (r.f0 + 1099511627776)) && !outB 2199023255552 (wrap64 (r.f1 + 1099511627776))) && (!outB 1099511627776 r.f2 && !outB 1099511627776 r.f3)
def vS30 (r : S30) : Value := .agg #[.int .i64 r.f0, .int .i64 r.f1, .int .i64 r.f2, .int .i64 r.f3]
set_option maxRecDepth 100000 in
set_option maxHeartbeats 1000000 in
theorem isRect_any (a b c d : Int) (w : World) : Calls Tryd.prog 41 #[.agg #[.int .i64 a, .int .i64 b, .int .i64 c, .int .i64 d]] w fun e w' => e = .returned (.bool (isB ⟨a, b, c, d⟩)) ∧ Below w.heap.size w w' := by
  have hB := Aside0.mk (below_alloc (Below.refl w.heap.size w) (.cells #[.int .i64 a, .int .i64 b, .int .i64 c, .int .i64 d] 30))
  have hv := blk_new w (.cells #[.int .i64 a, .int .i64 b, .int .i64 c, .int .i64 d] 30)
  have HE := Aside0.mk (show isB ⟨a, b, c, d⟩ = ((!outB 2199023255552 (wrap64 (a + 1099511627776)) && !outB 2199023255552 (wrap64 (b + 1099511627776))) && (!outB 1099511627776 c && !outB 1099511627776 d)) from rfl)
  have HV := Aside0.mk hv
  clear hv
  generalize hp : (!outB 2199023255552 (wrap64 (a + 1099511627776)) && !outB 2199023255552 (wrap64 (b + 1099511627776))) = p at *
  have HP := Aside0.mk hp
  clear hp
  cases p
  · go_enter Tryd.func41, Tryd.ntmps41
    go_wp2_with (go_at_call 28; refine (within2 _ _ _ _ _ _ (by simp)).mono ?_; rintro e w2 ⟨rfl, hb⟩; have HB2 := Aside0.mk (below_then hB.out (by simp) hb); clear hb; rw [HP.out])
    go_ret
    exact ⟨by rw [HE.out]; rfl, HB2.out⟩
  · have H1 := Aside0.mk (within2 2199023255552 (wrap64 (a + 1099511627776)) (wrap64 (b + 1099511627776)) 2 (w.heap.size + 1) (w.alloc (.cells #[.int .i64 a, .int .i64 b, .int .i64 c, .int .i64 d] 30)) (by simp))
    have H2 := Aside0.mk (fun W => within2 1099511627776 c d 2 _ W rfl)
    go_enter Tryd.func41, Tryd.ntmps41
    go_wp2_with (first | (go_at_call 28; (with_reducible refine H1.out.mono ?_); rintro e w2 ⟨rfl, hb⟩; have HB2 := Aside0.mk (below_then hB.out (by simp) hb); have k2 : w2.cell? ⟨w.heap.size, 2, none⟩ = some (.int .i64 c) := (blk_cell (blk_below HV.out hb) 2).trans rfl; have k3 : w2.cell? ⟨w.heap.size, 3, none⟩ = some (.int .i64 d) := (blk_cell (blk_below HV.out hb) 3).trans rfl; clear hb; rw [HP.out]) | (go_at_call 28; (with_reducible refine (H2.out _).mono ?_); rintro e w3 ⟨rfl, hb⟩; have HB3 := Aside0.mk (below_then HB2.out HB2.out.size hb); clear hb))
    go_ret
    exact ⟨by rw [HE.out]; simp, HB3.out⟩
end Go.Proofs.YtkmddhljfjjglaaDoor.G
