/- Chapter 16: the host and the spanner of a node. Written by tmpl.py out of F32.tl. -/
import Derived.Test.YtdphijhebppeeaaDoorF31
import Derived.Test.YtdphijhebppeeaaDoorF28
namespace Go.Proofs.YtdphijhebppeeaaDoor.G
open Go.RowKit Go.Shelf Go.Maps Go.WideElems Go.MapKept Go.ChangeMaps Go.ChangeShapes Go.Proofs.YtdphijhebppeeaaDoorW.PrintWords Go.Proofs.YtdphijhebppeeaaDoorW.PrintLast Go.Proofs.YtdphijhebppeeaaDoorW.PrintMore
attribute [local irreducible] cN
def hostP (t : List Node) (k : Nat) : Bool := (parentOf t k).f1 == 4
def spanP (t : List Node) (k : Nat) : Bool := (t.getD k zN).f5.f11
theorem ranges_at {W : World} {q : Addr} {M : Array Value} (h : ranges W q M.toList) (j : Nat) {v : Value} (hv : M[j + 1]? = some v) : W.cell? ⟨q.block, q.off + (j + 1), none⟩ = some v := by
  have := ranges_get h (j + 1) hv
  simpa [Addr.add] using this
theorem par_in {t : List Node} {n p : Nat} (h0 : 0 < n) (h : (t.getD n zN).f0 = p) (h1 : p < n) : parentOf t n = t.getD p zN := by
  rw [parentOf, if_pos (by omega), h]; rfl
set_option maxRecDepth 100000 in
theorem host1_any (t : List Node) (A : Option Addr) (c k : Nat) (pb : Addr) (w : World) (hk0 : 0 < k) (hk : k < t.length) (hT : OKT t) (hc : kN.C w A t.length t) (hb : w.cell? pb = some (.slice A t.length c)) :
    Calls Tryd.prog 31 #[.int .i64 k, .pointer (some pb)] w fun e w' => e = .returned (.tuple #[.int .i64 (t.getD k zN).f0, .bool (hostP t k)]) ∧ Below w.heap.size w w' := by
  obtain ⟨ad, M, rfl, hM, hr⟩ := node_at hc k hk
  have hq := hT k hk0 hk
  obtain ⟨q, hfq⟩ : ∃ q : Nat, (t.getD k zN).f0 = q := ⟨(t.getD k zN).f0.toNat, by omega⟩
  rw [hfq] at hq
  obtain ⟨ad', M', eA, hM', hr'⟩ := node_at hc q (by omega)
  cases eA
  have g0 := ranges_first hr hM.c0
  have g1 := ranges_at hr' 0 hM'.c1
  rw [hfq] at g0
  unfold hostP
  rw [par_in hk0 hfq (by omega), hfq]
  generalize (t.getD q zN).f1 = kd at *
  have k1 : (k : Int) < t.length := by omega
  have k2 : (q : Int) < t.length := by omega
  clear hM hr hM' hr' hc hfq
  obtain ⟨hq0, hq1⟩ := hq
  go_enter Tryd.func31, Tryd.ntmps31
  go_upto_region 1 with fail
  go_quiet (fail)
  go_wp2
  go_ret2
  exact ⟨rfl, pw_below_drewN (Below.refl _ _) _⟩
set_option maxRecDepth 100000 in
theorem span1_any (t : List Node) (A : Option Addr) (c k : Nat) (pb : Addr) (w : World) (hk : k < t.length) (hc : kN.C w A t.length t) (hb : w.cell? pb = some (.slice A t.length c)) :
    Calls Tryd.prog 32 #[.int .i64 k, .pointer (some pb)] w fun e w' => e = .returned (.tuple #[.int .i64 k, .bool (spanP t k)]) ∧ Below w.heap.size w w' := by
  obtain ⟨ad, M, rfl, hM, hr⟩ := node_at hc k hk
  have g1 := ranges_at hr 15 hM.c16
  unfold spanP
  generalize (t.getD k zN).f5.f11 = sp at *
  have k1 : (k : Int) < t.length := by omega
  clear hM hr hc
  go_enter Tryd.func32, Tryd.ntmps32
  go_upto_region 1 with fail
  go_quiet (fail)
  go_wp2
  go_ret2
  exact ⟨rfl, pw_below_drewN (Below.refl _ _) _⟩
def segment_Host.f (l0 : List (S31)) (a1 : Int) : Option (Int × Bool × Int) := if segE l0 a1 ≠ 0 then some (0, false, segE l0 a1) else match upFirst l0 (hostP l0) (a1.toNat + 1) a1.toNat with | some k => some ((l0.getD k zN).f0, true, 0) | none => some (0, false, 0)
def segment_Spanner.f (l0 : List (S31)) (a1 : Int) : Option (Int × Bool × Int) := if segE l0 a1 ≠ 0 then some (0, false, segE l0 a1) else match upFirst l0 (spanP l0) (a1.toNat + 1) a1.toNat with | some k => some ((k : Int), true, 0) | none => some (0, false, 0)
theorem upRes_of {u : Option Nat} {vv : Nat → Int} {r1 : Int} {r2 : Bool} {r3 : Int} (h : (match u with | some k => some (vv k, true, (0 : Int)) | none => some ((0 : Int), false, (0 : Int))) = some (r1, r2, r3)) : upRes u vv = .tuple #[.int .i64 r1, .bool r2] ∧ r3 = 0 := by
  cases u with
  | none =>
    simp only [Option.some.injEq, Prod.mk.injEq] at h
    obtain ⟨rfl, rfl, rfl⟩ := h
    exact ⟨rfl, rfl⟩
  | some k =>
    simp only [Option.some.injEq, Prod.mk.injEq] at h
    obtain ⟨rfl, rfl, rfl⟩ := h
    exact ⟨rfl, rfl⟩
theorem host1_eg : ∀ args w, (callFunc 31 args).run Tryd.prog w = .ok (.enter 31 args) w := fun args w => by go_simp
theorem span1_eg : ∀ args w, (callFunc 32 args).run Tryd.prog w = .ok (.enter 32 args) w := fun args w => by go_simp
set_option maxRecDepth 100000 in
theorem segment_Host.calls (A0 : Option Addr) (c0 : Nat) (l0 : List (S31)) (a1 : Int) (r1 : Int) (r2 : Bool) (r3 : Int) (w : World) (hr0 : Kd.C k31 w A0 l0.length l0) (hc0 : l0.length ≤ c0) (h : segment_Host.f l0 a1 = some (r1, r2, r3)) (hG : GOK w) :
    Calls Tryd.prog 11 #[.slice A0 l0.length c0, .int .i64 a1] w fun e w' => e = .returned (.tuple #[.int .i64 r1, .bool r2, .int .i64 r3]) ∧ Below w.heap.size w w' := by
  have _h0 := hc0
  have hB1 := below_alloc (Below.refl w.heap.size w) (.cells #[.slice A0 l0.length c0] 22)
  have HX := Aside0.mk (blk_new w (.cells #[.slice A0 l0.length c0] 22))
  have c1 := cell_at (blk_new w (.cells #[.slice A0 l0.length c0] 22)) 0 rfl
  have HS := Aside0.mk (show (w.alloc (.cells #[.slice A0 l0.length c0] 22)).heap.size = w.heap.size + 1 by simp)
  have HA := Aside0.mk (sat_any l0 A0 c0 a1 _ (Kd.C_below hr0 hB1) hc0 (hG.below hB1))
  have HC := Aside0.mk hr0
  have HG := Aside0.mk (hG.below hB1)
  have HB1 := Aside0.mk hB1
  clear hr0 hG hB1
  unfold segment_Host.f at h
  by_cases hE : segE l0 a1 = 0
  · rw [if_neg (by rw [hE]; simp)] at h
    obtain ⟨hop, hn0, hn1⟩ := segE_zero hE
    have hl := (open_none hop).2.1
    have hT := open_OKT hop
    obtain ⟨a, rfl⟩ : ∃ a : Nat, a1 = a := ⟨a1.toNat, by omega⟩
    rw [Int.toNat_natCast] at h
    obtain ⟨hu, rfl⟩ := upRes_of (vv := fun k => (l0.getD k zN).f0) h
    have HU := Aside0.mk hu
    have HE := Aside0.mk hE
    clear h hu hE
    go_enter Tryd.func11, Tryd.ntmps11
    go_upto_region 4 with (first | (go_at_call 28; refine HA.out.mono ?_; rintro e w2 hq; rw [SAtPost, if_pos HE.out] at hq; obtain ⟨g, m, rfl, hC, hB⟩ := hq; have HCl := Aside0.mk hC; have HB := Aside0.mk hB; clear hC hB))
    have HF := Aside0.mk (sfirst_any 31 ⟨w.heap.size, 0, none⟩ host1_eg l0 A0 hl hT (hostP l0) (fun k => (l0.getD k zN).f0) g m _ a (by omega) w2 HB.out.size
      (fun W1 h => Kd.C_below HC.out (below_then HB1.out HB1.out.size (HB.out.trans h)))
      HCl.out
      (fun k W1 hk0 hk h => host1_any l0 A0 c0 k ⟨w.heap.size, 0, none⟩ W1 hk0 hk hT (Kd.C_below HC.out (below_then HB1.out HB1.out.size (HB.out.trans h))) (cell_at (blk_below HX.out (HB.out.trans h)) 0 rfl)))
    go_wp2_with (first | (go_at_call 30; refine HF.out.mono ?_; rintro e w3 ⟨rfl, hb3⟩; rw [HU.out]))
    go_ret3
    exact ⟨rfl, below_then HB1.out HB1.out.size (HB.out.trans hb3)⟩
  · rw [if_pos hE] at h
    simp only [Option.some.injEq, Prod.mk.injEq] at h
    obtain ⟨rfl, rfl, rfl⟩ := h
    have HE := Aside0.mk hE
    go_enter Tryd.func11, Tryd.ntmps11
    go_wp2_with (first | (go_at_call 28; refine HA.out.mono ?_; rintro e w2 hq; rw [SAtPost, if_neg HE.out] at hq; obtain ⟨pp, rfl, hB⟩ := hq; have HB := Aside0.mk hB; clear hB) | (go_at_call 29; refine (stold_any _ w2 (HG.out.below (by exact HB.out))).mono ?_; rintro e w3 ⟨rfl, hb3⟩))
    go_ret3
    exact ⟨rfl, below_then HB1.out HB1.out.size (below_then HB.out HB.out.size hb3)⟩
set_option maxRecDepth 100000 in
theorem segment_Spanner.calls (A0 : Option Addr) (c0 : Nat) (l0 : List (S31)) (a1 : Int) (r1 : Int) (r2 : Bool) (r3 : Int) (w : World) (hr0 : Kd.C k31 w A0 l0.length l0) (hc0 : l0.length ≤ c0) (h : segment_Spanner.f l0 a1 = some (r1, r2, r3)) (hG : GOK w) :
    Calls Tryd.prog 12 #[.slice A0 l0.length c0, .int .i64 a1] w fun e w' => e = .returned (.tuple #[.int .i64 r1, .bool r2, .int .i64 r3]) ∧ Below w.heap.size w w' := by
  have _h0 := hc0
  have hB1 := below_alloc (Below.refl w.heap.size w) (.cells #[.slice A0 l0.length c0] 22)
  have HX := Aside0.mk (blk_new w (.cells #[.slice A0 l0.length c0] 22))
  have c1 := cell_at (blk_new w (.cells #[.slice A0 l0.length c0] 22)) 0 rfl
  have HS := Aside0.mk (show (w.alloc (.cells #[.slice A0 l0.length c0] 22)).heap.size = w.heap.size + 1 by simp)
  have HA := Aside0.mk (sat_any l0 A0 c0 a1 _ (Kd.C_below hr0 hB1) hc0 (hG.below hB1))
  have HC := Aside0.mk hr0
  have HG := Aside0.mk (hG.below hB1)
  have HB1 := Aside0.mk hB1
  clear hr0 hG hB1
  unfold segment_Spanner.f at h
  by_cases hE : segE l0 a1 = 0
  · rw [if_neg (by rw [hE]; simp)] at h
    obtain ⟨hop, hn0, hn1⟩ := segE_zero hE
    have hl := (open_none hop).2.1
    have hT := open_OKT hop
    obtain ⟨a, rfl⟩ : ∃ a : Nat, a1 = a := ⟨a1.toNat, by omega⟩
    rw [Int.toNat_natCast] at h
    obtain ⟨hu, rfl⟩ := upRes_of (vv := fun k => (k : Int)) h
    have HU := Aside0.mk hu
    have HE := Aside0.mk hE
    clear h hu hE
    go_enter Tryd.func12, Tryd.ntmps12
    go_upto_region 4 with (first | (go_at_call 28; refine HA.out.mono ?_; rintro e w2 hq; rw [SAtPost, if_pos HE.out] at hq; obtain ⟨g, m, rfl, hC, hB⟩ := hq; have HCl := Aside0.mk hC; have HB := Aside0.mk hB; clear hC hB))
    have HF := Aside0.mk (sfirst_any 32 ⟨w.heap.size, 0, none⟩ span1_eg l0 A0 hl hT (spanP l0) (fun k => (k : Int)) g m _ a (by omega) w2 HB.out.size
      (fun W1 h => Kd.C_below HC.out (below_then HB1.out HB1.out.size (HB.out.trans h)))
      HCl.out
      (fun k W1 hk0 hk h => span1_any l0 A0 c0 k ⟨w.heap.size, 0, none⟩ W1 hk (Kd.C_below HC.out (below_then HB1.out HB1.out.size (HB.out.trans h))) (cell_at (blk_below HX.out (HB.out.trans h)) 0 rfl)))
    go_wp2_with (first | (go_at_call 30; refine HF.out.mono ?_; rintro e w3 ⟨rfl, hb3⟩; rw [HU.out]))
    go_ret3
    exact ⟨rfl, below_then HB1.out HB1.out.size (HB.out.trans hb3)⟩
  · rw [if_pos hE] at h
    simp only [Option.some.injEq, Prod.mk.injEq] at h
    obtain ⟨rfl, rfl, rfl⟩ := h
    have HE := Aside0.mk hE
    go_enter Tryd.func12, Tryd.ntmps12
    go_wp2_with (first | (go_at_call 28; refine HA.out.mono ?_; rintro e w2 hq; rw [SAtPost, if_neg HE.out] at hq; obtain ⟨pp, rfl, hB⟩ := hq; have HB := Aside0.mk hB; clear hB) | (go_at_call 29; refine (stold_any _ w2 (HG.out.below (by exact HB.out))).mono ?_; rintro e w3 ⟨rfl, hb3⟩))
    go_ret3
    exact ⟨rfl, below_then HB1.out HB1.out.size (below_then HB.out HB.out.size hb3)⟩
end Go.Proofs.YtdphijhebppeeaaDoor.G
