/- Chapter 5: what the reference's Kids, Deep, Below, Order answer. Written by mkF27.py, tmpl.py. -/
import Derived.Test.YtjafcgemgghbiaaDoorF26
namespace Go.Proofs.YtjafcgemgghbiaaDoor.G
open Go.RowKit Go.Shelf Go.Maps Go.MapKept Go.ChangeMaps Go.ChangeShapes Go.Proofs.YtjafcgemgghbiaaDoorW.PrintWords Go.Proofs.YtjafcgemgghbiaaDoorW.PrintLast Go.Proofs.YtjafcgemgghbiaaDoorW.PrintMore
attribute [local irreducible] cN
theorem root_of {t : List Node} (h : openT t = none) : 0 < t.length → (t.getD 0 zN).f0 = -1 := fun hz => by
  have hg := ((open_none h).2.2 0 hz).1
  unfold goodB at hg
  rw [Bool.and_eq_true] at hg
  have hp := hg.1
  unfold placeB at hp
  rw [if_pos rfl, Bool.and_eq_true] at hp
  exact of_decide_eq_true hp.1
def gutterref05_Kids.f (l0 : List (S32)) (a1 : Int) : Option (List Int × Int) := tree_Kids.f l0 a1
set_option maxRecDepth 100000 in
theorem gutterref05_Kids.calls (A0 : Option Addr) (c0 : Nat) (l0 : List (S32)) (a1 : Int) (r1 : List Int) (r2 : Int) (w : World) (hr0 : Kd.C k32 w A0 l0.length l0) (hc0 : l0.length ≤ c0) (h : gutterref05_Kids.f l0 a1 = some (r1, r2)) :
    Calls Tryd.prog 21 #[.slice A0 l0.length c0, .int .i64 a1] w fun e w' => ∃ v0_ : Value, e = .returned (.tuple #[v0_, .int .i64 r2]) ∧ Kd.R (Kd.int .i64) 3 w' w.heap.size (fun _ => True) v0_ r1 ∧ Below w.heap.size w w' := by
  have _h0 := hc0
  have HN := Aside0.mk (rnode_any l0 A0 c0 a1 w hr0 hc0)
  have HC := Aside0.mk hr0
  clear hr0
  unfold gutterref05_Kids.f tree_Kids.f at h
  cases hI : errI l0 a1 with
  | some p =>
    obtain ⟨k, i⟩ := p
    have h2 := (errI_code hI).2
    have hne : errN l0 a1 ≠ 0 := by rw [h2]; omega
    rw [if_pos hne] at h
    simp only [Option.some.injEq, Prod.mk.injEq] at h
    obtain ⟨rfl, rfl⟩ := h
    clear h2 hI
    generalize errN l0 a1 = e0 at *
    go_enter Tryd.func21, Tryd.ntmps21
    go_wp2_with (first | (go_at_call 36; refine HN.out.mono ?_; rintro e w2 ⟨rfl, hb⟩))
    go_ret2
    exact ⟨_, rfl, Kd.R_nil _ _ _ _ _, hb⟩
  | none =>
    obtain ⟨hop, hn0, hn1, h2⟩ := errI_none hI
    rw [if_neg (by rw [h2]; simp)] at h
    rw [h2] at HN
    have hl := (open_none hop).2.1
    have hT := open_OKT hop
    have hroot := root_of hop
    obtain ⟨a, rfl⟩ : ∃ a : Nat, a1 = a := ⟨a1.toNat, by omega⟩
    simp only [Option.some.injEq, Prod.mk.injEq] at h
    obtain ⟨rfl, rfl⟩ := h
    have HK := Aside0.mk (fun w' (hb : Below w.heap.size w w') => rkids_any l0 A0 c0 (a : Int) w' hl (by omega) hroot (Kd.C_below HC.out hb))
    go_enter Tryd.func21, Tryd.ntmps21
    go_wp2_with (first | (go_at_call 36; refine HN.out.mono ?_; rintro e w2 ⟨rfl, hb⟩; have HB := Aside0.mk hb; clear hb) | (go_at_call 37; refine (HK.out _ HB.out).mono ?_; rintro e w3 ⟨v, rfl, hi, hb3⟩))
    go_ret2
    exact ⟨v, rfl, ints_R hi HB.out.size, below_then HB.out HB.out.size hb3⟩
def gutterref05_Deep.f (l0 : List (S32)) (a1 : Int) : Option (Int × Int) := tree_Deep.f l0 a1
set_option maxRecDepth 100000 in
theorem gutterref05_Deep.calls (A0 : Option Addr) (c0 : Nat) (l0 : List (S32)) (a1 : Int) (r1 : Int) (r2 : Int) (w : World) (hr0 : Kd.C k32 w A0 l0.length l0) (hc0 : l0.length ≤ c0) (h : gutterref05_Deep.f l0 a1 = some (r1, r2)) :
    Calls Tryd.prog 23 #[.slice A0 l0.length c0, .int .i64 a1] w fun e w' => e = .returned (.tuple #[.int .i64 r1, .int .i64 r2]) ∧ Below w.heap.size w w' := by
  have _h0 := hc0
  have HN := Aside0.mk (rnode_any l0 A0 c0 a1 w hr0 hc0)
  have HC := Aside0.mk hr0
  clear hr0
  unfold gutterref05_Deep.f tree_Deep.f at h
  cases hI : errI l0 a1 with
  | some p =>
    obtain ⟨k, i⟩ := p
    have h2 := (errI_code hI).2
    have hne : errN l0 a1 ≠ 0 := by rw [h2]; omega
    rw [if_pos hne] at h
    simp only [Option.some.injEq, Prod.mk.injEq] at h
    obtain ⟨rfl, rfl⟩ := h
    clear h2 hI
    generalize errN l0 a1 = e0 at *
    go_enter Tryd.func23, Tryd.ntmps23
    go_wp2_with (first | (go_at_call 36; refine HN.out.mono ?_; rintro e w2 ⟨rfl, hb⟩))
    go_ret2
    exact ⟨rfl, hb⟩
  | none =>
    obtain ⟨hop, hn0, hn1, h2⟩ := errI_none hI
    rw [if_neg (by rw [h2]; simp)] at h
    rw [h2] at HN
    have hl := (open_none hop).2.1
    have hT := open_OKT hop
    have hroot := root_of hop
    obtain ⟨a, rfl⟩ : ∃ a : Nat, a1 = a := ⟨a1.toNat, by omega⟩
    rw [Int.toNat_natCast, deps_at l0 a l0.length (by omega)] at h
    simp only [Option.some.injEq, Prod.mk.injEq] at h
    obtain ⟨rfl, rfl⟩ := h
    have HK := Aside0.mk (fun w' (hb : Below w.heap.size w w') => rdeep_any l0 A0 c0 hl a w' (by omega) (fun j h0 h1 => hT j h0 (by omega)) (Kd.C_below HC.out hb))
    generalize depN l0 a (depsL l0 a) = dd at *
    go_enter Tryd.func23, Tryd.ntmps23
    go_wp2_with (first | (go_at_call 36; refine HN.out.mono ?_; rintro e w2 ⟨rfl, hb⟩; have HB := Aside0.mk hb; clear hb) | (go_at_call 35; refine (HK.out _ HB.out).mono ?_; rintro e w3 ⟨rfl, hb3⟩))
    go_ret2
    exact ⟨rfl, below_then HB.out HB.out.size hb3⟩
def gutterref05_Below.f (l0 : List (S32)) (a1 : Int) : Option (List Int × Int) := tree_Below.f l0 a1
set_option maxRecDepth 100000 in
theorem gutterref05_Below.calls (A0 : Option Addr) (c0 : Nat) (l0 : List (S32)) (a1 : Int) (r1 : List Int) (r2 : Int) (w : World) (hr0 : Kd.C k32 w A0 l0.length l0) (hc0 : l0.length ≤ c0) (h : gutterref05_Below.f l0 a1 = some (r1, r2)) :
    Calls Tryd.prog 24 #[.slice A0 l0.length c0, .int .i64 a1] w fun e w' => ∃ v0_ : Value, e = .returned (.tuple #[v0_, .int .i64 r2]) ∧ Kd.R (Kd.int .i64) 3 w' w.heap.size (fun _ => True) v0_ r1 ∧ Below w.heap.size w w' := by
  have _h0 := hc0
  have HN := Aside0.mk (rnode_any l0 A0 c0 a1 w hr0 hc0)
  have HC := Aside0.mk hr0
  clear hr0
  unfold gutterref05_Below.f tree_Below.f at h
  cases hI : errI l0 a1 with
  | some p =>
    obtain ⟨k, i⟩ := p
    have h2 := (errI_code hI).2
    have hne : errN l0 a1 ≠ 0 := by rw [h2]; omega
    rw [if_pos hne] at h
    simp only [Option.some.injEq, Prod.mk.injEq] at h
    obtain ⟨rfl, rfl⟩ := h
    clear h2 hI
    generalize errN l0 a1 = e0 at *
    go_enter Tryd.func24, Tryd.ntmps24
    go_wp2_with (first | (go_at_call 36; refine HN.out.mono ?_; rintro e w2 ⟨rfl, hb⟩))
    go_ret2
    exact ⟨_, rfl, Kd.R_nil _ _ _ _ _, hb⟩
  | none =>
    obtain ⟨hop, hn0, hn1, h2⟩ := errI_none hI
    rw [if_neg (by rw [h2]; simp)] at h
    rw [h2] at HN
    have hl := (open_none hop).2.1
    have hT := open_OKT hop
    have hroot := root_of hop
    obtain ⟨a, rfl⟩ : ∃ a : Nat, a1 = a := ⟨a1.toNat, by omega⟩
    by_cases hbl : (belowL l0 (a : Int)).length ≤ 1000
    case neg => rw [if_neg hbl] at h; cases h
    rw [if_pos hbl] at h
    simp only [Option.some.injEq, Prod.mk.injEq] at h
    obtain ⟨rfl, rfl⟩ := h
    have HK := Aside0.mk (fun w' (hb : Below w.heap.size w w') => rbelow_any l0 A0 c0 hl hT hroot _ a w' rfl (by omega) hbl (Kd.C_below HC.out hb))
    clear hbl
    go_enter Tryd.func24, Tryd.ntmps24
    go_wp2_with (first | (go_at_call 36; refine HN.out.mono ?_; rintro e w2 ⟨rfl, hb⟩; have HB := Aside0.mk hb; clear hb) | (go_at_call 38; refine (HK.out _ HB.out).mono ?_; rintro e w3 ⟨v, rfl, hi, hb3⟩))
    go_ret2
    exact ⟨v, rfl, ints_R hi HB.out.size, below_then HB.out HB.out.size hb3⟩
def gutterref05_Order.f (l0 : List (S32)) : Option (List Int × Int) := tree_Order.f l0
set_option maxRecDepth 100000 in
theorem gutterref05_Order.calls (A0 : Option Addr) (c0 : Nat) (l0 : List (S32)) (r1 : List Int) (r2 : Int) (w : World) (hr0 : Kd.C k32 w A0 l0.length l0) (hc0 : l0.length ≤ c0) (h : gutterref05_Order.f l0 = some (r1, r2)) :
    Calls Tryd.prog 22 #[.slice A0 l0.length c0] w fun e w' => ∃ v0_ : Value, e = .returned (.tuple #[v0_, .int .i64 r2]) ∧ Kd.R (Kd.int .i64) 3 w' w.heap.size (fun _ => True) v0_ r1 ∧ Below w.heap.size w w' := by
  have HA := Aside0.mk (gutterref05_Below.calls A0 c0 l0 0 r1 r2 w hr0 hc0 h)
  clear hr0 h
  go_enter Tryd.func22, Tryd.ntmps22
  go_wp2_with (first | (go_at_call 24; refine HA.out.mono ?_; rintro e w2 ⟨v, rfl, hi, hb⟩))
  go_ret2
  exact ⟨v, rfl, hi, hb⟩
end Go.Proofs.YtjafcgemgghbiaaDoor.G
