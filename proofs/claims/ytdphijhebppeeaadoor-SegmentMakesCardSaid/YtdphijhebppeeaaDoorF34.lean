/- Chapter 16: a node's segments. Written by tmpl.py out of F34.tl. -/
import Derived.Test.YtdphijhebppeeaaDoorF33
import Derived.Test.YtdphijhebppeeaaDoorF32
namespace Go.Proofs.YtdphijhebppeeaaDoor.G
open Go.RowKit Go.Shelf Go.Maps Go.Proofs.YtdphijhebppeeaaDoorW.PrintWords Go.Proofs.YtdphijhebppeeaaDoorW.PrintLast Go.Proofs.YtdphijhebppeeaaDoorW.PrintMore
attribute [local irreducible] cN
def segsL (t : List Node) (L : List Int) : List S40 := L.foldl (fun l k => joinL l (spanP t k.toNat) k) []
theorem segsL_snoc (t : List Node) (L : List Int) (k : Int) : segsL t (L ++ [k]) = joinL (segsL t L) (spanP t k.toNat) k := by
  unfold segsL
  rw [List.foldl_append]
  rfl
theorem joinL_len (l : List S40) (sp : Bool) (k : Int) : (joinL l sp k).length ≤ l.length + 1 := by
  unfold joinL
  split
  · rw [List.length_set]; omega
  · rw [List.length_append]; simp
theorem joinL_el {l : List S40} {n : Nat} (sp : Bool) (k : Int) (h : ∀ x ∈ l, x.f1.length ≤ n) : ∀ x ∈ joinL l sp k, x.f1.length ≤ n + 1 := by
  unfold joinL
  split
  · rename_i hj
    have hp : 0 < l.length := by
      unfold joinAt at hj
      rw [Bool.and_eq_true] at hj
      exact of_decide_eq_true hj.1
    intro x hx
    rcases List.mem_or_eq_of_mem_set hx with hx | rfl
    · have := h x hx; omega
    · have hm : rd_T40 l ((l.length - 1 : Nat) : Int) ∈ l := by
        unfold rd_T40
        rw [Int.toNat_natCast, List.getD_eq_getElem?_getD, List.getElem?_eq_getElem (by omega)]
        exact List.getElem_mem _
      have := h _ hm
      rw [List.length_append, List.length_singleton]
      omega
  · intro x hx
    rcases List.mem_append.1 hx with hx | hx
    · have := h x hx; omega
    · rw [List.mem_singleton] at hx
      subst hx
      simp
theorem segsL_bound (t : List Node) (L : List Int) : (segsL t L).length ≤ L.length ∧ ∀ x ∈ segsL t L, x.f1.length ≤ L.length := by
  induction L using snoc_ind' with
  | h0 => exact ⟨Nat.le_refl _, fun x hx => by cases hx⟩
  | h1 L k ih =>
    rw [segsL_snoc, List.length_append, List.length_singleton]
    exact ⟨Nat.le_trans (joinL_len _ _ _) (by omega), joinL_el _ _ ih.2⟩
def segsE (t : List Node) (n : Int) : Int := if segE t n ≠ 0 then segE t n else if (t.getD n.toNat zN).f1 = 4 then 0 else 150
def segment_Segs.f (l0 : List (S31)) (a1 : Int) : Option ((List (S40)) × Int) := if segsE l0 a1 ≠ 0 then some ([], segsE l0 a1) else some (segsL l0 (kidsL l0 l0.length a1), 0)
theorem S_nil40 (w : World) (base : Nat) : Kd.S k40 40 w base (fun _ => True) (.slice none 0 0) [] := Kd.S_nil _ _ _ _ _
set_option maxRecDepth 100000 in
set_option maxHeartbeats 2000000 in
theorem segment_Segs.calls (A0 : Option Addr) (c0 : Nat) (l0 : List (S31)) (a1 : Int) (r1 : List (S40)) (r2 : Int) (w : World) (hr0 : Kd.C k31 w A0 l0.length l0) (hc0 : l0.length ≤ c0) (h : segment_Segs.f l0 a1 = some (r1, r2)) (hG : GOK w) :
    Calls Tryd.prog 13 #[.slice A0 l0.length c0, .int .i64 a1] w fun e w' => ∃ v0_ : Value, e = .returned (.tuple #[v0_, .int .i64 r2]) ∧ Kd.S k40 40 w' w.heap.size (fun _ => True) v0_ r1 ∧ Below w.heap.size w w' := by
  have _h0 := hc0
  have HA := Aside0.mk (sat_any l0 A0 c0 a1 _ hr0 hc0 hG)
  have HC := Aside0.mk hr0
  have HG := Aside0.mk hG
  clear hr0 hG
  unfold segment_Segs.f at h
  by_cases hE : segE l0 a1 = 0
  · obtain ⟨hop, hn0, hn1⟩ := segE_zero hE
    obtain ⟨a, rfl⟩ : ∃ a : Nat, a1 = a := ⟨a1.toNat, by omega⟩
    have hl := (open_none hop).2.1
    have HE := Aside0.mk hE
    have hEs : segsE l0 (a : Int) = if (l0.getD a zN).f1 = 4 then 0 else 150 := by unfold segsE; rw [if_neg (by rw [hE]; simp), Int.toNat_natCast]
    obtain ⟨ad, M, rfl, hM, hr⟩ := node_at HC.out a (by omega)
    have HR := Aside0.mk hr
    have hc1 := hM.c1
    obtain ⟨kd, hkd⟩ : ∃ kd, (l0.getD a zN).f1 = kd := ⟨_, rfl⟩
    rw [hkd] at hEs hc1
    have HC1 := Aside0.mk hc1
    clear hM hr hkd hc1
    by_cases h4 : kd = 4
    · rw [if_pos h4] at hEs
      rw [if_neg (by rw [hEs]; simp)] at h
      simp only [Option.some.injEq, Prod.mk.injEq] at h
      obtain ⟨rfl, rfl⟩ := h
      subst h4
      have hEn : errN l0 (a : Int) = 0 := by unfold errN; rw [hop]; exact if_neg (by omega)
      have hkf : tree_Kids.f l0 (a : Int) = some (kidsL l0 l0.length a, 0) := by unfold tree_Kids.f; rw [if_neg (by rw [hEn]; simp)]
      have hkm : ∀ x ∈ kidsL l0 l0.length (a : Int), ∃ m : Nat, x = m ∧ m < l0.length := fun x hx => by
        obtain ⟨m, rfl, _, h2, _⟩ := kidsL_mem hx
        exact ⟨m, rfl, h2⟩
      have hkl := kidsL_len l0 l0.length (a : Int)
      obtain ⟨L, hL⟩ : ∃ L, kidsL l0 l0.length (a : Int) = L := ⟨_, rfl⟩
      rw [hL] at hkf hkm hkl ⊢
      have HKf := Aside0.mk hkf
      have HKm := Aside0.mk hkm
      clear hkf hkm hL hEs hEn hop hE
      go_enter Tryd.func13, Tryd.ntmps13
      go_upto_region 2 with (first | (go_at_call 28; refine HA.out.mono ?_; rintro e w2 hq; rw [SAtPost, if_pos HE.out] at hq; obtain ⟨g, m, rfl, hCl, hB⟩ := hq; have HB := Aside0.mk hB; have z0 := cell_at hCl.cells 0 rfl; have g1 := ranges_at (ranges_below HR.out hB) 0 HC1.out; clear hCl hB))
      go_upto_region 7 with (first | (go_at_call 14; refine (tree_Kids.calls (some ad) l0.length l0 a L 0 _ (Kd.C_below HC.out HB.out) (Nat.le_refl _) HKf.out (HG.out.below HB.out)).mono ?_; rintro e w3 ⟨v, rfl, ho, hb3⟩; obtain ⟨Ak, ck, rfl⟩ := Kd.R_slice ho; have HO := Aside0.mk (Kd.R_reads' ho).2.2; have HB3 := Aside0.mk (below_then HB.out HB.out.size hb3); clear ho hb3))
      clear z0 g1
      go_wp2
      go_loopw [10, 47] (fun v i wr => ∃ j : Nat, i = .int .i64 j ∧ j ≤ L.length ∧ Aside0 (Kd.S k40 40 wr w3.heap.size (fun _ => True) v (segsL l0 (L.take j))) ∧ Aside0 (Below w3.heap.size w3 wr)) (fun _ i _ => L.length - (intZ i).toNat)
      case atStart => exact ⟨0, rfl, Nat.zero_le _, ⟨S_nil40 _ _⟩, ⟨Below.refl _ _⟩⟩
      case round =>
        obtain ⟨j, rfl, hj, HS, HBr⟩ := hrel
        by_cases hlt : j < L.length
        · have hlt' : (j : Int) < L.length := by omega
          obtain ⟨ak, c, rfl, _, hK, hc⟩ := Kd.C_get (Kd.C_below HO.out HBr.out) 0 (j : Int) (by omega) (by omega)
          have hK' : c = [.int .i64 (L.getD (j : Int).toNat 0)] := hK
          subst hK'
          have gj := hc 0 _ rfl
          rw [Int.toNat_natCast, show (Kd.int .i64).sz = 1 from rfl, Nat.mul_one, Nat.add_zero] at gj
          obtain ⟨m', hm, hml⟩ := HKm.out (L.getD j 0) (by rw [List.getD_eq_getElem?_getD, List.getElem?_eq_getElem hlt]; exact List.getElem_mem _)
          rw [hm] at gj
          have htk : L.take (j + 1) = L.take j ++ [(m' : Int)] := by
            rw [List.take_add_one, List.getElem?_eq_getElem hlt]
            rw [List.getD_eq_getElem?_getD, List.getElem?_eq_getElem hlt] at hm
            simp only [Option.getD_some] at hm
            rw [hm]; rfl
          obtain ⟨ad', Mk, eA, hMk, hrk⟩ := node_at (Kd.C_below HC.out (below_then HB3.out HB3.out.size HBr.out)) m' hml
          cases eA
          have g16 := ranges_at hrk 15 hMk.c16
          have hsp : spanP l0 m' = (l0.getD m' zN).f5.f11 := rfl
          obtain ⟨sp, hs⟩ : ∃ sp, (l0.getD m' zN).f5.f11 = sp := ⟨_, rfl⟩
          rw [hs] at g16 hsp
          have htk2 : segsL l0 (L.take (j + 1)) = joinL (segsL l0 (L.take j)) sp m' := by rw [htk, segsL_snoc, Int.toNat_natCast, hsp]
          have hm1 : (m' : Int) < l0.length := by omega
          obtain ⟨b1, b2⟩ := segsL_bound l0 (L.take j)
          have hlt3 : (L.take j).length ≤ 200 := by rw [List.length_take]; omega
          have HTK := Aside0.mk htk2
          clear htk htk2 hm hMk hrk hs hsp hc hK
          have hz3 := HBr.out.size
          have HJ := Aside0.mk (join_any ((wr.alloc (.cells #[.int .i64 m'] 3)).alloc (.cells #[.bool sp, .slice (some ⟨wr.heap.size, 0, none⟩) 1 1] 40)) w3.heap.size (by simp; omega) u10 (segsL l0 (L.take j)) sp m' (wr.heap.size + 1) wr.heap.size (Kd.S_alloc (Kd.S_alloc HS.out _) _) (by omega) (fun x hx => Nat.le_trans (b2 x hx) (by omega))
            (by have := blk_new (wr.alloc (.cells #[.int .i64 m'] 3)) (.cells #[.bool sp, .slice (some ⟨wr.heap.size, 0, none⟩) 1 1] 40); simpa using this) (blk_alloc (blk_new wr _) _))
          clear b1 b2 hlt3 hz3
          go_wp2_with (first | (go_at_call 33; refine HJ.out.mono ?_; rintro e w5 ⟨v', rfl, hS5, hB5⟩; have HS5 := Aside0.mk hS5; have HB5 := Aside0.mk hB5; clear hS5 hB5))
          refine ⟨⟨j + 1, by go_num, by omega, ⟨by rw [HTK.out]; exact HS5.out⟩, ⟨?_⟩⟩, by simp [intZ]; omega⟩
          exact (below_alloc (below_alloc HBr.out _) _).trans HB5.out
        · have hje : j = L.length := by omega
          subst hje
          go_wp2
          go_ret2
          refine ⟨_, rfl, ?_, below_then HB3.out HB3.out.size HBr.out⟩
          have := Kd.S_lower HS.out HB3.out.size
          rw [List.take_length] at this
          exact this
    · rw [if_neg h4] at hEs
      rw [hEs, if_pos (by decide)] at h
      simp only [Option.some.injEq, Prod.mk.injEq] at h
      obtain ⟨rfl, rfl⟩ := h
      clear hEs hop hE
      go_enter Tryd.func13, Tryd.ntmps13
      go_wp2_with (first | (go_at_call 28; refine HA.out.mono ?_; rintro e w2 hq; rw [SAtPost, if_pos HE.out] at hq; obtain ⟨g, m, rfl, hCl, hB⟩ := hq; have HB := Aside0.mk hB; have g1 := ranges_at (ranges_below HR.out hB) 0 HC1.out; clear hCl hB) | (go_at_call 29; refine (stold_any _ _ (HG.out.below (by exact HB.out))).mono ?_; rintro e w3 ⟨rfl, hb3⟩))
      go_ret2
      exact ⟨_, rfl, S_nil40 _ _, below_then HB.out HB.out.size hb3⟩
  · have hEs : segsE l0 a1 = segE l0 a1 := by unfold segsE; rw [if_pos hE]
    rw [hEs, if_pos hE] at h
    simp only [Option.some.injEq, Prod.mk.injEq] at h
    obtain ⟨rfl, rfl⟩ := h
    have HE := Aside0.mk hE
    clear hEs hE
    go_enter Tryd.func13, Tryd.ntmps13
    go_wp2_with (first | (go_at_call 28; refine HA.out.mono ?_; rintro e w2 hq; rw [SAtPost, if_neg HE.out] at hq; obtain ⟨pp, rfl, hB⟩ := hq; have HB := Aside0.mk hB; clear hB) | (go_at_call 29; refine (stold_any _ w2 (HG.out.below (by exact HB.out))).mono ?_; rintro e w3 ⟨rfl, hb3⟩))
    go_ret2
    exact ⟨_, rfl, S_nil40 _ _, below_then HB.out HB.out.size hb3⟩
end Go.Proofs.YtdphijhebppeeaaDoor.G
