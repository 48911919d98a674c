/- Chapter 5: the reference's kids, below. Written by tmpl.py out of F25.tl. -/
import Derived.Test.YtjafcgemgghbiaaDoorF24
namespace Go.Proofs.YtjafcgemgghbiaaDoor.G
open Go.RowKit Go.Shelf Go.Maps Go.WideElems Go.MapKept Go.ChangeMaps Go.ChangeShapes Go.Proofs.YtjafcgemgghbiaaDoorW.PrintWords Go.Proofs.YtjafcgemgghbiaaDoorW.PrintLast Go.Proofs.YtjafcgemgghbiaaDoorW.PrintMore
attribute [local irreducible] cN
theorem ints_appended {w w1 : World} {base base' : Nat} {v v' v2 : Value} {zs zs2 : List Int} (h : w.ownsInts base 3 .i64 v zs) (h2 : w.ownsInts base' 3 .i64 v2 zs2)
    (hown : w1.ownsRow base 3 1 v' (zs.length + zs2.length) (zs.map (Value.int .i64) ++ zs2.map (Value.int .i64))) : w1.ownsInts base 3 .i64 v' (zs ++ zs2) := by
  refine ⟨by simpa using hown, fun z hz => ?_⟩
  rcases List.mem_append.1 hz with hz | hz
  · exact h.2 z hz
  · exact h2.2 z hz
theorem ints_one (w : World) (base : Nat) (z : Int) (hb : base ≤ w.heap.size) (hz : (Lit.int .i64 z).wf = true) : (w.alloc (.cells #[.int .i64 z] 3)).ownsInts base 3 .i64 (.slice (some ⟨w.heap.size, 0, none⟩) 1 1) [z] :=
  ⟨World.ownsRow_lit w #[.int .i64 z] 1 hb (by unfold maxLen; omega) rfl, fun x hx => by cases List.mem_singleton.1 hx; exact hz⟩
theorem ints_below {w w' : World} {base : Nat} {v : Value} {zs : List Int} (h : w.ownsInts base 3 .i64 v zs) (hb : Below w.heap.size w w') : w'.ownsInts base 3 .i64 v zs :=
  ints_pt h fun g hg => hb.block g ((h.1.lt g hg).2)
set_option maxHeartbeats 1000000 in
set_option maxRecDepth 100000 in
theorem rkids_any (t : List Node) (A0 : Option Addr) (c0 : Nat) (n : Int) (w : World) (hlen : t.length ≤ 200) (h0 : 0 ≤ n) (hroot : 0 < t.length → (t.getD 0 zN).f0 = -1) (hc : kN.C w A0 t.length t) :
    Calls Tryd.prog 37 #[.slice A0 t.length c0, .int .i64 n] w fun e w' => ∃ v, e = .returned v ∧ w'.ownsInts w.heap.size 3 .i64 v (kidsL t t.length n) ∧ Below w.heap.size w w' := by
  obtain ⟨i0, hi0, hz0, hz1, hz2⟩ := info_parts info3
  have HC := Aside0.mk hc
  have HR := Aside0.mk hroot
  clear hc hroot
  go_enter Tryd.func37, Tryd.ntmps37
  go_wp2
  go_loopw [5, 6] (fun v i wr => ∃ k : Nat, i = .int .i64 k ∧ k ≤ t.length ∧ Aside0 (wr.ownsInts w.heap.size 3 .i64 v (kidsL t k n)) ∧ Aside0 (Below w.heap.size w wr)) (fun _ i _ => t.length - (intZ i).toNat)
  case atStart => exact ⟨0, rfl, Nat.zero_le _, ⟨World.ownsInts_nil _ _ _ _⟩, ⟨Below.refl ..⟩⟩
  case round =>
    obtain ⟨k, rfl, hk, HO, HB⟩ := hrel
    by_cases hlt : k < t.length
    · have hlt' : (k : Int) < t.length := by omega
      obtain ⟨ad, M, rfl, hM, hr⟩ := node_at (Kd.C_below HC.out HB.out) k hlt
      have g0 := ranges_first hr hM.c0
      have hs := kidsL_succ t k n
      have hkl := kidsL_len t k n
      clear hM hr
      by_cases hf : (t.getD k zN).f0 = n
      · have hk0 : 0 < k := by
          by_cases e : k = 0
          · subst e; rw [HR.out (by omega)] at hf; omega
          · omega
        rw [if_pos ⟨hk0, hf⟩] at hs
        rw [hf] at g0
        clear hf
        obtain ⟨zs, hz⟩ : ∃ zs, kidsL t k n = zs := ⟨_, rfl⟩
        rw [hz] at hs hkl HO
        clear hz
        replace hs := Aside0.mk hs
        have hsz := HB.out.size
        go_wp2_with (first | (at_builtin; go_loud (refine wpList_append_own_at _ rfl _ _ 25 rfl w.heap.size 3 i0 (.int .i64 0) 1 8 Tryd.underlying25 hi0 hz0 hz1 hz2 rfl (by decide) _ _ _ rfl (HO.out.1.alloc _) ⟨wr.heap.size, 0, none⟩ 1 1 [.int .i64 k] rfl rfl (cell_one_new _ _ _) (ints_oneCell .i64 [(k : Int)]) (by unfold maxLen; omega) (by omega) (by simp; omega) ?_; intro v' w5 hown' hgrow _ hloc; have HO5 := Aside0.mk (HO.out.appended (by simpa using hown') (wf64 (z := (k : Int)) (by omega) (by omega))); have HB5 := Aside0.mk ((below_alloc HB.out _).grown hgrow (by simp; omega) (fun j e => (HO.out.1.lt j e).1)); clear hown' hgrow hloc)))
        refine ⟨⟨k + 1, by go_num, by omega, ⟨?_⟩, HB5⟩, by simp [intZ]; omega⟩
        rw [hs.out]
        exact HO5.out
      · rw [if_neg (fun h => hf h.2), List.append_nil] at hs
        generalize (t.getD k zN).f0 = f at g0 hf
        go_wp2
        refine ⟨⟨k + 1, by go_num, by omega, ⟨?_⟩, HB⟩, by simp [intZ]; omega⟩
        rw [hs]
        exact HO.out
    · have hke : k = t.length := by omega
      subst hke
      go_wp2
      go_ret
      exact ⟨_, rfl, HO.out, HB.out⟩
set_option maxHeartbeats 1000000 in
set_option maxRecDepth 100000 in
theorem rbelow_any (t : List Node) (A0 : Option Addr) (c0 : Nat) (hlen : t.length ≤ 200) (hT : OKT t) (hroot : 0 < t.length → (t.getD 0 zN).f0 = -1) : ∀ (d n : Nat) (w : World), d = t.length - n → n < t.length → (belowL t n).length ≤ 1000 → kN.C w A0 t.length t →
    Calls Tryd.prog 38 #[.slice A0 t.length c0, .int .i64 n] w fun e w' => ∃ v, e = .returned v ∧ w'.ownsInts w.heap.size 3 .i64 v (belowL t n) ∧ Below w.heap.size w w' := by
  intro d
  obtain ⟨i0, hi0, hz0, hz1, hz2⟩ := info_parts info3
  induction d using Nat.strongRecOn with
  | ind d ih =>
    intro n w hd hn hbl hc
    have IH := Aside0.mk ih
    have HE := Aside0.mk (belowL_eq hT (n := (n : Int)) (by omega) (by omega))
    have HM := Aside0.mk (fun x (hx : x ∈ kidsL t t.length n) => (by
      obtain ⟨m, rfl, h1, h2, h3⟩ := kidsL_mem hx
      have := hT m h1 h2
      exact ⟨m, rfl, by omega, h2⟩ : ∃ m : Nat, x = m ∧ n < m ∧ m < t.length))
    have HC := Aside0.mk hc
    have hwfn := Aside0.mk (wf64 (z := (n : Int)) (by omega) (by omega))
    have HK := Aside0.mk (fun w' (hb : Below w.heap.size w w') => rkids_any t A0 c0 n w' hlen (by omega) hroot (Kd.C_below hc hb))
    clear ih hc
    have hkl := kidsL_len t t.length n
    generalize kidsL t t.length n = L at *
    have hB1 := Aside0.mk (below_alloc (Below.refl w.heap.size w) (.cells #[.int .i64 n] 3))
    have hO1 := Aside0.mk (ints_one w w.heap.size n (Nat.le_refl _) hwfn.out)
    go_enter Tryd.func38, Tryd.ntmps38
    go_wp2_with (first | (go_at_call 37; refine (HK.out _ hB1.out).mono ?_; rintro e w2 ⟨v, rfl, hi, hb⟩; obtain ⟨Al, cl, rfl, hcl, hA⟩ := ints_shape2 hi; have HI := Aside0.mk hi; have HB2 := Aside0.mk hb; replace hA := Aside0.mk hA; clear hi hb))
    have hsz1 : (w.alloc (.cells #[.int .i64 n] 3)).heap.size = w.heap.size + 1 := by simp
    go_loopw [5, 7] (fun v i wr => ∃ k : Nat, i = .int .i64 k ∧ k ≤ L.length ∧ Aside0 (wr.ownsInts w.heap.size 3 .i64 v ((n : Int) :: (L.take k).flatMap (belowL t))) ∧ Aside0 (wr.ownsInts (w.heap.size + 1) 3 .i64 (.slice Al L.length cl) L) ∧ Aside0 (∀ g, v.ownBlock = some g → (Value.slice Al L.length cl).ownBlock ≠ some g) ∧ Aside0 (Below w.heap.size w wr)) (fun _ i _ => L.length - (intZ i).toNat)
    case atStart =>
      refine ⟨0, rfl, Nat.zero_le _, ⟨ints_below hO1.out HB2.out⟩, ⟨by rw [← hsz1]; exact HI.out⟩, ⟨fun g hg e => ?_⟩, ⟨below_then hB1.out hB1.out.size HB2.out⟩⟩
      cases hg
      have h2 := (HI.out.1.lt _ e).1
      simp at h2
      omega
    case round =>
      obtain ⟨k, rfl, hk, HO, HL, HA, HB⟩ := hrel
      by_cases hlt : k < L.length
      · have hlt' : (k : Int) < L.length := by omega
        obtain ⟨gl, rfl⟩ := hA.out (by omega)
        have hcell := ints_cell HL.out k hlt
        obtain ⟨m, hm, hnm, hmt⟩ := HM.out (L.getD k 0) (by rw [List.getD_eq_getElem?_getD, List.getElem?_eq_getElem hlt]; exact List.getElem_mem _)
        rw [hm] at hcell
        have htk : L.take (k + 1) = L.take k ++ [(m : Int)] := by
          rw [List.take_add_one, List.getElem?_eq_getElem hlt]
          rw [List.getD_eq_getElem?_getD, List.getElem?_eq_getElem hlt] at hm
          simp only [Option.getD_some] at hm
          rw [hm]; rfl
        have hfl : (L.take (k + 1)).flatMap (belowL t) = (L.take k).flatMap (belowL t) ++ belowL t m := by
          rw [htk, List.flatMap_append]; simp
        have htot : ((L.take k).flatMap (belowL t)).length + (belowL t m).length ≤ 999 := by
          have h1 : (belowL t n).length = 1 + ((L.take (k + 1)).flatMap (belowL t)).length + ((L.drop (k + 1)).flatMap (belowL t)).length := by
            rw [HE.out]
            conv => lhs; rw [← List.take_append_drop (k + 1) L, List.flatMap_append]
            simp; omega
          rw [hfl, List.length_append] at h1
          omega
        have HI2 := Aside0.mk (IH.out (t.length - m) (by omega) m wr rfl hmt (by omega) (Kd.C_below HC.out HB.out))
        have hpos := belowF_pos t t.length m
        rw [show belowF t t.length m = belowL t m from rfl] at hpos
        clear htk hm
        generalize belowL t m = Z at *
        obtain ⟨P, hP⟩ : ∃ P, (n : Int) :: (L.take k).flatMap (belowL t) = P := ⟨_, rfl⟩
        have hPl : P.length = 1 + ((L.take k).flatMap (belowL t)).length := by rw [← hP]; simp; omega
        rw [hP] at HO
        have hfl' := Aside0.mk (show (n : Int) :: (L.take (k + 1)).flatMap (belowL t) = P ++ Z by rw [hfl, ← hP]; rfl)
        clear hfl hP
        generalize ((L.take k).flatMap (belowL t)).length = q at *
        have hsz := HB.out.size
        go_wp2_with (first | (go_at_call 38; refine HI2.out.mono ?_; rintro e w2 ⟨v2, rfl, hi2, hb2⟩; obtain ⟨A2, c2, rfl, hc2, hA2⟩ := ints_shape2 hi2; obtain ⟨g2, rfl⟩ := hA2 (by omega); have HI3 := Aside0.mk hi2; have hs2 := hb2.size; have HO2 := Aside0.mk (ints_below HO.out hb2); have HL2 := Aside0.mk (ints_below HL.out hb2); have HB3 := Aside0.mk (below_then HB.out HB.out.size hb2); clear hi2 hb2 hA2) | (at_builtin; go_loud (refine wpList_append_own_at _ rfl _ _ 25 rfl w.heap.size 3 i0 (.int .i64 0) 1 8 Tryd.underlying25 hi0 hz0 hz1 hz2 rfl (by decide) _ _ _ rfl HO2.out.1 ⟨g2, 0, none⟩ Z.length c2 (Z.map (Value.int .i64)) rfl (by simp) (HI3.out.1.cells rfl) (ints_oneCell .i64 Z) (by unfold maxLen; omega) (by omega) (by omega) ?_; intro v' w5 hown' hgrow _ hloc; have HO5 := Aside0.mk (ints_appended HO2.out HI3.out hown'); have HB5 := Aside0.mk (HB3.out.grown hgrow (by omega) (fun j e => (HO2.out.1.lt j e).1)); have HL5 := Aside0.mk (HL2.out.kept hgrow (.inr (fun e => HA.out gl e.symm rfl))); replace hloc := Aside0.mk hloc; clear hown' hgrow)))
        refine ⟨⟨k + 1, by go_num, by omega, ⟨by rw [hfl'.out]; exact HO5.out⟩, HL5, ⟨fun g hg e => ?_⟩, HB5⟩, by simp [intZ]; omega⟩
        rcases hloc.out with h | h
        · rw [h] at hg; exact HA.out g hg e
        · rw [h] at hg; cases hg
          have := (HL.out.1.lt _ e).2
          omega
      · have hke : k = L.length := by omega
        subst hke
        go_wp2
        go_ret
        refine ⟨_, rfl, ?_, HB.out⟩
        rw [HE.out]
        have := HO.out
        rw [List.take_length] at this
        exact this
end Go.Proofs.YtjafcgemgghbiaaDoor.G
