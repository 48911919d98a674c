/- Chapter 16: join: one segment more. Written by tmpl.py out of F33.tl. -/
import Derived.Test.YtdphijhebppeeaaDoorF30
import Derived.LoopN
namespace Go.Proofs.YtdphijhebppeeaaDoor.G
open Go.RowKit Go.Shelf Go.Maps Go.Proofs.YtdphijhebppeeaaDoorW.PrintWords Go.Proofs.YtdphijhebppeeaaDoorW.PrintLast Go.Proofs.YtdphijhebppeeaaDoorW.PrintMore
theorem wrap_small (x : Int) (h0 : 0 ≤ x) (h1 : x ≤ 1000000) : IntKind.i64.wrap x = x := by
  have e : x % 18446744073709551616 = x := Int.emod_eq_of_lt h0 (by omega)
  unfold IntKind.wrap
  simp [IntKind.signed, IntKind.bits, e]
  omega
def joinAt (l : List S40) (sp : Bool) : Bool := decide (0 < l.length) && (!sp && !(rd_T40 l ((l.length - 1 : Nat) : Int)).f0)
def joinL (l : List S40) (sp : Bool) (k : Int) : List S40 :=
  if joinAt l sp = true then l.set (l.length - 1) ⟨(rd_T40 l ((l.length - 1 : Nat) : Int)).f0, (rd_T40 l ((l.length - 1 : Nat) : Int)).f1 ++ [k]⟩ else l ++ [⟨sp, [k]⟩]
set_option maxRecDepth 100000 in
set_option maxHeartbeats 2000000 in
theorem join_any (W : World) (base : Nat) (hbase : base ≤ W.heap.size) (lv : Value) (l : List S40) (sp : Bool) (k : Int) (mb kb : Nat) (hS : Kd.S k40 40 W base (fun _ => True) lv l) (hl : l.length ≤ 100000) (hlq : ∀ x ∈ l, x.f1.length ≤ 100000)
    (hmb : W.heap[mb]? = some (.cells #[.bool sp, .slice (some ⟨kb, 0, none⟩) 1 1] 40 (0, 0))) (hkb : W.heap[kb]? = some (.cells #[.int .i64 k] 3 (0, 0))) :
    Calls Tryd.prog 33 #[lv, .slice (some ⟨mb, 0, none⟩) 1 1] W fun e W' => ∃ v', e = .returned v' ∧ Kd.S k40 40 W' base (fun _ => True) v' (joinL l sp k) ∧ Below base W W' := by
  obtain ⟨Al, cl, rfl⟩ := Kd.S_slice hS
  obtain ⟨i0, hi0, hz0, hz1, hz2⟩ := info_parts info3
  have HS := Aside0.mk hS
  have HM := Aside0.mk hmb
  have HK := Aside0.mk hkb
  have m0 := cell_at hmb 0 rfl
  have m1 := cell_at hmb 1 rfl
  clear hS hmb hkb
  go_enter Tryd.func33, Tryd.ntmps33
  go_wp2
  refine wp_loop_rounds 2 ?_
  rw [rounds_succ]
  go_upto_region 4 with fail
  have x0 := cell_at (blk_new W (.cells #[.bool sp, .slice (some ⟨kb, 0, none⟩) 1 1] 40)) 0 rfl
  have x1 := cell_at (blk_new W (.cells #[.bool sp, .slice (some ⟨kb, 0, none⟩) 1 1] 40)) 1 rfl
  have hB1 := below_alloc (Below.refl W.heap.size W) (.cells #[.bool sp, .slice (some ⟨kb, 0, none⟩) 1 1] 40)
  have hS1 := Kd.S_alloc HS.out (.cells #[.bool sp, .slice (some ⟨kb, 0, none⟩) 1 1] 40)
  have hK1 := blk_alloc HK.out (.cells #[.bool sp, .slice (some ⟨kb, 0, none⟩) 1 1] 40)
  have hs1 : (W.alloc (.cells #[.bool sp, .slice (some ⟨kb, 0, none⟩) 1 1] 40)).heap.size = W.heap.size + 1 := by simp
  obtain ⟨W1, hW1⟩ : ∃ W1, W.alloc (.cells #[.bool sp, .slice (some ⟨kb, 0, none⟩) 1 1] 40) = W1 := ⟨_, rfl⟩
  rw [hW1] at x0 x1 hB1 hS1 hK1 hs1 ⊢
  clear hW1 m0 m1 HS HM HK
  have HB1 := Aside0.mk hB1
  have HS1 := Aside0.mk hS1
  have HK1 := Aside0.mk hK1
  have HZ1 := Aside0.mk hs1
  clear hB1 hS1 hK1 hs1
  go_upto_region 5 with fail
  go_cut [32] (fun c wx => c = .bool (joinAt l sp) ∧ wx = W1)
  case first =>
    rcases Nat.eq_zero_or_pos l.length with h0 | h0
    · have hj : joinAt l sp = false := by unfold joinAt; rw [decide_eq_false (by omega)]; rfl
      have h0' : ¬ (l.length : Int) > 0 := by omega
      replace hj := Aside0.mk hj
      clear h0
      go_wp2_with fail
      go_meet
      exact ⟨by rw [hj.out], rfl⟩
    · have h0' : (l.length : Int) > 0 := by omega
      obtain ⟨go, co, eo, _, _, _⟩ := Kd.S_form HS1.out (by omega)
      cases eo
      obtain ⟨oki, c, hcl, hM, hcc, _, _, _⟩ := Kd.S_elem HS1.out z40 ((l.length - 1 : Nat) : Int) (by omega) (by omega)
      obtain ⟨v1, rfl, _⟩ := k40_openM hM
      have g0 := hcc 0 _ rfl
      rw [Int.toNat_natCast, show k40.sz = 2 from rfl, Nat.add_zero] at g0
      replace g0 : W1.cell? ⟨go, (l.length - 1) * 2, none⟩ = some (.bool (rd_T40 l ((l.length - 1 : Nat) : Int)).f0) := g0
      have hj : joinAt l sp = (!sp && !(rd_T40 l ((l.length - 1 : Nat) : Int)).f0) := by unfold joinAt; rw [decide_eq_true (by omega)]; rfl
      obtain ⟨lf, hlf⟩ : ∃ lf, (rd_T40 l ((l.length - 1 : Nat) : Int)).f0 = lf := ⟨_, rfl⟩
      rw [hlf] at g0 hj
      replace hj := Aside0.mk hj
      have hw : wrap64 ((l.length : Int) - 1) = ((l.length - 1 : Nat) : Int) := by rw [i64_in (by omega) (by omega)]; omega
      clear hcc hM hcl hlf
      cases sp
      · cases lf
        all_goals
          go_wp2_with fail
          go_meet
          exact ⟨by rw [hj.out]; rfl, rfl⟩
      · go_wp2_with fail
        go_meet
        exact ⟨by rw [hj.out]; rfl, rfl⟩
  case rest =>
    obtain ⟨rfl, hwc⟩ := hcut
    rw [hwc]
    clear hwc
    cases hj : joinAt l sp with
    | true =>
      have hJ : joinL l sp k = l.set (l.length - 1) ⟨(rd_T40 l ((l.length - 1 : Nat) : Int)).f0, (rd_T40 l ((l.length - 1 : Nat) : Int)).f1 ++ [k]⟩ := by unfold joinL; rw [if_pos hj]
      have hp : 0 < l.length := by
        unfold joinAt at hj
        rw [Bool.and_eq_true] at hj
        exact of_decide_eq_true hj.1
      replace hJ := Aside0.mk hJ
      clear hj
      have hSd := Kd.S_drew HS1.out
      obtain ⟨go, co, eo, hgb, hgl, _⟩ := Kd.S_form hSd hp
      cases eo
      obtain ⟨oki, c, hcl, hM, hcc, hfr, hoki, hH⟩ := Kd.S_elem hSd z40 ((l.length - 1 : Nat) : Int) (by omega) (by omega)
      obtain ⟨v1, rfl, hR⟩ := k40_openM hM
      have g1 := hcc 1 _ rfl
      rw [Int.toNat_natCast, show k40.sz = 2 from rfl] at g1
      rw [show l.getD (((l.length - 1 : Nat) : Int)).toNat z40 = rd_T40 l ((l.length - 1 : Nat) : Int) from rfl] at hR
      have hql : (rd_T40 l ((l.length - 1 : Nat) : Int)).f1.length ≤ 100000 := hlq _ (by
        unfold rd_T40
        rw [Int.toNat_natCast, List.getD_eq_getElem?_getD, List.getElem?_eq_getElem (by omega)]
        exact List.getElem_mem _)
      obtain ⟨q, hq⟩ : ∃ q, rd_T40 l ((l.length - 1 : Nat) : Int) = q := ⟨_, rfl⟩
      rw [hq] at hJ hR hql
      rw [show l.getD (((l.length - 1 : Nat) : Int)).toNat z40 = q from hq] at hH
      have hw : wrap64 ((l.length : Int) - 1) = ((l.length - 1 : Nat) : Int) := by rw [i64_in (by omega) (by omega)]; omega
      have hw2 : IntKind.i64.wrap ((l.length : Int) - 1) = ((l.length - 1 : Nat) : Int) := by rw [wrap_small _ (by omega) (by omega)]; omega
      have hlt : ((l.length - 1 : Nat) : Int) < (l.length : Int) := by omega
      obtain ⟨A1, c1, rfl⟩ := Kd.R_slice hR
      have hown := Kd.own_of_R hR
      have hBd : Below W1.heap.size W1 W1.drew := below_drew (Below.refl _ _)
      have x1d := pw_cell_below hBd x1
      have hKd := blk_below HK1.out hBd
      have hbd : base ≤ W1.drew.heap.size := by have := HZ1.out; have := hBd.size; omega
      have HBD := Aside0.mk hBd
      clear hcc hM hcl hq x0 x1 hBd
      go_upto_region 6 with fail
      refine region_lex 15 (D2 11 14 (fun w' => w' = W1.drew) (fun _ => True)) (by kernel_rfl) (by kernel_rfl) (by kernel_rfl) (by kernel_rfl) ?_
      iterate 8 (apply lex_still (fun _ => True) (by rfl) (D2_set (by decide) (by decide)) (fun _ _ => trivial); (focus (intro w' _; go_simp; all_goals rfl)); go_frame)
      apply lex_still (fun w' => w' = W1.drew) (by rfl) (D2_set (by decide) (by decide)) (D2_CB (by kernel_rfl)); (focus (intro w' hw'; rw [hw']; go_simp; all_goals rfl)); go_frame
      apply lex_still (fun _ => True) (by rfl) (D2_set (by decide) (by decide)) (fun _ _ => trivial); (focus (intro w' _; go_simp; all_goals rfl)); go_frame
      apply lex_still (fun w' => w' = W1.drew) (by rfl) (D2_set (by decide) (by decide)) (D2_CB (by kernel_rfl)); (focus (intro w' hw'; rw [hw']; go_simp; all_goals rfl)); go_frame
      refine lex_turn (by kernel_rfl) ⟨fun _ => trivial, fun _ => rfl⟩ (by rfl) (by rfl) ?_
      refine eWp_append _ _ 36 rfl base 3 i0 (.int .i64 0) 1 8 Tryd.underlying36 hi0 hz0 hz1 hz2 rfl (by decide) (.slice A1 q.f1.length c1) _ _ rfl hown ⟨kb, 0, none⟩ 1 1 [.int .i64 k] rfl rfl (ranges_blk hKd) (ints_oneCell .i64 [k]) (by unfold maxLen; omega) (by omega) hbd ?_
      intro v' w5 hown' hgrow hloc
      go_frame
      iterate 2 (apply lex_still (fun _ => True) (by rfl) (D2_set (by decide) (by decide)) (fun _ _ => trivial); (focus (intro w' _; go_simp; all_goals rfl)); go_frame)
      have hH5 := Kd.H_grown (Kd.H_widen hH) hgrow (fun z e => .inl (hR.1 z e))
      have newR : (Kd.int .i64).R 3 w5 base (fun z => oki z ∨ True ∧ W1.drew.heap.size ≤ z) v' (q.f1 ++ [k]) := Kd.R_of_own (enc := Value.int .i64) (h1 := fun _ => rfl) (by simpa [encs] using hown') (fun z hz => by
        rcases hloc with e | e
        · exact .inl (hR.1 z (e.symm.trans hz))
        · rw [hz] at e
          cases e
          exact .inr ⟨trivial, Nat.le_refl _⟩)
      obtain ⟨A6, c6, hv6⟩ := Kd.R_slice newR
      rw [List.length_append, List.length_singleton] at hv6
      subst hv6
      obtain ⟨hc5, hf5⟩ := Kd.H_at hH5 (by omega) (by omega)
      have g5 := hc5 1 _ rfl
      have f5 := hf5 1
      rw [Int.toNat_natCast, show k40.sz = 2 from rfl] at g5 f5
      obtain ⟨hS6, hg6⟩ := Kd.S_seg0 hH5 (by omega) (by omega) (seg := [.slice A6 (q.f1.length + 1) c6]) (j := 1) (show 2 ≤ 2 from Nat.le_refl _) (x' := ⟨q.f0, q.f1 ++ [k]⟩) (k40_mkM _ _ _ ⟨q.f0, q.f1 ++ [k]⟩ newR) (fun _ hk => hk)
      rw [Int.toNat_natCast, show k40.sz = 2 from rfl] at hS6 hg6
      refine lex_turn (by kernel_rfl) (D2_late (by kernel_rfl) trivial) (by rfl) (by rfl) ?_
      refine eWp_skip (w' := w5.setCell ⟨go, (l.length - 1) * 2 + 1, none⟩ (.slice A6 (q.f1.length + 1) c6)) (by go_simp) ?_
      go_frame
      refine lex_nil (D2_done (by kernel_rfl) (by kernel_rfl)) ?_
      have hB6 : Below base W (w5.setCell ⟨go, (l.length - 1) * 2 + 1, none⟩ (.slice A6 (q.f1.length + 1) c6)) := by
        have b1 := (HB1.out.mono hbase).trans (HBD.out.mono (by have := HZ1.out; omega))
        have b5 := b1.grown hgrow hbd (fun z e => (hown.lt z e).1)
        exact b5.grown hg6 (Nat.le_trans hbd hgrow.size) (fun z e => by cases e; exact hgb)
      have HS6 := Aside0.mk hS6
      have HB6 := Aside0.mk hB6
      clear hS6 hg6 hB6 g5 f5 hc5 hf5 newR hH5 hown' hgrow hloc hown hKd x1d hH hR hfr g1 hSd hgb hgl
      go_wp2
      rw [rounds_succ]
      go_wp2
      go_ret
      exact ⟨_, rfl, by rw [hJ.out]; exact HS6.out, HB6.out⟩
    | false =>
      have hJ : joinL l sp k = l ++ [⟨sp, [k]⟩] := by unfold joinL; rw [if_neg (by rw [hj]; decide)]
      replace hJ := Aside0.mk hJ
      clear hj
      have hRk : (Kd.int .i64).C W1 (some ⟨kb, 0, none⟩) 1 [k] := (Kd.R_reads' (Kd.R_of_own (enc := Value.int .i64) (h1 := fun _ => rfl) (xs := [k]) (base := 0) (e := 3) (ok := fun _ => True) (v := .slice (some ⟨kb, 0, none⟩) 1 1) ⟨rfl, .inr ⟨kb, 1, #[.int .i64 k], rfl, Nat.zero_le _, HK1.out, Nat.le_refl _, by unfold maxLen; omega, rfl, rfl⟩⟩ (fun _ _ => trivial))).2.2
      have HRk := Aside0.mk hRk
      clear hRk
      have hb1 : base ≤ W1.heap.size := by have := HZ1.out; omega
      have HLt := Aside0.mk (Kd.S_lt HS1.out)
      have HB0 := HB1
      have hmc := Aside0.mk (show (madeCells (Value.int .i64 0).cells (1 * 1)).toList = encs (Value.int .i64) [0] by simp [madeCells, encs, Value.cells])
      have HSb := Aside0.mk (Kd.S_mono (ok' := fun z => True ∧ ¬ (some z = (Value.slice (some ⟨W1.heap.size, 0, none⟩) 1 1).ownBlock)) (Kd.S_bound HS1.out) (fun z hz => ⟨trivial, fun e => by cases e; exact absurd hz.2.2.1 (Nat.lt_irrefl _)⟩))
      go_wp2_with (first
        | (at_make; (refine wpList_make_full W1 rfl (.tmp 49) (.tmp 49) 36 rfl W1.heap.size 3 i0 (.int .i64 0) 1 Tryd.underlying36 hi0 hz0 hz1 .i64 .i64 1 1 1 rfl rfl rfl rfl (by rw [hz2]; omega) (by unfold maxLen; omega) (Nat.le_refl _) ?_; intro w5 hown5 hg5; have HO5 := Aside0.mk (Kd.R_of_own (enc := Value.int .i64) (h1 := fun _ => rfl) (xs := [0]) (ok := fun _ => True) (by rw [hmc.out] at hown5; exact hown5) (fun _ _ => trivial)); have HB5 := Aside0.mk ((Below.refl W1.heap.size W1).grown hg5 (Nat.le_refl _) (fun z e => by cases e)); have x1' := pw_cell_below HB5.out x1; clear hown5 hg5))
        | ((with_reducible refine gate_builtin (b := .copy) (xs := #[.tmp 51, .tmp 53]) rfl ?_); (refine Kd.R_copy (enc := Value.int .i64) (h1 := fun _ => rfl) 0 (w0 := W1) W1.heap.size rfl (.tmp 51) (.tmp 53) 36 36 3 rfl Tryd.underlying36 (by rw [hi0]; simp [hz1]) (.slice (some ⟨W1.heap.size, 0, none⟩) 1 1) [0] [k] (some ⟨kb, 0, none⟩) 1 1 (fun _ => True) rfl rfl HO5.out (Kd.C_below HRk.out HB5.out) HB5.out HB5.out.size ?_; intro w6 ho6 hb6 _; have HO6 := Aside0.mk ho6; have HB6 := Aside0.mk hb6; have x0' := pw_cell_below HB6.out x0; clear ho6 hb6))
        | (at_builtin; (refine Kd.S_append k40 (w0 := W1) base rfl (.tmp 55) (.tmp 60) 33 40 (.agg #[.bool false, .slice none 0 0]) 32 rfl Tryd.underlying33 info40 rfl (by decide) (by omega) (.slice Al l.length cl) l ⟨sp, [k]⟩ [.bool sp, .slice (some ⟨W1.heap.size, 0, none⟩) 1 1] (fun _ => True) (fun z => some z = (Value.slice (some ⟨W1.heap.size, 0, none⟩) 1 1).ownBlock) rfl rfl (k40_mkM _ _ _ ⟨sp, [k]⟩ (Kd.R_lower (Kd.R_tight rfl HO6.out) hb1)) (fun z hz => ⟨trivial, fun e => by cases hz; exact absurd (HLt.out _ e.symm) (Nat.lt_irrefl _)⟩) (fun _ _ => trivial) (Kd.S_below HSb.out HB6.out) (HB6.out.mono hb1) (Nat.le_trans hb1 HB6.out.size) (by omega) ?_; intro v9 w9 ho9 hb9 hg9 _; have HO9 := Aside0.mk ho9; have HB9 := Aside0.mk hb9; clear ho9 hb9 hg9)))
      rw [rounds_succ]
      go_wp2
      go_ret
      exact ⟨_, rfl, by rw [hJ.out]; exact HO9.out, HB0.out.mono hbase |>.trans HB9.out⟩
end Go.Proofs.YtdphijhebppeeaaDoor.G
