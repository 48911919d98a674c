/- Chapter 16: the iterator upwards. Written by tmpl.py out of F30.tl. -/
import Derived.Test.YtdphijhebppeeaaDoorF29
namespace Go.Proofs.YtdphijhebppeeaaDoor.G
open Go.RowKit Go.Shelf Go.Maps Go.WideElems Go.MapKept Go.ChangeMaps Go.ChangeShapes Go.Proofs.YtdphijhebppeeaaDoorW.PrintWords Go.Proofs.YtdphijhebppeeaaDoorW.PrintLast Go.Proofs.YtdphijhebppeeaaDoorW.PrintMore
attribute [local irreducible] cN
/-- The first node from n on upwards, but for the root, of which p is so. -/
def upFirst (t : List Node) (p : Nat → Bool) : Nat → Nat → Option Nat
  | 0, _ => none
  | f + 1, n => if n = 0 then none else if p n = true then some n else upFirst t p f (t.getD n zN).f0.toNat
theorem up_any (p : Addr) (n : Int) (w : World) : Calls Tryd.prog 48 #[.pointer (some p), .int .i64 n] w fun e w' => e = .returned (.func (.func 61) #[] #[.pointer (some ⟨w.heap.size + 1, 0, none⟩), .pointer (some ⟨w.heap.size, 0, none⟩)]) ∧ w' = (w.alloc (.cells #[.pointer (some p)] 49)).alloc (.cells #[.int .i64 n] 3) := by
  go_enter Tryd.func48, Tryd.ntmps48
  go_wp2
  go_ret
  exact ⟨by simp, rfl⟩
theorem still_loadN {o : Oper} {a : Act} {w : World} (x : Operand) (ho : o.op = .load 31 x) (p : Addr) (hx : a.eval x = .pointer (some p)) (M : Array Value) (hM : M.size = 21) (hc : ranges w p M.toList) :
    (execOp a.eval o).run Tryd.prog w = .ok (.value (.agg M)) w := by
  unfold execOp
  have hl := run_loadVar_p (P := Tryd.prog) w p 31 M.toList _ hc Tryd.underlying31 rfl (by rw [infoN]; simp [hM])
  simp only [ho, hx, Instr.loadAt, Instr.sureAddr, Sem.run_bind, Sem.run_pure, Result.andThen_ok, hl]
theorem eWp_skip {P : Program} {o : Oper} {a : Act} {w : World} {next : Act → World → Prop} {w' : World} (hr : (execOp a.eval o).run P w = .ok .skip w') (h : next (a.put o.dst undef) w') : eWp P o a w next := by
  unfold eWp
  rw [hr]
  exact h
def todoN (wr : World) (Bn : Nat) : Nat := match wr.cell? ⟨Bn, 0, none⟩ with | some (.int _ z) => z.toNat | _ => 0
theorem frame32 (T : Array Value) (h : T.size = 32) : ∃ us : Nat → Value, T = #[us 0, us 1, us 2, us 3, us 4, us 5, us 6, us 7, us 8, us 9, us 10, us 11, us 12, us 13, us 14, us 15, us 16, us 17, us 18, us 19, us 20, us 21, us 22, us 23, us 24, us 25, us 26, us 27, us 28, us 29, us 30, us 31] := by
  refine ⟨fun j => T.getD j undef, ?_⟩
  have e : T = ((List.range 32).map fun j => T.getD j undef).toArray := by
    refine Array.ext (by simp [h]) fun i h1 h2 => ?_
    simp [h1]
  exact e
theorem Climb.put {w : World} {base g m k : Nat} {t : List Node} {A : Option Addr} (h : Climb w base g m t A k) (hk : k < maxLen) {n : Int} (hn : (Lit.int .i64 n).wf = true) (v : Value) :
    ∃ w2, (Instr.mapUpdate 62 (.map (some m)) (.int .i64 n) v).run Tryd.prog w = .ok () w2 ∧ Climb w2 base g m t A (k + 1) ∧ w.grownBy w2 (some m) := by
  obtain ⟨D, hD⟩ := h.map
  obtain ⟨w2, h1, h2, h3⟩ := hD.update law3 Tryd.underlying62 hk (key3 hn) (val := v) (d := .nil) (ps := []) rfl
  refine ⟨w2, h1, ⟨?_, ⟨_, h2⟩, h.gb, h.mb⟩, h3⟩
  refine (h3.block g (blk_lt h.cells) (fun e => ?_)).trans h.cells
  obtain ⟨es, clock, hm, _⟩ := hD
  have e2 : g = m := Option.some.inj e
  rw [← e2, h.cells] at hm
  cases hm
theorem Climb.same {w w' : World} {base g m k : Nat} {t : List Node} {A : Option Addr} (h : Climb w base g m t A k) (hg : w'.heap[g]? = w.heap[g]?) (hm : w'.heap[m]? = w.heap[m]?) : Climb w' base g m t A k :=
  ⟨hg.trans h.cells, by obtain ⟨D, es, clock, hb, hr⟩ := h.map; exact ⟨D, es, clock, hm.trans hb, hr⟩, h.gb, h.mb⟩
theorem upFirst_enough {t : List Node} (hT : OKT t) (p : Nat → Bool) : ∀ (f f' n : Nat), n < t.length → n < f → n < f' → upFirst t p f n = upFirst t p f' n
  | 0, _, n, _, h, _ => by omega
  | _ + 1, 0, n, _, _, h => by omega
  | f + 1, f' + 1, n, hn, h1, h2 => by
    rw [upFirst, upFirst]
    by_cases h0 : n = 0
    · rw [if_pos h0, if_pos h0]
    · rw [if_neg h0, if_neg h0]
      have := hT n (by omega) hn
      rw [upFirst_enough hT p f f' _ (by omega) (by omega) (by omega)]
attribute [local go_sem] Oper.semAt_some
set_option maxRecDepth 100000 in
set_option maxHeartbeats 4000000 in
theorem up_in (mF : Nat) (hm : 4 ≤ mF) (l Bn Bc g m : Nat) (t : List Node) (A : Option Addr) (hlen : t.length ≤ 200) (hT : OKT t) (p : Nat → Bool) (J : World → Prop) (X : Nat → World → Prop)
    (hC : ∀ W, J W → kN.C W A t.length t)
    (hJ2 : ∀ W1 W2 row, J W1 → W1.grownBy W2 row → (∀ x, row = some x → x = Bn ∨ x = m) → J W2)
    (hY : ∀ (n : Nat) W1, 0 < n → n < t.length → J W1 → YieldAt Fence.wide (mF - 1) Tryd.prog l #[.int .i64 n] W1 fun e W2 => (∀ x, x = Bn ∨ x = Bc ∨ x = g ∨ x = m → W2.heap[x]? = W1.heap[x]?) ∧ ((e = .returned (.bool true) ∧ p n = false ∧ J W2) ∨ (e = .returned (.bool false) ∧ p n = true ∧ X n W2)))
    (n : Nat) (hn : n < t.length) (W : World) (hJ : J W) (hBn : W.heap[Bn]? = some (.cells #[.int .i64 n] 3 (0, 0))) (hBc : W.heap[Bc]? = some (.cells #[.pointer (some ⟨g, 0, none⟩)] 49 (0, 0))) (base : Nat) (hCl : Climb W base g m t A 0) :
    CallsIn Fence.wide mF Tryd.prog 61 #[.func (.yield l) #[] #[], .pointer (some ⟨Bn, 0, none⟩), .pointer (some ⟨Bc, 0, none⟩)] W fun e W' => (∃ v, e = .returned v) ∧ (match upFirst t p (n + 1) n with | none => J W' | some k => X k W') := by
  have HJ := Aside0.mk hJ
  have HBn := Aside0.mk hBn
  have HBc := Aside0.mk hBc
  have HCl := Aside0.mk hCl
  clear hJ hBn hBc hCl
  refine callsIn_of_wp_marks Tryd.func61 rfl trivial ?_ rfl
  simp only [Tryd.ntmps61, List.size_toArray, List.length_cons, List.length_nil, Nat.reduceAdd, Nat.reduceSub, Array.replicate_succ, Array.replicate_zero, List.push_toArray, List.append_toArray, List.nil_append, List.cons_append]
  gi_wp2
  refine wpIn_scope_wide ?_
  gi_wp2
  refine wpIn_label ?_
  gi_wp2
  refine wpIn_loop (fun a wr => ∃ (k c : Nat), a.defers = [] ∧ a.tmps.size = 32 ∧ a.tmps.getD 0 undef = .func (.yield l) #[] #[] ∧ a.tmps.getD 1 undef = .pointer (some ⟨Bn, 0, none⟩) ∧ a.tmps.getD 2 undef = .pointer (some ⟨Bc, 0, none⟩) ∧
      k ≤ n ∧ c + k ≤ n ∧ Aside0 (J wr) ∧ Aside0 (wr.heap[Bn]? = some (.cells #[.int .i64 k] 3 (0, 0))) ∧ Aside0 (wr.heap[Bc]? = some (.cells #[.pointer (some ⟨g, 0, none⟩)] 49 (0, 0))) ∧ Aside0 (Climb wr base g m t A c) ∧ Aside0 (upFirst t p (k + 1) k = upFirst t p (n + 1) n)) (fun _ wr => todoN wr Bn) ?_ ?_
  · exact ⟨n, 0, rfl, rfl, rfl, rfl, rfl, Nat.le_refl _, by omega, HJ, HBn, HBc, HCl, ⟨rfl⟩⟩
  · clear HJ HBn HBc HCl
    rintro ⟨T, df⟩ wr ⟨k, c, hdf, hsz, s0, s1, s2, hk, hck, HJ, HBn, HBc, HCl, HE⟩
    dsimp only at hdf hsz s0 s1 s2
    obtain ⟨us, hu⟩ := frame32 T hsz
    have e0 : us 0 = .func (.yield l) #[] #[] := by rw [hu] at s0; exact s0
    have e1 : us 1 = .pointer (some ⟨Bn, 0, none⟩) := by rw [hu] at s1; exact s1
    have e2 : us 2 = .pointer (some ⟨Bc, 0, none⟩) := by rw [hu] at s2; exact s2
    rw [e0, e1, e2] at hu
    clear e0 e1 e2 s0 s1 s2 hsz
    subst hu
    subst hdf
    have hcn := cell_at HBn.out 0 rfl
    by_cases hk0 : k = 0
    · subst hk0
      have HE2 := HE.out
      rw [upFirst, if_pos rfl] at HE2
      replace HE2 := Aside0.mk HE2
      gi_wp2
      rw [Exit.noGoto_normal]
      exact ⟨_, results_none rfl _ _ _, ⟨_, rfl⟩, by rw [← HE2.out]; exact HJ.out⟩
    · have hkt : k < t.length := by omega
      have hkt' : (k : Int) < t.length := by omega
      have hkp : (k : Int) > 0 := by omega
      have HT0 := Aside0.mk hcn
      gi_upto_region 2 with fail
      refine wpIn_wide.2 ?_
      have DB : Below wr.heap.size wr wr.drew := below_drew (Below.refl _ _)
      obtain ⟨ad, M, rfl, hM, hr⟩ := node_at (Kd.C_below (hC _ HJ.out) DB) k hkt
      have y1 := blk_below HBc.out DB
      have y2 := (HCl.out.below DB).cells
      have y4 := blk_below HBn.out DB
      have z1 := cell_at y1 0 rfl
      have z2 := cell_at y2 0 rfl
      have z3 := cell_at y2 1 rfl
      have z4 := cell_at y4 0 rfl
      obtain ⟨w2, hrun, hCl2, hg2⟩ := (HCl.out.below DB).put (n := (k : Int)) (by unfold maxLen; omega) (wf64 (by omega) (by omega)) (.agg M)
      have hJd := hJ2 _ _ none HJ.out (grown_below DB) (fun x e => by cases e)
      obtain ⟨D, es, clock, hmm, _⟩ := (HCl.out.below DB).map
      have n1 : Bn ≠ m := fun e => by rw [← e, y4] at hmm; cases hmm
      have n2 : Bc ≠ m := fun e => by rw [← e, y1] at hmm; cases hmm
      have n3 : Bc ≠ Bn := fun e => by rw [e, y4] at y1; cases y1
      have n4 : g ≠ Bn := fun e => by rw [e, y4] at y2; cases y2
      clear hmm hcn
      refine region_lex 14 (D2 13 13 (fun w' => w' = wr.drew) (fun w' => w' = wr.drew)) (by kernel_rfl) (by kernel_rfl) (by kernel_rfl) (by kernel_rfl) ?_
      iterate 12 (apply lex_still (fun w' => w' = wr.drew) (by rfl) (D2_set (by decide) (by decide)) (D2_CA (by kernel_rfl)); (focus (intro w' hw'; rw [hw']; go_simp; all_goals rfl)); go_frame)
      refine lex_still (fun w' => w' = wr.drew) (by rfl) (D2_set (by decide) (by decide)) (D2_CA (by kernel_rfl)) (v := .agg M) (fun w' hw' => by rw [hw']; exact still_loadN _ rfl (ad.add (k * 21)) rfl M hM.size hr) ?_
      go_frame
      refine lex_turn (by kernel_rfl) ⟨fun _ => rfl, fun _ => rfl⟩ (by rfl) (by rfl) ?_
      refine eWp_update _ _ _ _ rfl rfl rfl rfl hrun ?_
      go_frame
      refine lex_nil (D2_done (by kernel_rfl) (by kernel_rfl)) ?_
      have hBn2 := (hg2.block Bn (blk_lt y4) (fun e => n1 (Option.some.inj e))).trans y4
      have hBc2 := (hg2.block Bc (blk_lt y1) (fun e => n2 (Option.some.inj e))).trans y1
      have hJ3 := hJ2 _ _ (some m) hJd hg2 (fun x e => .inr (Option.some.inj e).symm)
      have c1 := cell_at hBn2 0 rfl
      clear z1 z2 z3 z4 y1 y2 y4 hrun hg2 hJd hM hr HJ HBn HBc HCl DB
      obtain ⟨fn, tmps, assign, body, hy, hR⟩ := hY k w2 (by omega) hkt hJ3
      have HBn2 := Aside0.mk hBn2
      have HBc2 := Aside0.mk hBc2
      have HCl2 := Aside0.mk hCl2
      clear hBn2 hBc2 hCl2 hJ3
      gi_wp2
      refine ⟨fun _ => by omega, hR.mono ?_⟩
      rintro ev W3 ⟨hkeep, hres⟩
      have hBn3 := (hkeep Bn (.inl rfl)).trans HBn2.out
      have hBc3 := (hkeep Bc (.inr (.inl rfl))).trans HBc2.out
      have hCl3 := HCl2.out.same (hkeep g (.inr (.inr (.inl rfl)))) (hkeep m (.inr (.inr (.inr rfl))))
      have HE2 := HE.out
      rw [upFirst, if_neg hk0] at HE2
      clear hR hy hkeep HBn2 HBc2 HCl2 c1 HE
      rcases hres with ⟨rfl, hp, hj⟩ | ⟨rfl, hp, hx⟩
      · rw [if_neg (by rw [hp]; decide)] at HE2
        have hq := hT k (by omega) hkt
        obtain ⟨q, hfq⟩ : ∃ q : Nat, (t.getD k zN).f0 = q := ⟨(t.getD k zN).f0.toNat, by omega⟩
        rw [hfq] at hq
        rw [hfq, Int.toNat_natCast, upFirst_enough hT p k (q + 1) q (by omega) (by omega) (by omega)] at HE2
        replace HE2 := Aside0.mk HE2
        have HJ3 := Aside0.mk hj
        clear hj
        have DB : Below W3.heap.size W3 W3.drew := below_drew (Below.refl _ _)
        obtain ⟨ad', M, eA, hM, hr⟩ := node_at (Kd.C_below (hC _ HJ3.out) DB) k hkt
        cases eA
        have y1 := blk_below hBc3 DB
        have hCd := hCl3.below DB
        have y2 := hCd.cells
        have y4 := blk_below hBn3 DB
        have z0 := cell_at hBn3 0 rfl
        have z1 := cell_at y1 0 rfl
        have z2 := cell_at y2 0 rfl
        have z4 := cell_at y4 0 rfl
        have z5 := ranges_first hr hM.c0
        rw [hfq] at z5
        have zf := blk_frozen y4 0
        have hJd := hJ2 _ _ none HJ3.out (grown_below DB) (fun x e => by cases e)
        have HCd := Aside0.mk hCd
        have HJd := Aside0.mk hJd
        have Y1 := Aside0.mk y1
        have Y4 := Aside0.mk y4
        obtain ⟨hq0, hq1⟩ := hq
        clear hM hr HJ3 hCd hJd DB hfq
        gi_upto_region 1 with fail
        refine wpIn_wide.2 ?_
        refine region_lex 10 (D2 9 9 (fun w' => w' = W3.drew) (fun w' => w' = W3.drew)) (by kernel_rfl) (by kernel_rfl) (by kernel_rfl) (by kernel_rfl) ?_
        iterate 9 (apply lex_still (fun w' => w' = W3.drew) (by rfl) (D2_set (by decide) (by decide)) (D2_CA (by kernel_rfl)); (focus (intro w' hw'; rw [hw']; go_simp; all_goals rfl)); go_frame)
        refine lex_turn (by kernel_rfl) ⟨fun _ => rfl, fun _ => rfl⟩ (by rfl) (by rfl) ?_
        refine eWp_skip (w' := W3.drew.setCell ⟨Bn, 0, none⟩ (.int .i64 q)) (by go_simp) ?_
        go_frame
        refine lex_nil (D2_done (by kernel_rfl) (by kernel_rfl)) ?_
        have hS := grown_setCell W3.drew ⟨Bn, 0, none⟩ (.int .i64 q)
        have hnm : m ≠ Bn := fun e => by
          obtain ⟨D, es, clock, hb, _⟩ := HCd.out.map
          rw [e, Y4.out] at hb
          cases hb
        have b1 := blk_put Y4.out 0 (.int .i64 q) rfl
        refine ⟨⟨q, c + 1, rfl, rfl, rfl, rfl, rfl, by omega, by omega, ⟨hJ2 _ _ (some Bn) HJd.out hS (fun x e => .inl (Option.some.inj e).symm)⟩, ⟨b1⟩, ⟨(Below.heap_setCell _ _ _ Bc n3).trans Y1.out⟩, ⟨HCd.out.same (Below.heap_setCell _ _ _ g n4) (Below.heap_setCell _ _ _ m hnm)⟩, HE2⟩, ?_⟩
        have t1 : todoN (W3.drew.setCell ⟨Bn, 0, none⟩ (.int .i64 q)) Bn = q := by
          unfold todoN
          rw [cell_at b1 0 rfl]
          rfl
        rw [t1]
        have t2 : todoN wr Bn = k := by
          unfold todoN
          rw [HT0.out]
          rfl
        rw [t2]
        omega
      · rw [if_pos hp] at HE2
        replace HE2 := Aside0.mk HE2
        have HX := Aside0.mk hx
        clear hx
        gi_wp2
        rw [Exit.noGoto_normal]
        exact ⟨_, results_none rfl _ _ _, ⟨_, rfl⟩, by rw [← HE2.out]; exact HX.out⟩
end Go.Proofs.YtdphijhebppeeaaDoor.G
