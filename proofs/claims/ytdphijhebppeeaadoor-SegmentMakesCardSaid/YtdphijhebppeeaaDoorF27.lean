/- YtdphijhebppeeaaDoorF23, YtdphijhebppeeaaDoorF24, YtdphijhebppeeaaDoorF25, YtdphijhebppeeaaDoorF27: texts of ours, one behind the other. Put together by merge.py. -/
import Derived.Test.YtdphijhebppeeaaDoorF22
/- Chapter 5: the reference's is. Written by mkF23.py, tmpl.py. -/
namespace Go.Proofs.YtdphijhebppeeaaDoor.G
open Go.RowKit Go.Shelf Go.Maps Go.MapKept Go.ChangeMaps Go.ChangeShapes Go.Proofs.YtdphijhebppeeaaDoorW.PrintWords Go.Proofs.YtdphijhebppeeaaDoorW.PrintLast Go.Proofs.YtdphijhebppeeaaDoorW.PrintMore
attribute [local irreducible] cN
attribute [local go_sem] max2_int min2_int
theorem rstyR_any {x : Node} {S : Array Value} (h : StyleC x S) (w : World) : Calls Tryd.prog 70 #[.agg S] w fun e w' => e = .returned (.bool (styR x)) ∧ Below w.heap.size w w' := by
 rw [h.eq]; exact gutterref04_Right.calls x.f5.f0 x.f5.f1 x.f5.f2 x.f5.f3 x.f5.f4 x.f5.f5 x.f5.f6 x.f5.f7 x.f5.f8 x.f5.f9 x.f5.f10 x.f5.f11 x.f5.f12 x.f5.f13 x.f5.f14 x.f5.f15 (styR x) w rfl
theorem rstyM_any {x : Node} {S : Array Value} (h : StyleC x S) (w : World) : Calls Tryd.prog 71 #[.agg S] w fun e w' => e = .returned (.bool (styM x)) ∧ Below w.heap.size w w' := by
 rw [h.eq]; exact gutterref04_IsMulti.calls x.f5.f0 x.f5.f1 x.f5.f2 x.f5.f3 x.f5.f4 x.f5.f5 x.f5.f6 x.f5.f7 x.f5.f8 x.f5.f9 x.f5.f10 x.f5.f11 x.f5.f12 x.f5.f13 x.f5.f14 x.f5.f15 (styM x) w rfl
theorem callRR (args : Array Value) (w : World) : (callFunc 70 args).run Tryd.prog w = .ok (.enter 70 args) w := by
 go_simp
theorem callRM (args : Array Value) (w : World) : (callFunc 71 args).run Tryd.prog w = .ok (.enter 71 args) w := by
 go_simp
theorem callRF (args : Array Value) (w : World) : (callFunc 69 args).run Tryd.prog w = .ok (.enter 69 args) w := by
 go_simp
theorem q_loadN {ops : Array Oper} {C : World → Prop} {Q : Act → Prop} {a : Act} {o : Oper} {rest : List Oper} (hw : Region.wanted o (yielded ops a.tmps) = true) (x : Operand) (ho : o.op = .load 31 x) (p : Addr) (hx : a.eval x = .pointer (some p)) (S : Array Value) (hS : S.size = 21)
  (hc : ∀ w, C w → ranges w p S.toList) (hk : wpQuiet Tryd.prog ops C Q rest (a.put o.dst (.agg S))) : wpQuiet Tryd.prog ops C Q (o :: rest) a :=
 q_val hw (fun w hC => by
  unfold Oper.quietAt execOp
  have hl := run_loadVar_p (P := Tryd.prog) w p 31 S.toList _ (hc w hC) Tryd.underlying31 rfl (by rw [infoN]; simp [hS])
  simp only [ho, hx, Instr.loadAt, Instr.sureAddr, Sem.run_bind, Sem.run_pure, Result.andThen_ok, hl, Oper.quietUpon]
  exact ⟨trivial, trivial⟩) hk
theorem loadNg_at {ops : Array Oper} {rest : List Oper} {o : Oper} {a : Act} {W : World} {Q : Exit → Act → World → Prop} (x : Operand) (ho : o.op = .load 31 x) (p : Addr) (hx : a.eval x = .pointer (some p)) (hw : Region.wanted o (yielded ops a.tmps) = true) (M : Array Value) (hM : M.size = 21)
  (hc : ranges W p M.toList) (h : wpList Tryd.prog ops Q rest (a.put o.dst (.agg M)) W) : wpList Tryd.prog ops Q (o :: rest) a W :=
 gate_guard hw (loadN_at rfl x ho p hx M hM hc h)
theorem ldN_gate {ops : Array Oper} {rest : List Oper} {o : Oper} {a : Act} {W : World} {Q : Exit → Act → World → Prop} (x : Operand) (_ho : o.op = .load 31 x) (h : wpList Tryd.prog ops Q (o :: rest) a W) : wpList Tryd.prog ops Q (o :: rest) a W := h
theorem placeB_out {t : List Node} {n : Nat} (h0 : 0 < n) (h : (t.getD n zN).f0 < 0 ∨ (n : Int) ≤ (t.getD n zN).f0) : placeB t n = false := by
 unfold placeB
 rw [if_neg (by omega)]
 have hp : parentOf t n = zN := by rw [parentOf, if_neg (by omega)]
 rw [hp]; rfl
theorem placeB_in {t : List Node} {n p : Nat} (h0 : 0 < n) (h : (t.getD n zN).f0 = p) (h1 : p < n) : placeB t n = holdB (t.getD p zN) := by
 unfold placeB
 rw [if_neg (by omega)]
 have hp : parentOf t n = t.getD p zN := by rw [parentOf, if_pos (by omega), h]; rfl
 rw [hp]
theorem ranges_fld {W : World} {q : Addr} {M : Array Value} (h : ranges W q M.toList) {v : Value} (hv : M[1]? = some v) : W.cell? ⟨q.block, q.off + 1, none⟩ = some v := by
 have := ranges_get h 1 hv
 simpa [Addr.add] using this
theorem parent_zero (t : List Node) : parentOf t 0 = zN := by rw [parentOf, if_neg (by omega)]
theorem parent_in {t : List Node} {n p : Nat} (h0 : 0 < n) (h : (t.getD n zN).f0 = p) (h1 : p < n) : parentOf t n = t.getD p zN := by
 rw [parentOf, if_pos (by omega), h]; rfl
theorem place_true {t : List Node} {n : Nat} (h0 : 0 < n) (h : placeB t n = true) : ∃ p : Nat, p < n ∧ (t.getD n zN).f0 = p := by
 by_cases h1 : (t.getD n zN).f0 < 0 ∨ (n : Int) ≤ (t.getD n zN).f0
 ·
  rw [placeB_out h0 h1] at h; cases h
 ·
  exact ⟨(t.getD n zN).f0.toNat, by omega, by omega⟩
theorem goodB_eq (t : List Node) (n : Nat) : goodB t n = (!!placeB t n && (!!(formB (t.getD n zN) && (styR (t.getD n zN) && ((!decide ((t.getD n zN).f5.f12 ≠ 0) || decide ((t.getD n zN).f1 = 3)) && (styM (t.getD n zN) == decide ((t.getD n zN).f1 = 4))))) && (spanB t n || !(t.getD n zN).f5.f11))) := by
 unfold goodB styleB
 simp only [Bool.not_not, Bool.and_assoc]
set_option maxHeartbeats 1500000 in
set_option maxRecDepth 100000 in
theorem ris_any (t : List Node) (A0 : Option Addr) (c0 n : Nat) (w : World) (hn : n < t.length) (hc : kN.C w A0 t.length t) :
  Calls Tryd.prog 51 #[.slice A0 t.length c0, .int .i64 n] w fun e w' => e = .returned (.bool (goodB t n)) ∧ Below w.heap.size w w' := by
 obtain ⟨ad, M, rfl, hM, hr⟩ := node_at hc n hn
 have hB1 := Aside0.mk (below_alloc (Below.refl w.heap.size w) (.cells M 31))
 have hK := Aside0.mk (blk_new w (.cells M 31))
 have hM2 := Aside0.mk hM
 have hr2 := Aside0.mk hr
 have hS := Aside0.mk hM.style
 have hn' : (n : Int) < t.length := by omega
 rw [goodB_eq]
 obtain ⟨nb, hnb⟩ : ∃ nb, (!placeB t n) = nb := ⟨_, rfl⟩
 obtain ⟨bd, hbd⟩ : ∃ bd, (!(formB (t.getD n zN) && (styR (t.getD n zN) && ((!decide ((t.getD n zN).f5.f12 ≠ 0) || decide ((t.getD n zN).f1 = 3)) && (styM (t.getD n zN) == decide ((t.getD n zN).f1 = 4)))))) = bd := ⟨_, rfl⟩
 obtain ⟨sb, hsb⟩ : ∃ sb, spanB t n = sb := ⟨_, rfl⟩
 rw [hnb, hbd, hsb]
 have HFx := Aside0.mk (fun W => rform_any (t.getD n zN) M hM W)
 have HRx := Aside0.mk (fun W => rstyR_any hM.style W)
 have HMx := Aside0.mk (fun W => rstyM_any hM.style W)
 have hPl : (0 < n → ∀ p : Nat, (t.getD n zN).f0 = p → p < n → ∃ M', NodeC (t.getD p zN) M' ∧ ranges w (ad.add (p * 21)) M'.toList) := fun h0 p hp h1 => by
  obtain ⟨ad', M', e, hM', hr'⟩ := node_at hc p (by omega)
  cases e
  exact ⟨M', hM', hr'⟩
 replace hPl := Aside0.mk hPl
 clear hr hc
 have Q0 := Aside0.mk hM.c0
 have Q1 := Aside0.mk hM.c1
 have Q16 := Aside0.mk hM.c16
 have Q17 := Aside0.mk hM.c17
 replace hbd := Aside0.mk hbd
 replace hsb := Aside0.mk hsb
 replace hnb := Aside0.mk hnb
 clear hM
 go_enter Tryd.func51, Tryd.ntmps51
 go_upto_region 2 with (first | ((with_reducible refine ldN_gate _ rfl ?_); (try go_frame); refine loadNg_at _ rfl (ad.add (n * 21)) rfl (by rfl) M hM2.out.size (by exact hr2.out) ?_) | (refine storeN_at rfl _ _ rfl M _ rfl rfl hM2.out.size hM2.out.one rfl ?_))
 generalize hW : w.alloc (.cells M 31) = W1 at *
 have hrM := Aside0.mk (ranges_blk hK.out)
 go_frame
 go_cut [46] (fun c wx => c = .bool nb ∧ Below W1.heap.size W1 wx)
 case first =>
  have c0' := cell_at hK.out 0 Q0.out
  by_cases h0 : n = 0
  ·
   subst h0
   have hpl : placeB t 0 = (decide ((t.getD 0 zN).f0 = -1) && holdB (t.getD 0 zN)) := by unfold placeB; rw [if_pos rfl]
   obtain ⟨hd, hhd⟩ : ∃ hd, holdB (t.getD 0 zN) = hd := ⟨_, rfl⟩
   have hH := Aside0.mk hhd
   rw [hhd] at hpl
   clear hhd
   obtain ⟨f0, hf0⟩ : ∃ f0, (t.getD 0 zN).f0 = f0 := ⟨_, rfl⟩
   rw [hf0] at hpl c0'
   replace hf0 := Aside0.mk hf0
   replace hpl := Aside0.mk hpl
   by_cases h1 : f0 = -1
   ·
    subst h1
    cases hd
    all_goals
     go_wp2_with (first | ((with_reducible refine ldN_gate _ rfl ?_); (try go_frame); refine loadNg_at _ rfl ⟨w.heap.size, 0, none⟩ rfl (by rfl) M hM2.out.size (by exact hrM.out) ?_) | (go_at_call 68; refine (rholds_any _ M hM2.out _).mono ?_; rintro e w2 ⟨rfl, hb2⟩; rw [hH.out]))
     go_meet
     exact ⟨by rw [← hnb.out, hpl.out]; rfl, hb2⟩
   ·
    go_wp2_with fail
    go_meet
    exact ⟨by rw [← hnb.out, hpl.out, decide_eq_false h1]; rfl, Below.refl ..⟩
  ·
   have hz : ((n : Int) == 0) = false := by simp; omega
   have hz2 : (n : Int) > 0 := by omega
   obtain ⟨f0, hf0⟩ : ∃ f0, (t.getD n zN).f0 = f0 := ⟨_, rfl⟩
   rw [hf0] at c0'
   by_cases h1 : f0 < 0
   ·
    have hpl := Aside0.mk (placeB_out (t := t) (by omega : 0 < n) (.inl (by omega)))
    clear hf0
    go_wp2_with fail
    go_meet
    exact ⟨by rw [← hnb.out, hpl.out]; rfl, Below.refl ..⟩
   ·
    by_cases h2 : f0 ≥ (n : Int)
    ·
     have hpl := Aside0.mk (placeB_out (t := t) (by omega : 0 < n) (.inr (by omega)))
     clear hf0
     go_wp2_with fail
     go_meet
     exact ⟨by rw [← hnb.out, hpl.out]; rfl, Below.refl ..⟩
    ·
     obtain ⟨p, hp⟩ : ∃ p : Nat, f0 = p := ⟨f0.toNat, by omega⟩
     subst hp
     have hpn : p < n := by omega
     have hpl := Aside0.mk (placeB_in (by omega) hf0 hpn)
     obtain ⟨M', hM', hr'⟩ := hPl.out (by omega) p hf0 hpn
     have hM'2 := Aside0.mk hM'
     have hr'2 := Aside0.mk (ranges_below hr' hB1.out)
     obtain ⟨hd, hhd⟩ : ∃ hd, holdB (t.getD p zN) = hd := ⟨_, rfl⟩
     have hH := Aside0.mk hhd
     have k3 : (p : Int) < t.length := by omega
     have k4 : (0 : Int) ≤ p := by omega
     clear hf0 hM' hr' hhd
     go_wp2_with (first | ((with_reducible refine ldN_gate _ rfl ?_); (try go_frame); refine loadNg_at _ rfl (ad.add (p * 21)) rfl (by rfl) M' hM'2.out.size (by exact hr'2.out) ?_) | (go_at_call 68; refine (rholds_any _ M' hM'2.out _).mono ?_; rintro e w2 ⟨rfl, hb2⟩; rw [hH.out]))
     go_meet
     exact ⟨by rw [← hnb.out, hpl.out, hH.out], hb2⟩
 case rest =>
  obtain ⟨rfl, hb3⟩ := hcut
  cases nb with
  | true =>
   go_wp2
   go_ret
   exact ⟨rfl, below_then hB1.out hB1.out.size hb3⟩
  | false =>
   have hB3 := Aside0.mk hb3
   have C0 := Aside0.mk (below_drew hB3.out)
   have D1 := Aside0.mk (fun w' (h : Below W1.heap.size W1 w') => cell_at (blk_below hK.out h) 1 Q1.out)
   have D17 := Aside0.mk (fun w' (h : Below W1.heap.size W1 w') => cell_at (blk_below hK.out h) 17 Q17.out)
   have D16 := Aside0.mk (fun w' (h : Below W1.heap.size W1 w') => cell_at (blk_below hK.out h) 16 Q16.out)
   have D0 := Aside0.mk (fun w' (h : Below W1.heap.size W1 w') => cell_at (blk_below hK.out h) 0 Q0.out)
   have DS := Aside0.mk (fun w' (h : Below W1.heap.size W1 w') => ranges_below (ranges_style hK.out) h)
   have DM := Aside0.mk (fun w' (h : Below W1.heap.size W1 w') => ranges_below (ranges_blk hK.out) h)
   go_upto_region 4 with fail
   go_cut [75] (fun c wx => c = .bool bd ∧ Below W1.heap.size W1 wx)
   case first =>
    generalize formB (t.getD n zN) = F at *
    generalize styR (t.getD n zN) = R at *
    generalize styM (t.getD n zN) = Mm at *
    generalize (t.getD n zN).f1 = k at *
    generalize (t.getD n zN).f5.f12 = sd at *
    obtain ⟨fl, hfl⟩ : ∃ fl, decide (sd ≠ 0) = fl := ⟨_, rfl⟩
    rw [hfl] at hbd
    have hfl2 : (sd != 0) = fl := by rw [← hfl]; simp [bne]; by_cases h : sd = 0 <;> simp [h]
    replace hfl := Aside0.mk hfl
    have HFc := Aside0.mk (fun wz (hz : Below W1.heap.size W1 wz) => (HFx.out wz).mono fun e w' h => (⟨h.1, below_then hz hz.size h.2⟩ : e = .returned (.bool F) ∧ Below W1.heap.size W1 w'))
    have HRc := Aside0.mk (fun wz (hz : Below W1.heap.size W1 wz) => (HRx.out wz).mono fun e w' h => (⟨h.1, below_then hz hz.size h.2⟩ : e = .returned (.bool R) ∧ Below W1.heap.size W1 w'))
    have HMc := Aside0.mk (fun wz (hz : Below W1.heap.size W1 wz) => (HMx.out wz).mono fun e w' h => (⟨h.1, below_then hz hz.size h.2⟩ : e = .returned (.bool Mm) ∧ Below W1.heap.size W1 w'))
    clear HFx HRx HMx
    cases F
    ·
     refine region_quiet_in (C := fun w' => Below W1.heap.size W1 w') (by kernel_rfl) (by kernel_rfl) C0.out ?_
     repeat (first
      | go_big_quiet_skip
      | (refine q_loadN (by rfl) _ rfl _ rfl M hM2.out.size DM.out ?_; go_frame)
      | (refine q_loadS (by rfl) _ rfl _ rfl _ hS.out.size DS.out ?_; go_frame)
      | (refine q_loadV (by rfl) 3 _ rfl ⟨w.heap.size, 1, none⟩ rfl _ Tryd.underlying3 rfl D1.out ?_; go_frame)
      | (refine q_loadV (by rfl) 3 _ rfl ⟨w.heap.size, 17, none⟩ rfl _ Tryd.underlying3 rfl D17.out ?_; go_frame)
      | ((with_reducible refine q_gate 69 _ _ rfl ?_); refine q_call (by rfl) 69 _ _ rfl callRF _ rfl (.bool false) HFc.out ?_; go_frame)
      | ((with_reducible refine q_gate 70 _ _ rfl ?_); refine q_call (by rfl) 70 _ _ rfl callRR _ rfl (.bool R) HRc.out ?_; go_frame)
      | ((with_reducible refine q_gate 71 _ _ rfl ?_); refine q_call (by rfl) 71 _ _ rfl callRM _ rfl (.bool Mm) HMc.out ?_; go_frame)
      | (go_big_quiet_want; go_big_quiet_op; first | go_big_quiet_on | (refine ⟨_, fun _ _ => rfl, ?_⟩; go_big_quiet_on)))
     refine wpQuiet_nil ?_
     intro w4 h4
     go_wp2_with fail
     go_meet
     exact ⟨by rw [← hbd.out]; simp [], h4⟩
    ·
     cases R
     ·
      refine region_quiet_in (C := fun w' => Below W1.heap.size W1 w') (by kernel_rfl) (by kernel_rfl) C0.out ?_
      repeat (first
       | go_big_quiet_skip
       | (refine q_loadN (by rfl) _ rfl _ rfl M hM2.out.size DM.out ?_; go_frame)
       | (refine q_loadS (by rfl) _ rfl _ rfl _ hS.out.size DS.out ?_; go_frame)
       | (refine q_loadV (by rfl) 3 _ rfl ⟨w.heap.size, 1, none⟩ rfl _ Tryd.underlying3 rfl D1.out ?_; go_frame)
       | (refine q_loadV (by rfl) 3 _ rfl ⟨w.heap.size, 17, none⟩ rfl _ Tryd.underlying3 rfl D17.out ?_; go_frame)
       | ((with_reducible refine q_gate 69 _ _ rfl ?_); refine q_call (by rfl) 69 _ _ rfl callRF _ rfl (.bool true) HFc.out ?_; go_frame)
       | ((with_reducible refine q_gate 70 _ _ rfl ?_); refine q_call (by rfl) 70 _ _ rfl callRR _ rfl (.bool false) HRc.out ?_; go_frame)
       | ((with_reducible refine q_gate 71 _ _ rfl ?_); refine q_call (by rfl) 71 _ _ rfl callRM _ rfl (.bool Mm) HMc.out ?_; go_frame)
       | (go_big_quiet_want; go_big_quiet_op; first | go_big_quiet_on | (refine ⟨_, fun _ _ => rfl, ?_⟩; go_big_quiet_on)))
      refine wpQuiet_nil ?_
      intro w4 h4
      go_wp2_with fail
      go_meet
      exact ⟨by rw [← hbd.out]; simp [], h4⟩
     ·
      cases fl
      ·
       by_cases x4 : k = 4
       ·
        subst x4
        cases Mm
        ·
         refine region_quiet_in (C := fun w' => Below W1.heap.size W1 w') (by kernel_rfl) (by kernel_rfl) C0.out ?_
         repeat (first
          | go_big_quiet_skip
          | (refine q_loadN (by rfl) _ rfl _ rfl M hM2.out.size DM.out ?_; go_frame)
          | (refine q_loadS (by rfl) _ rfl _ rfl _ hS.out.size DS.out ?_; go_frame)
          | (refine q_loadV (by rfl) 3 _ rfl ⟨w.heap.size, 1, none⟩ rfl _ Tryd.underlying3 rfl D1.out ?_; go_frame)
          | (refine q_loadV (by rfl) 3 _ rfl ⟨w.heap.size, 17, none⟩ rfl _ Tryd.underlying3 rfl D17.out ?_; go_frame)
          | ((with_reducible refine q_gate 69 _ _ rfl ?_); refine q_call (by rfl) 69 _ _ rfl callRF _ rfl (.bool true) HFc.out ?_; go_frame)
          | ((with_reducible refine q_gate 70 _ _ rfl ?_); refine q_call (by rfl) 70 _ _ rfl callRR _ rfl (.bool true) HRc.out ?_; go_frame)
          | ((with_reducible refine q_gate 71 _ _ rfl ?_); refine q_call (by rfl) 71 _ _ rfl callRM _ rfl (.bool false) HMc.out ?_; go_frame)
          | (go_big_quiet_want; go_big_quiet_op; first | go_big_quiet_on | (refine ⟨_, fun _ _ => rfl, ?_⟩; go_big_quiet_on)))
         refine wpQuiet_nil ?_
         intro w4 h4
         go_wp2_with fail
         go_meet
         exact ⟨by rw [← hbd.out]; simp [], h4⟩
        ·
         refine region_quiet_in (C := fun w' => Below W1.heap.size W1 w') (by kernel_rfl) (by kernel_rfl) C0.out ?_
         repeat (first
          | go_big_quiet_skip
          | (refine q_loadN (by rfl) _ rfl _ rfl M hM2.out.size DM.out ?_; go_frame)
          | (refine q_loadS (by rfl) _ rfl _ rfl _ hS.out.size DS.out ?_; go_frame)
          | (refine q_loadV (by rfl) 3 _ rfl ⟨w.heap.size, 1, none⟩ rfl _ Tryd.underlying3 rfl D1.out ?_; go_frame)
          | (refine q_loadV (by rfl) 3 _ rfl ⟨w.heap.size, 17, none⟩ rfl _ Tryd.underlying3 rfl D17.out ?_; go_frame)
          | ((with_reducible refine q_gate 69 _ _ rfl ?_); refine q_call (by rfl) 69 _ _ rfl callRF _ rfl (.bool true) HFc.out ?_; go_frame)
          | ((with_reducible refine q_gate 70 _ _ rfl ?_); refine q_call (by rfl) 70 _ _ rfl callRR _ rfl (.bool true) HRc.out ?_; go_frame)
          | ((with_reducible refine q_gate 71 _ _ rfl ?_); refine q_call (by rfl) 71 _ _ rfl callRM _ rfl (.bool true) HMc.out ?_; go_frame)
          | (go_big_quiet_want; go_big_quiet_op; first | go_big_quiet_on | (refine ⟨_, fun _ _ => rfl, ?_⟩; go_big_quiet_on)))
         refine wpQuiet_nil ?_
         intro w4 h4
         go_wp2_with fail
         go_meet
         exact ⟨by rw [← hbd.out]; simp [], h4⟩
       ·
        have x4' : (k == 4) = false := by simp [x4]
        cases Mm
        ·
         refine region_quiet_in (C := fun w' => Below W1.heap.size W1 w') (by kernel_rfl) (by kernel_rfl) C0.out ?_
         repeat (first
          | go_big_quiet_skip
          | (refine q_loadN (by rfl) _ rfl _ rfl M hM2.out.size DM.out ?_; go_frame)
          | (refine q_loadS (by rfl) _ rfl _ rfl _ hS.out.size DS.out ?_; go_frame)
          | (refine q_loadV (by rfl) 3 _ rfl ⟨w.heap.size, 1, none⟩ rfl _ Tryd.underlying3 rfl D1.out ?_; go_frame)
          | (refine q_loadV (by rfl) 3 _ rfl ⟨w.heap.size, 17, none⟩ rfl _ Tryd.underlying3 rfl D17.out ?_; go_frame)
          | ((with_reducible refine q_gate 69 _ _ rfl ?_); refine q_call (by rfl) 69 _ _ rfl callRF _ rfl (.bool true) HFc.out ?_; go_frame)
          | ((with_reducible refine q_gate 70 _ _ rfl ?_); refine q_call (by rfl) 70 _ _ rfl callRR _ rfl (.bool true) HRc.out ?_; go_frame)
          | ((with_reducible refine q_gate 71 _ _ rfl ?_); refine q_call (by rfl) 71 _ _ rfl callRM _ rfl (.bool false) HMc.out ?_; go_frame)
          | (go_big_quiet_want; go_big_quiet_op; first | go_big_quiet_on | (refine ⟨_, fun _ _ => rfl, ?_⟩; go_big_quiet_on)))
         refine wpQuiet_nil ?_
         intro w4 h4
         go_wp2_with fail
         go_meet
         exact ⟨by rw [← hbd.out]; simp [x4], h4⟩
        ·
         refine region_quiet_in (C := fun w' => Below W1.heap.size W1 w') (by kernel_rfl) (by kernel_rfl) C0.out ?_
         repeat (first
          | go_big_quiet_skip
          | (refine q_loadN (by rfl) _ rfl _ rfl M hM2.out.size DM.out ?_; go_frame)
          | (refine q_loadS (by rfl) _ rfl _ rfl _ hS.out.size DS.out ?_; go_frame)
          | (refine q_loadV (by rfl) 3 _ rfl ⟨w.heap.size, 1, none⟩ rfl _ Tryd.underlying3 rfl D1.out ?_; go_frame)
          | (refine q_loadV (by rfl) 3 _ rfl ⟨w.heap.size, 17, none⟩ rfl _ Tryd.underlying3 rfl D17.out ?_; go_frame)
          | ((with_reducible refine q_gate 69 _ _ rfl ?_); refine q_call (by rfl) 69 _ _ rfl callRF _ rfl (.bool true) HFc.out ?_; go_frame)
          | ((with_reducible refine q_gate 70 _ _ rfl ?_); refine q_call (by rfl) 70 _ _ rfl callRR _ rfl (.bool true) HRc.out ?_; go_frame)
          | ((with_reducible refine q_gate 71 _ _ rfl ?_); refine q_call (by rfl) 71 _ _ rfl callRM _ rfl (.bool true) HMc.out ?_; go_frame)
          | (go_big_quiet_want; go_big_quiet_op; first | go_big_quiet_on | (refine ⟨_, fun _ _ => rfl, ?_⟩; go_big_quiet_on)))
         refine wpQuiet_nil ?_
         intro w4 h4
         go_wp2_with fail
         go_meet
         exact ⟨by rw [← hbd.out]; simp [x4], h4⟩
      ·
       by_cases x3 : k = 3
       ·
        subst x3
        cases Mm
        ·
         refine region_quiet_in (C := fun w' => Below W1.heap.size W1 w') (by kernel_rfl) (by kernel_rfl) C0.out ?_
         repeat (first
          | go_big_quiet_skip
          | (refine q_loadN (by rfl) _ rfl _ rfl M hM2.out.size DM.out ?_; go_frame)
          | (refine q_loadS (by rfl) _ rfl _ rfl _ hS.out.size DS.out ?_; go_frame)
          | (refine q_loadV (by rfl) 3 _ rfl ⟨w.heap.size, 1, none⟩ rfl _ Tryd.underlying3 rfl D1.out ?_; go_frame)
          | (refine q_loadV (by rfl) 3 _ rfl ⟨w.heap.size, 17, none⟩ rfl _ Tryd.underlying3 rfl D17.out ?_; go_frame)
          | ((with_reducible refine q_gate 69 _ _ rfl ?_); refine q_call (by rfl) 69 _ _ rfl callRF _ rfl (.bool true) HFc.out ?_; go_frame)
          | ((with_reducible refine q_gate 70 _ _ rfl ?_); refine q_call (by rfl) 70 _ _ rfl callRR _ rfl (.bool true) HRc.out ?_; go_frame)
          | ((with_reducible refine q_gate 71 _ _ rfl ?_); refine q_call (by rfl) 71 _ _ rfl callRM _ rfl (.bool false) HMc.out ?_; go_frame)
          | (go_big_quiet_want; go_big_quiet_op; first | go_big_quiet_on | (refine ⟨_, fun _ _ => rfl, ?_⟩; go_big_quiet_on)))
         refine wpQuiet_nil ?_
         intro w4 h4
         go_wp2_with fail
         go_meet
         exact ⟨by rw [← hbd.out]; simp [], h4⟩
        ·
         refine region_quiet_in (C := fun w' => Below W1.heap.size W1 w') (by kernel_rfl) (by kernel_rfl) C0.out ?_
         repeat (first
          | go_big_quiet_skip
          | (refine q_loadN (by rfl) _ rfl _ rfl M hM2.out.size DM.out ?_; go_frame)
          | (refine q_loadS (by rfl) _ rfl _ rfl _ hS.out.size DS.out ?_; go_frame)
          | (refine q_loadV (by rfl) 3 _ rfl ⟨w.heap.size, 1, none⟩ rfl _ Tryd.underlying3 rfl D1.out ?_; go_frame)
          | (refine q_loadV (by rfl) 3 _ rfl ⟨w.heap.size, 17, none⟩ rfl _ Tryd.underlying3 rfl D17.out ?_; go_frame)
          | ((with_reducible refine q_gate 69 _ _ rfl ?_); refine q_call (by rfl) 69 _ _ rfl callRF _ rfl (.bool true) HFc.out ?_; go_frame)
          | ((with_reducible refine q_gate 70 _ _ rfl ?_); refine q_call (by rfl) 70 _ _ rfl callRR _ rfl (.bool true) HRc.out ?_; go_frame)
          | ((with_reducible refine q_gate 71 _ _ rfl ?_); refine q_call (by rfl) 71 _ _ rfl callRM _ rfl (.bool true) HMc.out ?_; go_frame)
          | (go_big_quiet_want; go_big_quiet_op; first | go_big_quiet_on | (refine ⟨_, fun _ _ => rfl, ?_⟩; go_big_quiet_on)))
         refine wpQuiet_nil ?_
         intro w4 h4
         go_wp2_with fail
         go_meet
         exact ⟨by rw [← hbd.out]; simp [], h4⟩
       ·
        have x3' : (k != 3) = true := by simp [x3]
        refine region_quiet_in (C := fun w' => Below W1.heap.size W1 w') (by kernel_rfl) (by kernel_rfl) C0.out ?_
        repeat (first
         | go_big_quiet_skip
         | (refine q_loadN (by rfl) _ rfl _ rfl M hM2.out.size DM.out ?_; go_frame)
         | (refine q_loadS (by rfl) _ rfl _ rfl _ hS.out.size DS.out ?_; go_frame)
         | (refine q_loadV (by rfl) 3 _ rfl ⟨w.heap.size, 1, none⟩ rfl _ Tryd.underlying3 rfl D1.out ?_; go_frame)
         | (refine q_loadV (by rfl) 3 _ rfl ⟨w.heap.size, 17, none⟩ rfl _ Tryd.underlying3 rfl D17.out ?_; go_frame)
         | ((with_reducible refine q_gate 69 _ _ rfl ?_); refine q_call (by rfl) 69 _ _ rfl callRF _ rfl (.bool true) HFc.out ?_; go_frame)
         | ((with_reducible refine q_gate 70 _ _ rfl ?_); refine q_call (by rfl) 70 _ _ rfl callRR _ rfl (.bool true) HRc.out ?_; go_frame)
         | ((with_reducible refine q_gate 71 _ _ rfl ?_); refine q_call (by rfl) 71 _ _ rfl callRM _ rfl (.bool Mm) HMc.out ?_; go_frame)
         | (go_big_quiet_want; go_big_quiet_op; first | go_big_quiet_on | (refine ⟨_, fun _ _ => rfl, ?_⟩; go_big_quiet_on)))
        refine wpQuiet_nil ?_
        intro w4 h4
        go_wp2_with fail
        go_meet
        exact ⟨by rw [← hbd.out]; simp [x3], h4⟩
   case rest =>
    obtain ⟨rfl, hb5⟩ := hcut
    cases bd with
    | true =>
     go_wp2
     go_ret
     exact ⟨rfl, below_then hB1.out hB1.out.size hb5⟩
    | false =>
     have c1 := D1.out _ hb5
     have c0' := D0.out _ hb5
     have c16 := D16.out _ hb5
     have c17 := D17.out _ hb5
     have HB5 := Aside0.mk hb5
     clear hb5 hb3
     go_upto_region 6 with fail
     go_cut [6] (fun c wx => c = .bool sb ∧ Below W1.heap.size W1 wx)
     case first =>
      have hsp : sb = spanB t n := hsb.out.symm
      unfold spanB at hsp
      by_cases h0 : n = 0
      ·
       subst h0
       rw [parent_zero, show decide (zN.f1 = 4) = false from rfl, Bool.false_and, Bool.and_false] at hsp
       replace hsp := Aside0.mk hsp
       go_wp2_with fail
       go_meet
       exact ⟨by rw [hsp.out], HB5.out⟩
      ·
       have hz2 : (n : Int) > 0 := by omega
       obtain ⟨p, hpn, hp⟩ := place_true (t := t) (n := n) (by omega) (by have := hnb.out; simpa using this)
       obtain ⟨M', hM', hr'⟩ := hPl.out (by omega) p hp hpn
       have g1 := ranges_fld (ranges_below (ranges_below hr' hB1.out) HB5.out) hM'.c1
       rw [parent_in (by omega) hp hpn] at hsp
       rw [hp] at c0'
       generalize (t.getD p zN).f1 = k' at *
       generalize (t.getD n zN).f1 = k at *
       generalize (t.getD n zN).f5.f12 = sd at *
       replace hsp := Aside0.mk hsp
       have k1 : ¬ (p : Int) < 0 := by omega
       have k3 : (p : Int) < t.length := by omega
       have k4 : (0 : Int) ≤ p := by omega
       clear hp hM' hr'
       by_cases x4 : k' = 4
       ·
        subst x4
        by_cases x1 : k = 1
        ·
         subst x1
         go_wp2_with fail
         all_goals (go_meet; exact ⟨by rw [hsp.out]; simp [*, beq0], HB5.out⟩)
        ·
         by_cases x3 : k = 3
         ·
          subst x3
          go_wp2_with fail
          all_goals (go_meet; exact ⟨by rw [hsp.out]; simp [*, beq0], HB5.out⟩)
         ·
          go_wp2_with fail
          all_goals (go_meet; exact ⟨by rw [hsp.out]; simp [*, beq0], HB5.out⟩)
       ·
        by_cases x1 : k = 1
        ·
         subst x1
         go_wp2_with fail
         all_goals (go_meet; exact ⟨by rw [hsp.out]; simp [*, beq0], HB5.out⟩)
        ·
         by_cases x3 : k = 3
         ·
          subst x3
          go_wp2_with fail
          all_goals (go_meet; exact ⟨by rw [hsp.out]; simp [*, beq0], HB5.out⟩)
         ·
          go_wp2_with fail
          all_goals (go_meet; exact ⟨by rw [hsp.out]; simp [*, beq0], HB5.out⟩)
     case rest =>
      obtain ⟨rfl, hb6⟩ := hcut
      have c16 := D16.out _ hb6
      obtain ⟨sp, hs⟩ : ∃ sp, (t.getD n zN).f5.f11 = sp := ⟨_, rfl⟩
      rw [hs] at c16
      replace hs := Aside0.mk hs
      cases sp
      all_goals
       go_wp2
       go_ret
       exact ⟨by rw [hs.out]; simp, below_then hB1.out hB1.out.size hb6⟩
end Go.Proofs.YtdphijhebppeeaaDoor.G
/- Chapter 5: the reference's deep, Check, node. Written by tmpl.py out of F24.tl. -/
namespace Go.Proofs.YtdphijhebppeeaaDoor.G
open Go.RowKit Go.Shelf Go.Maps Go.MapKept Go.ChangeMaps Go.ChangeShapes Go.Proofs.YtdphijhebppeeaaDoorW.PrintWords Go.Proofs.YtdphijhebppeeaaDoorW.PrintLast Go.Proofs.YtdphijhebppeeaaDoorW.PrintMore
attribute [local irreducible] cN
theorem deps_at (t : List Node) (j : Nat) : ∀ i, j < i → (depsL t i).getD j 0 = depN t j (depsL t j)
 | 0, h => by omega
 | i + 1, h => by
  have hl := depsL_len t i
  rw [depsL, List.getD_eq_getElem?_getD]
  by_cases e : j = i
  ·
   subst e
   rw [List.getElem?_append_right (by omega), hl, Nat.sub_self]
   rfl
  ·
   rw [List.getElem?_append_left (by omega), ← List.getD_eq_getElem?_getD]
   exact deps_at t j i (by omega)
/-- Each node but the root, up to n, hangs on one ahead of it. -/
def UpTo (t : List Node) (n : Nat) : Prop := ∀ j, 0 < j → j ≤ n → 0 ≤ (t.getD j zN).f0 ∧ (t.getD j zN).f0 < j
theorem rdep_step {t : List Node} {n p : Nat} (h0 : 0 < n) (hp : (t.getD n zN).f0 = p) (hpn : p < n) : depN t n (depsL t n) = 1 + depN t p (depsL t p) := by
 rw [depN, if_neg (by omega), hp, Int.toNat_natCast, deps_at t p n hpn]
theorem rdep_bound {t : List Node} : ∀ (n : Nat), UpTo t n → 1 ≤ depN t n (depsL t n) ∧ depN t n (depsL t n) ≤ n + 1 := by
 intro n
 induction n using Nat.strongRecOn with
 | ind n ih =>
  intro hu
  by_cases h0 : n = 0
  ·
   subst h0; rw [depN, if_pos rfl]; omega
  ·
   have h := hu n (by omega) (Nat.le_refl _)
   obtain ⟨p, hp⟩ : ∃ p : Nat, (t.getD n zN).f0 = p := ⟨(t.getD n zN).f0.toNat, by omega⟩
   have hpn : p < n := by omega
   have := ih p hpn (fun j h1 h2 => hu j h1 (by omega))
   rw [rdep_step (by omega) hp hpn]
   omega
set_option maxHeartbeats 1000000 in
set_option maxRecDepth 100000 in
theorem rdeep_any (t : List Node) (A0 : Option Addr) (c0 : Nat) (hlen : t.length ≤ 200) : ∀ (n : Nat) (w : World), n < t.length → UpTo t n → kN.C w A0 t.length t →
  Calls Tryd.prog 52 #[.slice A0 t.length c0, .int .i64 n] w fun e w' => e = .returned (.int .i64 (depN t n (depsL t n))) ∧ Below w.heap.size w w' := by
 intro n
 induction n using Nat.strongRecOn with
 | ind n ih =>
  intro w hn hu hc
  by_cases h0 : n = 0
  ·
   subst h0
   rw [show depN t 0 (depsL t 0) = 1 from by rw [depN, if_pos rfl]]
   clear ih hc
   go_enter Tryd.func52, Tryd.ntmps52
   go_wp2
   go_ret
   exact ⟨rfl, Below.refl ..⟩
  ·
   have h := hu n (by omega) (Nat.le_refl _)
   obtain ⟨ad, M, rfl, hM, hr⟩ := node_at hc n hn
   obtain ⟨p, hp⟩ : ∃ p : Nat, (t.getD n zN).f0 = p := ⟨(t.getD n zN).f0.toNat, by omega⟩
   have hpn : p < n := by omega
   have hu' : UpTo t p := fun j h1 h2 => hu j h1 (by omega)
   have HI := Aside0.mk (ih p hpn w (by omega) hu' hc)
   have hb := rdep_bound p hu'
   rw [rdep_step (by omega) hp hpn]
   generalize depN t p (depsL t p) = d at *
   have c0' := hM.c0
   rw [hp] at c0'
   have g0 := ranges_first hr c0'
   have hn' : (n : Int) < t.length := by omega
   have hz : ¬ (n : Int) = 0 := by omega
   obtain ⟨hb1, hb2⟩ := hb
   clear ih hc hM hr hu hu' h c0' hp
   go_enter Tryd.func52, Tryd.ntmps52
   go_wp2_with (first | (go_at_call 52; refine HI.out.mono ?_; rintro e w2 ⟨rfl, hb3⟩))
   go_ret
   exact ⟨by go_num, hb3⟩
/-- What the scan of the reference still owes from k on. -/
theorem good_up {t : List Node} {k : Nat} (h : ∀ j, j < k → goodB t j = true) (hg : goodB t k = true) : UpTo t k := fun j h0 h1 => by
 have hj : goodB t j = true := by
  by_cases e : j = k
  ·
   subst e; exact hg
  ·
   exact h j (by omega)
 unfold goodB at hj
 exact place_parent h0 (by revert hj; cases placeB t j <;> simp)
def gutterref05_Check.f (l0 : List (S31)) : Option (Int × Int) := tree_Check.f l0
set_option maxHeartbeats 2000000 in
set_option maxRecDepth 100000 in
theorem gutterref05_Check.calls (A0 : Option Addr) (c0 : Nat) (l0 : List (S31)) (r1 : Int) (r2 : Int) (w : World) (hr0 : Kd.C k31 w A0 l0.length l0) (hc0 : l0.length ≤ c0) (h : gutterref05_Check.f l0 = some (r1, r2)) :
  Calls Tryd.prog 39 #[.slice A0 l0.length c0] w fun e w' => e = .returned (.tuple #[.int .i64 r1, .int .i64 r2]) ∧ Below w.heap.size w w' := by
 have _h0 := hc0
 unfold gutterref05_Check.f tree_Check.f at h
 have h := Option.some.inj h
 have HC := Aside0.mk hr0
 clear hr0
 by_cases h1 : l0.length < 1
 ·
  rw [show openT l0 = some (0, 2) by rw [openT, if_pos (.inl h1)]] at h
  simp only [Prod.mk.injEq] at h
  obtain ⟨rfl, rfl⟩ := h
  have h1' : (l0.length : Int) < 1 := by omega
  go_enter Tryd.func39, Tryd.ntmps39
  go_wp2
  go_ret2
  exact ⟨rfl, Below.refl ..⟩
 ·
  have h1' : ¬ (l0.length : Int) < 1 := by omega
  by_cases h2 : 200 < l0.length
  ·
   rw [show openT l0 = some (0, 2) by rw [openT, if_pos (.inr h2)]] at h
   simp only [Prod.mk.injEq] at h
   obtain ⟨rfl, rfl⟩ := h
   have h2' : (l0.length : Int) > 200 := by omega
   go_enter Tryd.func39, Tryd.ntmps39
   go_wp2
   go_ret2
   exact ⟨rfl, Below.refl ..⟩
  ·
   have h2' : ¬ (l0.length : Int) > 200 := by omega
   have hO : openT l0 = scanT l0 l0.length 0 := by rw [openT, if_neg (by omega)]
   rw [hO] at h
   replace h := Aside0.mk h
   clear hO
   go_enter Tryd.func39, Tryd.ntmps39
   go_wp2
   go_loopw [4] (fun i wr => ∃ k : Nat, i = .int .i64 k ∧ k ≤ l0.length ∧ Aside0 (scanT l0 (l0.length - k) k = scanT l0 l0.length 0) ∧ Aside0 (∀ j, j < k → goodB l0 j = true) ∧ Aside0 (Below w.heap.size w wr)) (fun i _ => l0.length - (intZ i).toNat)
   case atStart => exact ⟨0, rfl, Nat.zero_le _, ⟨rfl⟩, ⟨fun j hj => by omega⟩, ⟨Below.refl ..⟩⟩
   case round =>
    obtain ⟨k, rfl, hk, HS, HG, HB⟩ := hrel
    by_cases hlt : k < l0.length
    ·
     have hlt' : (k : Int) < l0.length := by omega
     have HI := Aside0.mk (ris_any l0 A0 c0 k wr hlt (Kd.C_below HC.out HB.out))
     have hst := HS.out
     rw [show l0.length - k = (l0.length - (k + 1)) + 1 by omega, scanT] at hst
     obtain ⟨g, hg⟩ : ∃ g, goodB l0 k = g := ⟨_, rfl⟩
     rw [hg] at HI hst
     cases g with
     | false =>
      rw [if_neg (by decide)] at hst
      have h' := h.out
      rw [← hst] at h'
      simp only [Prod.mk.injEq] at h'
      obtain ⟨rfl, rfl⟩ := h'
      clear hst hg
      go_wp2_with (first | (go_at_call 51; refine HI.out.mono ?_; rintro e w2 ⟨rfl, hb2⟩))
      go_ret2
      exact ⟨rfl, below_then HB.out HB.out.size hb2⟩
     | true =>
      rw [if_pos rfl] at hst
      have hu := good_up HG.out hg
      have hdb := rdep_bound k hu
      have HD := Aside0.mk (fun w' (hb : Below w.heap.size w w') => rdeep_any l0 A0 c0 (by omega) k w' hlt hu (Kd.C_below HC.out hb))
      have hg' := Aside0.mk hg
      generalize depN l0 k (depsL l0 k) = d at *
      clear hu hg
      obtain ⟨hd1, hd2⟩ := hdb
      by_cases hd : 64 < d
      ·
       rw [if_pos hd] at hst
       have h' := h.out
       rw [← hst] at h'
       simp only [Prod.mk.injEq] at h'
       obtain ⟨rfl, rfl⟩ := h'
       have hd' : d > 64 := hd
       clear hst
       go_wp2_with (first | (go_at_call 51; refine HI.out.mono ?_; rintro e w2 ⟨rfl, hb2⟩; have HB2 := Aside0.mk (below_then HB.out HB.out.size hb2); clear hb2) | (go_at_call 52; refine (HD.out _ HB2.out).mono ?_; rintro e w3 ⟨rfl, hb3⟩))
       go_ret2
       exact ⟨rfl, below_then HB2.out HB2.out.size hb3⟩
      ·
       rw [if_neg hd] at hst
       have hd' : ¬ d > 64 := hd
       replace hst := Aside0.mk hst
       go_wp2_with (first | (go_at_call 51; refine HI.out.mono ?_; rintro e w2 ⟨rfl, hb2⟩; have HB2 := Aside0.mk (below_then HB.out HB.out.size hb2); clear hb2) | (go_at_call 52; refine (HD.out _ HB2.out).mono ?_; rintro e w3 ⟨rfl, hb3⟩))
       refine ⟨⟨k + 1, by go_num, by omega, hst, ⟨fun j hj => ?_⟩, ⟨below_then HB2.out HB2.out.size hb3⟩⟩, by simp [intZ]; omega⟩
       by_cases e : j = k
       ·
        subst e; exact hg'.out
       ·
        exact HG.out j (by omega)
    ·
     have hke : k = l0.length := by omega
     subst hke
     have hst := HS.out
     rw [Nat.sub_self, scanT] at hst
     have h' := h.out
     rw [← hst] at h'
     simp only [Prod.mk.injEq] at h'
     obtain ⟨rfl, rfl⟩ := h'
     go_wp2
     go_ret2
     exact ⟨rfl, HB.out⟩
set_option maxRecDepth 100000 in
theorem rnode_any (t : List Node) (A0 : Option Addr) (c0 : Nat) (n : Int) (w : World) (hc : kN.C w A0 t.length t) (hc0 : t.length ≤ c0) :
  Calls Tryd.prog 53 #[.slice A0 t.length c0, .int .i64 n] w fun e w' => e = .returned (.int .i64 (errN t n)) ∧ Below w.heap.size w w' := by
 cases hop : openT t with
 | some p =>
  obtain ⟨k, i⟩ := p
  have hE : errN t n = 50 + (i : Int) := by unfold errN; rw [hop]
  have HC := Aside0.mk (gutterref05_Check.calls A0 c0 t k (50 + (i : Int)) w hc hc0 (by unfold gutterref05_Check.f tree_Check.f; rw [hop]))
  have hi := open_code hop
  rw [hE]
  have hi2 : ¬ (50 + (i : Int)) = 0 := by omega
  generalize 50 + (i : Int) = e0 at *
  clear hop hE hi hc
  go_enter Tryd.func53, Tryd.ntmps53
  go_wp2_with (first | (go_at_call 39; refine HC.out.mono ?_; rintro e w2 ⟨rfl, hb⟩))
  go_ret
  exact ⟨rfl, hb⟩
 | none =>
  have HC := Aside0.mk (gutterref05_Check.calls A0 c0 t 0 0 w hc hc0 (by unfold gutterref05_Check.f tree_Check.f; rw [hop]))
  have hE : errN t n = if n < 0 ∨ (t.length : Int) ≤ n then 53 else 0 := by unfold errN; rw [hop]
  rw [hE]
  clear hop hE hc
  by_cases h1 : n < 0
  ·
   rw [if_pos (.inl h1)]
   go_enter Tryd.func53, Tryd.ntmps53
   go_wp2_with (first | (go_at_call 39; refine HC.out.mono ?_; rintro e w2 ⟨rfl, hb⟩))
   go_ret
   exact ⟨rfl, hb⟩
  ·
   by_cases h2 : n ≥ (t.length : Int)
   ·
    rw [if_pos (.inr h2)]
    go_enter Tryd.func53, Tryd.ntmps53
    go_wp2_with (first | (go_at_call 39; refine HC.out.mono ?_; rintro e w2 ⟨rfl, hb⟩))
    go_ret
    exact ⟨rfl, hb⟩
   ·
    rw [if_neg (by omega)]
    go_enter Tryd.func53, Tryd.ntmps53
    go_wp2_with (first | (go_at_call 39; refine HC.out.mono ?_; rintro e w2 ⟨rfl, hb⟩))
    go_ret
    exact ⟨rfl, hb⟩
end Go.Proofs.YtdphijhebppeeaaDoor.G
/- Chapter 5: the reference's kids, below. Written by tmpl.py out of F25.tl. -/
namespace Go.Proofs.YtdphijhebppeeaaDoor.G
open Go.RowKit Go.Shelf Go.Maps Go.WideElems Go.MapKept Go.ChangeMaps Go.ChangeShapes Go.Proofs.YtdphijhebppeeaaDoorW.PrintWords Go.Proofs.YtdphijhebppeeaaDoorW.PrintLast Go.Proofs.YtdphijhebppeeaaDoorW.PrintMore
attribute [local irreducible] cN
theorem ints_appended {w w1 : World} {base base' : Nat} {v v' v2 : Value} {zs zs2 : List Int} (h : w.ownsInts base 3 .i64 v zs) (h2 : w.ownsInts base' 3 .i64 v2 zs2)
  (hown : w1.ownsRow base 3 1 v' (zs.length + zs2.length) (zs.map (Value.int .i64) ++ zs2.map (Value.int .i64))) : w1.ownsInts base 3 .i64 v' (zs ++ zs2) := by
 refine ⟨by simpa using hown, fun z hz => ?_⟩
 rcases List.mem_append.1 hz with hz | hz
 ·
  exact h.2 z hz
 ·
  exact h2.2 z hz
theorem ints_one (w : World) (base : Nat) (z : Int) (hb : base ≤ w.heap.size) (hz : (Lit.int .i64 z).wf = true) : (w.alloc (.cells #[.int .i64 z] 3)).ownsInts base 3 .i64 (.slice (some ⟨w.heap.size, 0, none⟩) 1 1) [z] :=
 ⟨World.ownsRow_lit w #[.int .i64 z] 1 hb (by unfold maxLen; omega) rfl, fun x hx => by cases List.mem_singleton.1 hx; exact hz⟩
theorem ints_below {w w' : World} {base : Nat} {v : Value} {zs : List Int} (h : w.ownsInts base 3 .i64 v zs) (hb : Below w.heap.size w w') : w'.ownsInts base 3 .i64 v zs :=
 ints_pt h fun g hg => hb.block g ((h.1.lt g hg).2)
set_option maxHeartbeats 1000000 in
set_option maxRecDepth 100000 in
theorem rkids_any (t : List Node) (A0 : Option Addr) (c0 : Nat) (n : Int) (w : World) (hlen : t.length ≤ 200) (h0 : 0 ≤ n) (hroot : 0 < t.length → (t.getD 0 zN).f0 = -1) (hc : kN.C w A0 t.length t) :
  Calls Tryd.prog 54 #[.slice A0 t.length c0, .int .i64 n] w fun e w' => ∃ v, e = .returned v ∧ w'.ownsInts w.heap.size 3 .i64 v (kidsL t t.length n) ∧ Below w.heap.size w w' := by
 obtain ⟨i0, hi0, hz0, hz1, hz2⟩ := info_parts info3
 have HC := Aside0.mk hc
 have HR := Aside0.mk hroot
 clear hc hroot
 go_enter Tryd.func54, Tryd.ntmps54
 go_wp2
 go_loopw [5, 6] (fun v i wr => ∃ k : Nat, i = .int .i64 k ∧ k ≤ t.length ∧ Aside0 (wr.ownsInts w.heap.size 3 .i64 v (kidsL t k n)) ∧ Aside0 (Below w.heap.size w wr)) (fun _ i _ => t.length - (intZ i).toNat)
 case atStart => exact ⟨0, rfl, Nat.zero_le _, ⟨World.ownsInts_nil _ _ _ _⟩, ⟨Below.refl ..⟩⟩
 case round =>
  obtain ⟨k, rfl, hk, HO, HB⟩ := hrel
  by_cases hlt : k < t.length
  ·
   have hlt' : (k : Int) < t.length := by omega
   obtain ⟨ad, M, rfl, hM, hr⟩ := node_at (Kd.C_below HC.out HB.out) k hlt
   have g0 := ranges_first hr hM.c0
   have hs := kidsL_succ t k n
   have hkl := kidsL_len t k n
   clear hM hr
   by_cases hf : (t.getD k zN).f0 = n
   ·
    have hk0 : 0 < k := by
     by_cases e : k = 0
     ·
      subst e; rw [HR.out (by omega)] at hf; omega
     ·
      omega
    rw [if_pos ⟨hk0, hf⟩] at hs
    rw [hf] at g0
    clear hf
    obtain ⟨zs, hz⟩ : ∃ zs, kidsL t k n = zs := ⟨_, rfl⟩
    rw [hz] at hs hkl HO
    clear hz
    replace hs := Aside0.mk hs
    have hsz := HB.out.size
    go_wp2_with (first | (at_builtin; (refine wpList_append_own_at _ rfl _ _ 36 rfl w.heap.size 3 i0 (.int .i64 0) 1 8 Tryd.underlying36 hi0 hz0 hz1 hz2 rfl (by decide) _ _ _ rfl (HO.out.1.alloc _) ⟨wr.heap.size, 0, none⟩ 1 1 [.int .i64 k] rfl rfl (cell_one_new _ _ _) (ints_oneCell .i64 [(k : Int)]) (by unfold maxLen; omega) (by omega) (by simp; omega) ?_; intro v' w5 hown' hgrow _ hloc; have HO5 := Aside0.mk (HO.out.appended (by simpa using hown') (wf64 (z := (k : Int)) (by omega) (by omega))); have HB5 := Aside0.mk ((below_alloc HB.out _).grown hgrow (by simp; omega) (fun j e => (HO.out.1.lt j e).1)); clear hown' hgrow hloc)))
    refine ⟨⟨k + 1, by go_num, by omega, ⟨?_⟩, HB5⟩, by simp [intZ]; omega⟩
    rw [hs.out]
    exact HO5.out
   ·
    rw [if_neg (fun h => hf h.2), List.append_nil] at hs
    generalize (t.getD k zN).f0 = f at g0 hf
    go_wp2
    refine ⟨⟨k + 1, by go_num, by omega, ⟨?_⟩, HB⟩, by simp [intZ]; omega⟩
    rw [hs]
    exact HO.out
  ·
   have hke : k = t.length := by omega
   subst hke
   go_wp2
   go_ret
   exact ⟨_, rfl, HO.out, HB.out⟩
end Go.Proofs.YtdphijhebppeeaaDoor.G
/- Chapter 5: what the reference's Kids, Deep, Below, Order answer. Written by mkF27.py, tmpl.py. -/
namespace Go.Proofs.YtdphijhebppeeaaDoor.G
open Go.RowKit Go.Shelf Go.Maps Go.MapKept Go.ChangeMaps Go.ChangeShapes Go.Proofs.YtdphijhebppeeaaDoorW.PrintWords Go.Proofs.YtdphijhebppeeaaDoorW.PrintLast Go.Proofs.YtdphijhebppeeaaDoorW.PrintMore
attribute [local irreducible] cN
theorem root_of {t : List Node} (h : openT t = none) : 0 < t.length → (t.getD 0 zN).f0 = -1 := fun hz => by
 have hg := ((open_none h).2.2 0 hz).1
 unfold goodB at hg
 rw [Bool.and_eq_true] at hg
 have hp := hg.1
 unfold placeB at hp
 rw [if_pos rfl, Bool.and_eq_true] at hp
 exact of_decide_eq_true hp.1
def gutterref05_Kids.f (l0 : List (S31)) (a1 : Int) : Option (List Int × Int) := tree_Kids.f l0 a1
set_option maxRecDepth 100000 in
theorem gutterref05_Kids.calls (A0 : Option Addr) (c0 : Nat) (l0 : List (S31)) (a1 : Int) (r1 : List Int) (r2 : Int) (w : World) (hr0 : Kd.C k31 w A0 l0.length l0) (hc0 : l0.length ≤ c0) (h : gutterref05_Kids.f l0 a1 = some (r1, r2)) :
  Calls Tryd.prog 40 #[.slice A0 l0.length c0, .int .i64 a1] w fun e w' => ∃ v0_ : Value, e = .returned (.tuple #[v0_, .int .i64 r2]) ∧ Kd.R (Kd.int .i64) 3 w' w.heap.size (fun _ => True) v0_ r1 ∧ Below w.heap.size w w' := by
 have _h0 := hc0
 have HN := Aside0.mk (rnode_any l0 A0 c0 a1 w hr0 hc0)
 have HC := Aside0.mk hr0
 clear hr0
 unfold gutterref05_Kids.f tree_Kids.f at h
 cases hI : errI l0 a1 with
 | some p =>
  obtain ⟨k, i⟩ := p
  have h2 := (errI_code hI).2
  have hne : errN l0 a1 ≠ 0 := by rw [h2]; omega
  rw [if_pos hne] at h
  simp only [Option.some.injEq, Prod.mk.injEq] at h
  obtain ⟨rfl, rfl⟩ := h
  clear h2 hI
  generalize errN l0 a1 = e0 at *
  go_enter Tryd.func40, Tryd.ntmps40
  go_wp2_with (first | (go_at_call 53; refine HN.out.mono ?_; rintro e w2 ⟨rfl, hb⟩))
  go_ret2
  exact ⟨_, rfl, Kd.R_nil _ _ _ _ _, hb⟩
 | none =>
  obtain ⟨hop, hn0, hn1, h2⟩ := errI_none hI
  rw [if_neg (by rw [h2]; simp)] at h
  rw [h2] at HN
  have hl := (open_none hop).2.1
  have hT := open_OKT hop
  have hroot := root_of hop
  obtain ⟨a, rfl⟩ : ∃ a : Nat, a1 = a := ⟨a1.toNat, by omega⟩
  simp only [Option.some.injEq, Prod.mk.injEq] at h
  obtain ⟨rfl, rfl⟩ := h
  have HK := Aside0.mk (fun w' (hb : Below w.heap.size w w') => rkids_any l0 A0 c0 (a : Int) w' hl (by omega) hroot (Kd.C_below HC.out hb))
  go_enter Tryd.func40, Tryd.ntmps40
  go_wp2_with (first | (go_at_call 53; refine HN.out.mono ?_; rintro e w2 ⟨rfl, hb⟩; have HB := Aside0.mk hb; clear hb) | (go_at_call 54; refine (HK.out _ HB.out).mono ?_; rintro e w3 ⟨v, rfl, hi, hb3⟩))
  go_ret2
  exact ⟨v, rfl, ints_R hi HB.out.size, below_then HB.out HB.out.size hb3⟩
def gutterref05_Deep.f (l0 : List (S31)) (a1 : Int) : Option (Int × Int) := tree_Deep.f l0 a1
def gutterref05_Below.f (l0 : List (S31)) (a1 : Int) : Option (List Int × Int) := tree_Below.f l0 a1
def gutterref05_Order.f (l0 : List (S31)) : Option (List Int × Int) := tree_Order.f l0
end Go.Proofs.YtdphijhebppeeaaDoor.G
