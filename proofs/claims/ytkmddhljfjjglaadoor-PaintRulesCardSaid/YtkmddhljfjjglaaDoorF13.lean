/- Chapter 18: what a point hits. Written by mkF13.py. -/
import Derived.Test.YtkmddhljfjjglaaDoorF12
namespace Go.Proofs.YtkmddhljfjjglaaDoor.G
open Go.RowKit Go.Shelf Go.Proofs.YtkmddhljfjjglaaDoorW.PrintWords Go.Proofs.YtkmddhljfjjglaaDoorW.PrintLast Go.Proofs.YtkmddhljfjjglaaDoorW.PrintMore

theorem cut_all (A : Option Addr) (n c : Nat) (hc : n ≤ c) (W : World) : (Instr.slice 35 (.slice A n c) none (some (.int .i64 n)) (some (.int .i64 n))).run Tryd.prog W = .ok (.slice A n n) W := by
  obtain ⟨i0, hi, _, _, _⟩ := info_parts infoD
  have hel : Tryd.prog.elem 35 = 39 := by simp [Program.elem, Tryd.underlying35]
  have ha : (A.map fun x => x.add 0) = A := by cases A <;> simp [Addr.add]
  rw [run_slice_any W 35 A n c (by rw [hel]; exact Tryd.underlying35), hel]
  have e1 : (Instr.sliceBounds true n c none (some (.int .i64 n)) (some (.int .i64 n))).run Tryd.prog W = .ok (0, n, n) W := by
    simp [Instr.sliceBounds, run_sliceBound W .i64 n c _ (by omega) (by omega), run_sliceBound W .i64 n n _ (by omega) (by omega), Result.andThen]
  rw [e1]
  simp [Result.andThen, sizeOf, typeInfo, hi, sliced, ha]
/-- Does a point hit it? -/
def hitB (px py : Int) (d : S39) : Bool := !d.f0 && (isB d.f2 && (decide (d.f2.f0 ≤ px) && (decide (d.f2.f1 ≤ py) && (decide (px < wrap64 (d.f2.f0 + d.f2.f2)) && decide (py < wrap64 (d.f2.f1 + d.f2.f3))))))
def hitL (px py : Int) (l : List S39) : Option S39 := l.reverse.find? (hitB px py)
theorem find_none_snoc {p : S39 → Bool} {l : List S39} {x : S39} (h : l.find? p = none) (hx : p x = false) : (l ++ [x]).find? p = none := by
  rw [List.find?_append, h]
  simp [hx]
theorem find_some_pre {p : S39 → Bool} {l t m : List S39} {x : S39} (h : l.find? p = none) (hx : p x = true) (e : (l ++ [x]) ++ t = m) : m.find? p = some x := by
  subst e
  rw [List.append_assoc, List.find?_append, h]
  simp [hx]
/-- What is laid between two rounds. -/
def HJ (w : World) (r : Loop) (px py : Int) (pre : List S39) (W : World) : Prop :=
  ReadyAt r (w.heap.size + 1 + 1 + 1 + 1 + 1) W ∧ W.heap[w.heap.size]? = some (.cells #[.int .i64 px] 2 (0, 0)) ∧ W.heap[w.heap.size + 1]? = some (.cells #[.int .i64 py] 2 (0, 0)) ∧ W.heap[w.heap.size + 1 + 1]? = some (.cells #[.int .i64 0] 3 (0, 0)) ∧ W.heap[w.heap.size + 1 + 1 + 1]? = some (.cells #[.bool false] 4 (0, 0)) ∧ Below w.heap.size w W ∧ pre.find? (hitB px py) = none
/-- .. and where it is left. -/
def HX (w : World) (r : Loop) (px py : Int) (pre : List S39) (W : World) : Prop :=
  ∃ p d, pre = p ++ [d] ∧ p.find? (hitB px py) = none ∧ hitB px py d = true ∧ ReadyAt { r with state := .done, pending := some .ret } (w.heap.size + 1 + 1 + 1 + 1 + 1) W ∧ W.heap[w.heap.size + 1 + 1]? = some (.cells #[.int .i64 d.f1] 3 (0, 0)) ∧ W.heap[w.heap.size + 1 + 1 + 1]? = some (.cells #[.bool true] 4 (0, 0)) ∧ Below w.heap.size w W
def KeepF (w W W' : World) : Prop := ∀ k o, W.heap[k]? = some o → k ≠ w.heap.size + 1 + 1 + 1 + 1 + 1 + 1 → k ≠ w.heap.size + 1 + 1 → k ≠ w.heap.size + 1 + 1 + 1 → W'.heap[k]? = some o
attribute [local go_sem] Oper.semAt_some
set_option maxRecDepth 1000000 in
set_option maxHeartbeats 8000000 in
theorem hit_core (A : Option Addr) (c : Nat) (l : List S39) (px py : Int) (w : World) (hr : Kd.C k39 w A l.length l) (hl : l.length ≤ 1000) (hc : l.length ≤ c) (n : Int) (ok : Bool) (hres : (hitL px py l = none ∧ n = 0 ∧ ok = false) ∨ (∃ d, hitL px py l = some d ∧ n = d.f1 ∧ ok = true)) :
    CallsIn Fence.wide 8 Tryd.prog 19 #[.slice A l.length c, .int .i64 px, .int .i64 py] w fun e w' => e = .returned (.tuple #[.int .i64 n, .bool ok]) ∧ Below w.heap.size w w' := by
  have hcut := cut_all A l.length c hc
  have HR := Aside0.mk hr
  have HRES := Aside0.mk hres
  clear hr hres
  refine callsIn_of_wp_marks Tryd.func19 rfl trivial ?_ rfl
  simp only [Tryd.ntmps19, List.size_toArray, List.length_cons, List.length_nil, Nat.reduceAdd, Nat.reduceSub, Array.replicate_succ, Array.replicate_zero, List.push_toArray, List.append_toArray, List.nil_append, List.cons_append]
  refine wpIn_wide.2 ?_
  go_wp2_with (go_at_call 40; refine (back_any _ _ _ _).mono ?_; rintro e w' ⟨rfl, rfl⟩)
  have hb0 : Below w.heap.size w (((((w.alloc (.cells #[.int .i64 px] 2)).alloc (.cells #[.int .i64 py] 2)).alloc (.cells #[.int .i64 0] 3)).alloc (.cells #[.bool false] 4)).alloc (.cells #[.slice A l.length l.length] 35)) := below_alloc (below_alloc (below_alloc (below_alloc (below_alloc (Below.refl _ _) _) _) _) _) _
  have b0 := blk_alloc (blk_alloc (blk_alloc (blk_alloc (blk_new w (.cells #[.int .i64 px] 2)) (.cells #[.int .i64 py] 2)) (.cells #[.int .i64 0] 3)) (.cells #[.bool false] 4)) (.cells #[.slice A l.length l.length] 35)
  have b1 := blk_alloc (blk_alloc (blk_alloc (blk_new (w.alloc (.cells #[.int .i64 px] 2)) (.cells #[.int .i64 py] 2)) (.cells #[.int .i64 0] 3)) (.cells #[.bool false] 4)) (.cells #[.slice A l.length l.length] 35)
  have b2 := blk_alloc (blk_alloc (blk_new ((w.alloc (.cells #[.int .i64 px] 2)).alloc (.cells #[.int .i64 py] 2)) (.cells #[.int .i64 0] 3)) (.cells #[.bool false] 4)) (.cells #[.slice A l.length l.length] 35)
  have b3 := blk_alloc (blk_new (((w.alloc (.cells #[.int .i64 px] 2)).alloc (.cells #[.int .i64 py] 2)).alloc (.cells #[.int .i64 0] 3)) (.cells #[.bool false] 4)) (.cells #[.slice A l.length l.length] 35)
  have b4 := blk_new ((((w.alloc (.cells #[.int .i64 px] 2)).alloc (.cells #[.int .i64 py] 2)).alloc (.cells #[.int .i64 0] 3)).alloc (.cells #[.bool false] 4)) (.cells #[.slice A l.length l.length] 35)
  have z3 : (((((w.alloc (.cells #[.int .i64 px] 2)).alloc (.cells #[.int .i64 py] 2)).alloc (.cells #[.int .i64 0] 3)).alloc (.cells #[.bool false] 4)).alloc (.cells #[.slice A l.length l.length] 35)).heap.size = w.heap.size + 1 + 1 + 1 + 1 + 1 := by simp
  simp only [World.size_alloc] at b1 b2 b3 b4
  have B := Aside0.mk hb0
  have C0 := Aside0.mk b0
  have C1 := Aside0.mk b1
  have C2 := Aside0.mk b2
  have C3 := Aside0.mk b3
  have C4 := Aside0.mk b4
  clear hb0 b0 b1 b2 b3 b4 hcut
  generalize ((((w.alloc (.cells #[.int .i64 px] 2)).alloc (.cells #[.int .i64 py] 2)).alloc (.cells #[.int .i64 0] 3)).alloc (.cells #[.bool false] 4)).alloc (.cells #[.slice A l.length l.length] 35) = W0 at *
  refine (wpIn_wide (n := 8)).1 ?_
  refine range_any (F := Fence.wide) rfl (by omega) (gf := 59) (lb := #[.pointer (some ⟨w.heap.size + 1 + 1 + 1 + 1, 0, none⟩)]) rfl trivial (enters_of Tryd.func59 (by kernel_rfl) rfl)
    (fun W2 => hitL px py l = none ∧ W2.heap[w.heap.size + 1 + 1]? = some (.cells #[.int .i64 0] 3 (0, 0)) ∧ W2.heap[w.heap.size + 1 + 1 + 1]? = some (.cells #[.bool false] 4 (0, 0)) ∧ Below w.heap.size w W2)
    (fun W2 => ∃ d, hitL px py l = some d ∧ W2.heap[w.heap.size + 1 + 1]? = some (.cells #[.int .i64 d.f1] 3 (0, 0)) ∧ W2.heap[w.heap.size + 1 + 1 + 1]? = some (.cells #[.bool true] 4 (0, 0)) ∧ Below w.heap.size w W2) ?hcall ?hdone ?hstop
  case hcall =>
    intro fn r hfn hrec
    have hst : r.state = .ready := by rw [hrec]
    have hpe : r.pending = none := by rw [hrec]
    have hrf : Fence.wide.fn r.fn := trivial
    have ready0 : ReadyAt r (w.heap.size + 1 + 1 + 1 + 1 + 1) ((W0.alloc (.deferred (some []))).alloc (.loop r)) := by
      rw [← z3]
      refine ⟨?_, blk_alloc (blk_new W0 _) _⟩
      have := blk_new (W0.alloc (.deferred (some []))) (.loop r)
      simpa using this
    have below0 : Below W0.heap.size W0 ((W0.alloc (.deferred (some []))).alloc (.loop r)) := below_alloc (below_alloc (Below.refl _ _) _) _
    have below1 := below_then B.out B.out.size below0
    rw [z3]
    refine (back_in 7 (by omega) (w.heap.size + 1 + 1 + 1 + 1 + 1 + 1) (w.heap.size + 1 + 1 + 1 + 1) A l w HR.out hl (HJ w r px py) (HX w r px py) ?hY _ ⟨below1, blk_below C4.out below0⟩
      ⟨ready0, blk_below C0.out below0, blk_below C1.out below0, blk_below C2.out below0, blk_below C3.out below0, below1, rfl⟩).mono ?_
    case hY =>
      rintro pre ⟨x0, x1, ⟨r0, r1, r2, r3⟩⟩ i W ⟨h1, h2, h3, h4, h5, h6, h7⟩
      have hsz := h6.size
      refine (yield_round (R := fun W' => HJ w r px py (pre ++ [⟨x0, x1, ⟨r0, r1, r2, r3⟩⟩]) W' ∧ KeepF w W W') (Rx := HX w r px py (pre ++ [⟨x0, x1, ⟨r0, r1, r2, r3⟩⟩])) h1.1 hst hpe hrf (by rw [hrec]; rfl) ?_).mono ?_
      case _ =>
        have e1 := congrArg Loop.assign hrec
        have e2 := congrArg Loop.params hrec
        have e3 := congrArg Loop.body hrec
        have e4 := congrArg Loop.tmps hrec
        dsimp only at e1 e2 e3 e4
        clear hrec
        generalize hbz : ({ r with state := LoopState.busy } : Loop) = rb
        generalize hdz : ({ r with state := LoopState.done, pending := some Code.ret } : Loop) = rd
        have HDZ := Aside0.mk hdz
        clear hdz
        rw [e1, e2, e3, e4]
        clear e1 e2 e3 e4
        have H1 := Aside0.mk h1
        have H2 := Aside0.mk h2
        have H3 := Aside0.mk h3
        have H4 := Aside0.mk h4
        have H5 := Aside0.mk h5
        have H6 := Aside0.mk h6
        have H7 := Aside0.mk h7
        have hlt := blk_lt h1.1
        clear h1 h2 h3 h4 h5 h6 h7 ready0 below0 below1
        unfold vS39
        gi_wp2
        refine And.intro (blk_alloc H1.out.1 _) ?_
        have hl1 := blk_alloc H1.out.1 (.cells #[.bool x0, .int .i64 x1, .int .i64 r0, .int .i64 r1, .int .i64 r2, .int .i64 r3] 39)
        have hp0 := blk_new W (.cells #[.bool x0, .int .i64 x1, .int .i64 r0, .int .i64 r1, .int .i64 r2, .int .i64 r3] 39)
        have hk0 : Aside0 (∀ k o, W.heap[k]? = some o → (W.alloc (.cells #[.bool x0, .int .i64 x1, .int .i64 r0, .int .i64 r1, .int .i64 r2, .int .i64 r3] 39)).heap[k]? = some o) := ⟨fun k o h => blk_alloc h _⟩
        have hB := below_alloc H6.out (.cells #[.bool x0, .int .i64 x1, .int .i64 r0, .int .i64 r1, .int .i64 r2, .int .i64 r3] 39)
        generalize W.alloc (.cells #[.bool x0, .int .i64 x1, .int .i64 r0, .int .i64 r1, .int .i64 r2, .int .i64 r3] 39) = Wa1 at *
        have hl2 : (Wa1.putObj (w.heap.size + 1 + 1 + 1 + 1 + 1 + 1) (.loop rb)).heap[w.heap.size + 1 + 1 + 1 + 1 + 1 + 1]? = some (.loop rb) := World.putObj_heap_same (blk_lt hl1)
        have hk1 : Aside0 (∀ k o, W.heap[k]? = some o → k ≠ w.heap.size + 1 + 1 + 1 + 1 + 1 + 1 → (Wa1.putObj (w.heap.size + 1 + 1 + 1 + 1 + 1 + 1) (.loop rb)).heap[k]? = some o) := ⟨fun k o h hk => (World.putObj_heap_other hk).trans (hk0.out k o h)⟩
        have hp2 := (World.putObj_heap_other (w := Wa1) (o := .loop rb) (show W.heap.size ≠ w.heap.size + 1 + 1 + 1 + 1 + 1 + 1 by omega)).trans hp0
        have hB2 := hB.trans (belowK_b (w := w) (Nat.le_refl _) Wa1 (w.heap.size + 1 + 1 + 1 + 1 + 1 + 1) _ (.loop rb) (by omega) hl1 rfl rfl)
        clear hp0 hB hl1 hk0
        generalize Wa1.putObj (w.heap.size + 1 + 1 + 1 + 1 + 1 + 1) (.loop rb) = Wb at *
        have k0 := (blk_cell hp2 0).trans (show _ = some (Value.bool x0) from rfl)
        have k1 := (blk_cell hp2 1).trans (show _ = some (Value.int .i64 x1) from rfl)
        have k2 := (blk_cell hp2 2).trans (show _ = some (Value.int .i64 r0) from rfl)
        have k3 := (blk_cell hp2 3).trans (show _ = some (Value.int .i64 r1) from rfl)
        have k4 := (blk_cell hp2 4).trans (show _ = some (Value.int .i64 r2) from rfl)
        have k5 := (blk_cell hp2 5).trans (show _ = some (Value.int .i64 r3) from rfl)
        have F1 := Aside0.mk hl2
        have F3 := Aside0.mk hp2
        have F5 := Aside0.mk hB2
        have hsz2 := hB2.size
        have HH := Aside0.mk (show hitB px py ⟨x0, x1, ⟨r0, r1, r2, r3⟩⟩ = (!x0 && (isB ⟨r0, r1, r2, r3⟩ && (decide (r0 ≤ px) && (decide (r1 ≤ py) && (decide (px < wrap64 (r0 + r2)) && decide (py < wrap64 (r1 + r3))))))) from rfl)
        clear hl2 hp2 hB2
        have fin : Aside0 (∀ W4 : World, Below Wb.heap.size Wb W4 → hitB px py ⟨x0, x1, ⟨r0, r1, r2, r3⟩⟩ = false → W4.heap[w.heap.size + 1 + 1 + 1 + 1 + 1 + 1]? = some (.loop rb) ∧ HJ w r px py (pre ++ [⟨x0, x1, ⟨r0, r1, r2, r3⟩⟩]) (W4.putObj (w.heap.size + 1 + 1 + 1 + 1 + 1 + 1) (.loop r)) ∧ KeepF w W (W4.putObj (w.heap.size + 1 + 1 + 1 + 1 + 1 + 1) (.loop r))) := ⟨fun W4 hb hh => by
          have g1 := blk_below F1.out hb
          have gk : ∀ k o, W.heap[k]? = some o → k ≠ w.heap.size + 1 + 1 + 1 + 1 + 1 + 1 → (W4.putObj (w.heap.size + 1 + 1 + 1 + 1 + 1 + 1) (.loop r)).heap[k]? = some o := fun k o h hk => (World.putObj_heap_other hk).trans (blk_below (hk1.out k o h hk) hb)
          exact ⟨g1, ⟨⟨World.putObj_heap_same (blk_lt g1), gk _ _ H1.out.2 (by omega)⟩, gk _ _ H2.out (by omega), gk _ _ H3.out (by omega), gk _ _ H4.out (by omega), gk _ _ H5.out (by omega), (below_then F5.out hsz2 hb).trans (belowK_b (w := w) (Nat.le_refl _) _ (w.heap.size + 1 + 1 + 1 + 1 + 1 + 1) _ (.loop r) (by omega) g1 rfl rfl), find_none_snoc H7.out hh⟩, fun k o h hk _ _ => gk k o h hk⟩⟩
        have hrb := below_alloc (Below.refl Wb.heap.size Wb) (.cells #[.int .i64 r0, .int .i64 r1, .int .i64 r2, .int .i64 r3] 30)
        have hx1 := blk_below F3.out hrb
        have j0 : (Wb.alloc (.cells #[.int .i64 r0, .int .i64 r1, .int .i64 r2, .int .i64 r3] 30)).cell? ⟨W.heap.size, 0, none⟩ = some (.bool x0) := (blk_cell hx1 0).trans rfl
        have HRB := Aside0.mk hrb
        have HV := Aside0.mk (blk_new Wb (.cells #[.int .i64 r0, .int .i64 r1, .int .i64 r2, .int .i64 r3] 30))
        have HX1 := Aside0.mk hx1
        have HZ0 := Aside0.mk (blk_below (hk1.out _ _ H2.out (by omega)) hrb)
        have HZ1 := Aside0.mk (blk_below (hk1.out _ _ H3.out (by omega)) hrb)
        have HZ2 := Aside0.mk (blk_below (hk1.out _ _ H4.out (by omega)) hrb)
        have HZ3 := Aside0.mk (blk_below (hk1.out _ _ H5.out (by omega)) hrb)
        have HD := Aside0.mk (blk_below (hk1.out _ _ H1.out.2 (by omega)) hrb)
        clear hrb hx1
        cases x0
        · have HC := Aside0.mk (fun W => isRect_any r0 r1 r2 r3 W)
          have HH2 := Aside0.mk (show hitB px py ⟨false, x1, ⟨r0, r1, r2, r3⟩⟩ = (isB ⟨r0, r1, r2, r3⟩ && (decide (r0 ≤ px) && (decide (r1 ≤ py) && (decide (px < wrap64 (r0 + r2)) && decide (py < wrap64 (r1 + r3)))))) from HH.out.trans (by simp))
          clear HH
          generalize hib : isB ⟨r0, r1, r2, r3⟩ = ib at *
          have HIB := Aside0.mk hib
          clear hib
          gi_wp2_with fail
          refine ⟨trivial, ?_⟩
          refine (CallsIn.inRound _ (callsIn_wide.2 (HC.out _))).mono ?_
          rintro e W3 ⟨rfl, hb⟩
          have hv3 := blk_below HV.out hb
          have v0 : W3.cell? ⟨Wb.heap.size, 0, none⟩ = some (.int .i64 r0) := (blk_cell hv3 0).trans rfl
          have v1 : W3.cell? ⟨Wb.heap.size, 1, none⟩ = some (.int .i64 r1) := (blk_cell hv3 1).trans rfl
          have v2 : W3.cell? ⟨Wb.heap.size, 2, none⟩ = some (.int .i64 r2) := (blk_cell hv3 2).trans rfl
          have v3 : W3.cell? ⟨Wb.heap.size, 3, none⟩ = some (.int .i64 r3) := (blk_cell hv3 3).trans rfl
          have d1 : W3.cell? ⟨W.heap.size, 1, none⟩ = some (.int .i64 x1) := (blk_cell (blk_below HX1.out hb) 1).trans rfl
          have y0 : W3.cell? ⟨w.heap.size, 0, none⟩ = some (.int .i64 px) := (blk_cell (blk_below HZ0.out hb) 0).trans rfl
          have y1 : W3.cell? ⟨w.heap.size + 1, 0, none⟩ = some (.int .i64 py) := (blk_cell (blk_below HZ1.out hb) 0).trans rfl
          have HB3 := Aside0.mk (below_then HRB.out HRB.out.size hb)
          have G2 := Aside0.mk (blk_below HZ2.out hb)
          have G3 := Aside0.mk (blk_below HZ3.out hb)
          have GD := Aside0.mk (blk_below HD.out hb)
          have G1 := Aside0.mk (blk_below F1.out HB3.out)
          have c2 : W3.cell? ⟨w.heap.size + 1 + 1, 0, none⟩ = some (.int .i64 0) := (blk_cell G2.out 0).trans rfl
          have c3 : W3.cell? ⟨w.heap.size + 1 + 1 + 1, 0, none⟩ = some (.bool false) := (blk_cell G3.out 0).trans rfl
          have f2 := blk_frozen G2.out 0
          have f3 := blk_frozen G3.out 0
          have B3 := Aside0.mk (below_then F5.out hsz2 HB3.out)
          clear hb hv3 j0 k0 k1 k2 k3 k4 k5 HV HX1 HZ0 HZ1 HZ2 HZ3 HD hk1 HC
          cases ib
          · gi_wp2
            exact fin.out _ HB3.out (HH2.out.trans (by simp))
          by_cases q2 : r0 ≤ px
          case neg =>
            have HQ := Aside0.mk (HH2.out.trans (show _ = false by rw [decide_eq_false q2]; simp))
            gi_wp2
            exact fin.out _ HB3.out HQ.out
          by_cases q3 : r1 ≤ py
          case neg =>
            have HQ := Aside0.mk (HH2.out.trans (show _ = false by rw [decide_eq_false q3]; simp))
            gi_wp2
            exact fin.out _ HB3.out HQ.out
          by_cases q4 : px < wrap64 (r0 + r2)
          case neg =>
            have HQ := Aside0.mk (HH2.out.trans (show _ = false by rw [decide_eq_false q4]; simp))
            gi_wp2
            exact fin.out _ HB3.out HQ.out
          by_cases q5 : py < wrap64 (r1 + r3)
          case neg =>
            have HQ := Aside0.mk (HH2.out.trans (show _ = false by rw [decide_eq_false q5]; simp))
            gi_wp2
            exact fin.out _ HB3.out HQ.out
          have HHT := Aside0.mk (HH2.out.trans (show _ = true by rw [decide_eq_true q2, decide_eq_true q3, decide_eq_true q4, decide_eq_true q5]; rfl))
          gi_wp2
          have g1 := set_other (b := w.heap.size + 1 + 1 + 1) (i := 0) (v := .bool true) (set_other (b := w.heap.size + 1 + 1) (i := 0) (v := .int .i64 x1) G1.out (by omega)) (by omega)
          have gd := set_other (b := w.heap.size + 1 + 1 + 1) (i := 0) (v := .bool true) (set_other (b := w.heap.size + 1 + 1) (i := 0) (v := .int .i64 x1) GD.out (by omega)) (by omega)
          have g2 := set_other (b := w.heap.size + 1 + 1 + 1) (i := 0) (v := .bool true) (blk_put G2.out 0 (.int .i64 x1) rfl) (by omega)
          have g3 := blk_put (set_other (b := w.heap.size + 1 + 1) (i := 0) (v := .int .i64 x1) G3.out (by omega)) 0 (.bool true) rfl
          have g5 := (B3.out.setCell (p := ⟨w.heap.size + 1 + 1, 0, none⟩) (show w.heap.size ≤ w.heap.size + 1 + 1 by omega) (.int .i64 x1)).setCell (p := ⟨w.heap.size + 1 + 1 + 1, 0, none⟩) (show w.heap.size ≤ w.heap.size + 1 + 1 + 1 by omega) (.bool true)
          exact ⟨g1, pre, _, rfl, H7.out, HHT.out, ⟨by rw [HDZ.out]; exact World.putObj_heap_same (blk_lt g1), (World.putObj_heap_other (by omega)).trans gd⟩, (World.putObj_heap_other (by omega)).trans g2, (World.putObj_heap_other (by omega)).trans g3, g5.trans (belowK_b (w := w) (Nat.le_refl _) _ (w.heap.size + 1 + 1 + 1 + 1 + 1 + 1) _ _ (by omega) g1 rfl rfl)⟩
        · gi_wp2_with fail
          refine ⟨trivial, ?_⟩
          gi_wp2
          exact fin.out _ HRB.out (HH.out.trans (by simp))
      case _ =>
        rintro e W' (⟨rfl, h, hk⟩ | ⟨rfl, h⟩)
        · exact .inl ⟨rfl, h, fun ⟨_, c4⟩ => ⟨h.2.2.2.2.2.1, hk _ _ c4 (by omega) (by omega) (by omega)⟩⟩
        · exact .inr ⟨rfl, h⟩
    · rintro e W' ⟨⟨v, rfl⟩, (⟨ys, rfl, h1, h2, h3, h4, h5, h6, h7⟩ | ⟨pre, ⟨t, ht⟩, p, d, rfl, h1, h2, h3, h4, h5, h6⟩)⟩
      · exact ⟨⟨v, rfl⟩, .inl ⟨⟨h7, h4, h5, h6⟩, h1⟩⟩
      · exact ⟨⟨v, rfl⟩, .inr ⟨⟨d, find_some_pre h1 h2 ht, h4, h5, h6⟩, h3⟩⟩
  case hdone =>
    rintro o W2 ⟨hn, hv, hz, hB⟩ ⟨r, hr⟩ hD
    rw [z3] at hr hD ⊢
    obtain ⟨_, rfl, rfl⟩ : hitL px py l = none ∧ n = 0 ∧ ok = false := by
      rcases HRES.out with h | ⟨d, h, _⟩
      · exact h
      · rw [hn] at h; cases h
    have v3 := (World.putObj_heap_other (w := W2) (o := o) (show w.heap.size + 1 + 1 ≠ w.heap.size + 1 + 1 + 1 + 1 + 1 + 1 by omega)).trans hv
    have u3 := (World.putObj_heap_other (w := W2) (o := o) (show w.heap.size + 1 + 1 + 1 ≠ w.heap.size + 1 + 1 + 1 + 1 + 1 + 1 by omega)).trans hz
    have d3 := (World.putObj_heap_other (w := W2) (o := o) (show w.heap.size + 1 + 1 + 1 + 1 + 1 ≠ w.heap.size + 1 + 1 + 1 + 1 + 1 + 1 by omega)).trans hD
    have b3 := hB.trans (belowK_b (w := w) (Nat.le_refl _) W2 (w.heap.size + 1 + 1 + 1 + 1 + 1 + 1) _ o (by omega) hr rfl rfl)
    clear hn hv hz hB hr hD HRES
    generalize W2.putObj (w.heap.size + 1 + 1 + 1 + 1 + 1 + 1) o = W3 at *
    have p2 : W3.cell? ⟨w.heap.size + 1 + 1, 0, none⟩ = some (.int .i64 0) := (blk_cell v3 0).trans rfl
    have p3 : W3.cell? ⟨w.heap.size + 1 + 1 + 1, 0, none⟩ = some (.bool false) := (blk_cell u3 0).trans rfl
    have q2 := blk_frozen v3 0
    have q3 := blk_frozen u3 0
    have V3 := Aside0.mk v3
    have U3 := Aside0.mk u3
    have D3 := Aside0.mk d3
    have B3 := Aside0.mk b3
    clear v3 u3 d3 b3
    go_wp2
    have g2 := set_other (b := w.heap.size + 1 + 1 + 1) (i := 0) (v := .bool false) (blk_put V3.out 0 (.int .i64 0) rfl) (by omega)
    have g3 := blk_put (set_other (b := w.heap.size + 1 + 1) (i := 0) (v := .int .i64 0) U3.out (by omega)) 0 (.bool false) rfl
    have gd := set_other (b := w.heap.size + 1 + 1 + 1) (i := 0) (v := .bool false) (set_other (b := w.heap.size + 1 + 1) (i := 0) (v := .int .i64 0) D3.out (by omega)) (by omega)
    have g5 := (B3.out.setCell (p := ⟨w.heap.size + 1 + 1, 0, none⟩) (show w.heap.size ≤ w.heap.size + 1 + 1 by omega) (.int .i64 0)).setCell (p := ⟨w.heap.size + 1 + 1 + 1, 0, none⟩) (show w.heap.size ≤ w.heap.size + 1 + 1 + 1 by omega) (.bool false)
    clear p2 p3 q2 q3 V3 U3 D3 B3
    generalize (W3.setCell ⟨w.heap.size + 1 + 1, 0, none⟩ (.int .i64 0)).setCell ⟨w.heap.size + 1 + 1 + 1, 0, none⟩ (.bool false) = W5 at *
    refine ⟨by simp, .inl ⟨_, _, rfl, run_takeDeferred gd, ?_⟩⟩
    have e2 := (World.putObj_heap_other (w := W5) (o := .deferred none) (show w.heap.size + 1 + 1 ≠ w.heap.size + 1 + 1 + 1 + 1 + 1 by omega)).trans g2
    have e3 := (World.putObj_heap_other (w := W5) (o := .deferred none) (show w.heap.size + 1 + 1 + 1 ≠ w.heap.size + 1 + 1 + 1 + 1 + 1 by omega)).trans g3
    have b5 := g5.trans (belowK_b (w := w) (Nat.le_refl _) W5 (w.heap.size + 1 + 1 + 1 + 1 + 1) _ (.deferred none) (by omega) gd rfl rfl)
    generalize W5.putObj (w.heap.size + 1 + 1 + 1 + 1 + 1) (.deferred none) = W6 at *
    have c2 : W6.cell? ⟨w.heap.size + 1 + 1, 0, none⟩ = some (.int .i64 0) := (blk_cell e2 0).trans rfl
    have c3 : W6.cell? ⟨w.heap.size + 1 + 1 + 1, 0, none⟩ = some (.bool false) := (blk_cell e3 0).trans rfl
    refine ⟨.tuple #[.int .i64 0, .bool false], ?_, rfl, b5⟩
    simp [results, Tryd.results19, go_sem, c2, c3]
  case hstop =>
    rintro o W2 ⟨d, hn, hv, hz, hB⟩ ⟨r, hr⟩ hD
    rw [z3] at hr hD ⊢
    obtain ⟨rfl, rfl⟩ : n = d.f1 ∧ ok = true := by
      rcases HRES.out with ⟨h, _⟩ | ⟨d', h, h1, h2⟩
      · rw [hn] at h; cases h
      · rw [hn] at h
        cases h
        exact ⟨h1, h2⟩
    have v3 := (World.putObj_heap_other (w := W2) (o := o) (show w.heap.size + 1 + 1 ≠ w.heap.size + 1 + 1 + 1 + 1 + 1 + 1 by omega)).trans hv
    have u3 := (World.putObj_heap_other (w := W2) (o := o) (show w.heap.size + 1 + 1 + 1 ≠ w.heap.size + 1 + 1 + 1 + 1 + 1 + 1 by omega)).trans hz
    have gd := (World.putObj_heap_other (w := W2) (o := o) (show w.heap.size + 1 + 1 + 1 + 1 + 1 ≠ w.heap.size + 1 + 1 + 1 + 1 + 1 + 1 by omega)).trans hD
    have b3 := hB.trans (belowK_b (w := w) (Nat.le_refl _) W2 (w.heap.size + 1 + 1 + 1 + 1 + 1 + 1) _ o (by omega) hr rfl rfl)
    clear hn hv hz hB hr hD HRES
    generalize W2.putObj (w.heap.size + 1 + 1 + 1 + 1 + 1 + 1) o = W5 at *
    gi_wp2
    refine ⟨by simp, .inl ⟨_, _, rfl, run_takeDeferred gd, ?_⟩⟩
    have e2 := (World.putObj_heap_other (w := W5) (o := .deferred none) (show w.heap.size + 1 + 1 ≠ w.heap.size + 1 + 1 + 1 + 1 + 1 by omega)).trans v3
    have e3 := (World.putObj_heap_other (w := W5) (o := .deferred none) (show w.heap.size + 1 + 1 + 1 ≠ w.heap.size + 1 + 1 + 1 + 1 + 1 by omega)).trans u3
    have b5 := b3.trans (belowK_b (w := w) (Nat.le_refl _) W5 (w.heap.size + 1 + 1 + 1 + 1 + 1) _ (.deferred none) (by omega) gd rfl rfl)
    generalize W5.putObj (w.heap.size + 1 + 1 + 1 + 1 + 1) (.deferred none) = W6 at *
    have c2 : W6.cell? ⟨w.heap.size + 1 + 1, 0, none⟩ = some (.int .i64 d.f1) := (blk_cell e2 0).trans rfl
    have c3 : W6.cell? ⟨w.heap.size + 1 + 1 + 1, 0, none⟩ = some (.bool true) := (blk_cell e3 0).trans rfl
    refine ⟨.tuple #[.int .i64 d.f1, .bool true], ?_, rfl, b5⟩
    simp [results, Tryd.results19, go_sem, c2, c3]
def hitP (o : Option S39) : Int × Bool := match o with
  | none => (0, false)
  | some d => (d.f1, true)
def paint_Hit.f (l0 : List (S39)) (a1 : Int) (a2 : Int) : Option (Int × Bool) := if l0.length ≤ 200 then some (hitP (hitL a1 a2 l0)) else none
theorem paint_Hit.calls (A0 : Option Addr) (c0 : Nat) (l0 : List (S39)) (a1 : Int) (a2 : Int) (r1 : Int) (r2 : Bool) (w : World) (hr0 : Kd.C k39 w A0 l0.length l0) (hc0 : l0.length ≤ c0) (h : paint_Hit.f l0 a1 a2 = some (r1, r2)) (hG : GOK w) :
    Calls Tryd.prog 19 #[.slice A0 l0.length c0, .int .i64 a1, .int .i64 a2] w fun e w' => e = .returned (.tuple #[.int .i64 r1, .bool r2]) ∧ Below w.heap.size w w' := by
  have _hG := hG
  unfold paint_Hit.f at h
  split at h
  · refine callsIn_wide.1 (hit_core A0 c0 l0 a1 a2 w hr0 (by omega) hc0 r1 r2 ?_)
    have h := Option.some.inj h
    cases hh : hitL a1 a2 l0 with
    | none =>
      rw [hh, hitP, Prod.mk.injEq] at h
      exact .inl ⟨rfl, h.1.symm, h.2.symm⟩
    | some d =>
      rw [hh, hitP, Prod.mk.injEq] at h
      exact .inr ⟨d, rfl, h.1.symm, h.2.symm⟩
  · cases h
end Go.Proofs.YtkmddhljfjjglaaDoor.G
