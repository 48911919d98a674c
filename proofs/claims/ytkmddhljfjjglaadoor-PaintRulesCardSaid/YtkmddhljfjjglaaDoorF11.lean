/- Chapter 18: Bounds. Written by mkF11.py. -/
import Derived.Test.YtkmddhljfjjglaaDoorF10
namespace Go.Proofs.YtkmddhljfjjglaaDoor.G
open Go.RowKit Go.Shelf Go.Proofs.YtkmddhljfjjglaaDoorW.PrintWords Go.Proofs.YtkmddhljfjjglaaDoorW.PrintLast Go.Proofs.YtkmddhljfjjglaaDoorW.PrintMore

theorem all_any (x : S39) (w : World) : Calls Tryd.prog 37 (#[vS39 x] ++ #[]) w fun e w' => e = .returned (.bool true) ∧ Below w.heap.size w w' := by
  obtain ⟨x0, x1, ⟨r0, r1, r2, r3⟩⟩ := x
  unfold vS39
  simp only [List.append_toArray, List.append_nil]
  go_enter Tryd.func37, Tryd.ntmps37
  go_wp2
  go_ret
  exact ⟨rfl, below_alloc (Below.refl _ _) _⟩
def cs30 (r : S30) : Array Value := #[.int .i64 r.f0, .int .i64 r.f1, .int .i64 r.f2, .int .i64 r.f3]
def boundF (x : S30) (l : List S39) : S30 := l.foldl (fun o y => hullS o y.f2) x
theorem boundF_snoc (x : S30) (l : List S39) (y : S39) : boundF x (l ++ [y]) = hullS (boundF x l) y.f2 := by simp [boundF]
/-- What is laid between two rounds of Bounds. -/
def Bnd (w : World) (r : Loop) (D Bo : Nat) (x : S30) (pre : List S39) (W : World) : Prop :=
  ReadyAt r D W ∧ W.heap[Bo]? = some (.cells (cs30 (boundF x pre)) 30 (0, 0)) ∧ W.heap[w.heap.size]? = some (.cells (cs30 z30) 30 (0, 0)) ∧ Below w.heap.size w W
theorem Bnd.below {w : World} {r : Loop} {D Bo : Nat} {x : S30} {pre : List S39} {W W' : World} (h : Bnd w r D Bo x pre W) (hb : Below W.heap.size W W') : Bnd w r D Bo x pre W' := by
  obtain ⟨h1, h2, h3, h4⟩ := h
  exact ⟨h1.below hb, blk_below h2 hb, blk_below h3 hb, below_then h4 h4.size hb⟩
theorem set_other {W : World} {b i k : Nat} {v : Value} {o : Obj} (h : W.heap[k]? = some o) (hk : k ≠ b) : (W.setCell ⟨b, i, none⟩ v).heap[k]? = some o := by
  rw [Below.heap_setCell _ _ _ _ (by first | exact hk | exact fun e => hk e.symm)]
  exact h
attribute [local go_sem] Oper.semAt_some
set_option maxRecDepth 1000000 in
set_option maxHeartbeats 4000000 in
theorem bounds_yes (A : Option Addr) (c : Nat) (l : List S39) (w : World) (hr : Kd.C k39 w A l.length l) (hl : l.length ≤ 1000) (hw : ∀ x ∈ l, wfR x.f2 = true) (hB : areB l = true) (hpos : 0 < l.length) :
    CallsIn Fence.wide 8 Tryd.prog 17 #[.slice A l.length c] w fun e w' => e = .returned (.tuple #[vS30 (boundF (rd_T39 l 0).f2 l), .int .i64 0]) ∧ Below w.heap.size w w' := by
  have hb0 := below_alloc (Below.refl w.heap.size w) (.cells #[.int .i64 0, .int .i64 0, .int .i64 0, .int .i64 0] 30)
  have hv0 := blk_new w (.cells #[.int .i64 0, .int .i64 0, .int .i64 0, .int .i64 0] 30)
  have hsz0 : (w.alloc (.cells #[.int .i64 0, .int .i64 0, .int .i64 0, .int .i64 0] 30)).heap.size = w.heap.size + 1 := by simp
  have HOP := open_yes A c l _ (Kd.C_below hr hb0) hl hw hB
  rw [hsz0] at HOP
  have HOP := Aside0.mk HOP
  have HZ0 := Aside0.mk hsz0
  have HR := Aside0.mk hr
  have HB0 := Aside0.mk hb0
  have HV0 := Aside0.mk hv0
  have hne : (l.length == 0) = false := by rw [beq_eq_false_iff_ne]; omega
  clear hr hw hB hb0 hv0 hsz0
  refine callsIn_of_wp_marks Tryd.func17 rfl trivial ?_ rfl
  simp only [Tryd.ntmps17, List.size_toArray, List.length_cons, List.length_nil, Nat.reduceAdd, Nat.reduceSub, Array.replicate_succ, Array.replicate_zero, List.push_toArray, List.append_toArray, List.nil_append, List.cons_append]
  refine wpIn_wide.2 ?_
  go_wp2_with (first | (go_at_call 33; refine HOP.out.mono ?_; rintro e w2 ⟨rfl, hbk, hb⟩; rw [← HZ0.out] at hb; have HB2 := Aside0.mk (below_then HB0.out HB0.out.size hb); have HV2 := Aside0.mk (blk_below HV0.out hb); have HK2 := Aside0.mk hbk; have hx := at_T39 (Kd.C_below HR.out HB2.out) 0 (by omega) (by omega); clear hb hbk; obtain ⟨ad, ea, hx0, hx1, hx2, hx3, hx4, hx5⟩ := hx; cases ea; have e0 : ad.add (Int.toNat 0 * 6) = ad := (by simp [Addr.add]); rw [e0] at hx2 hx3 hx4 hx5; have y2 : w2.cell? ⟨ad.block, ad.off + 2, none⟩ = some (.int .i64 (rd_T39 l 0).f2.f0) := hx2; have y3 : w2.cell? ⟨ad.block, ad.off + 2 + 1, none⟩ = some (.int .i64 (rd_T39 l 0).f2.f1) := hx3; have y4 : w2.cell? ⟨ad.block, ad.off + 2 + 2, none⟩ = some (.int .i64 (rd_T39 l 0).f2.f2) := hx4; have y5 : w2.cell? ⟨ad.block, ad.off + 2 + 3, none⟩ = some (.int .i64 (rd_T39 l 0).f2.f3) := hx5; clear hx0 hx1 hx2 hx3 hx4 hx5 e0) | (go_at_call 36; refine (that_any _ _ _ _).mono ?_; rintro e w' ⟨rfl, rfl⟩))
  have hb3 : Below w2.heap.size w2 (((w2.alloc (.cells #[.int .i64 (rd_T39 l 0).f2.f0, .int .i64 (rd_T39 l 0).f2.f1, .int .i64 (rd_T39 l 0).f2.f2, .int .i64 (rd_T39 l 0).f2.f3] 30)).alloc (.cells #[.pointer (some ⟨w.heap.size + 1, 0, none⟩)] 62)).alloc (.cells #[.func (.func 37) #[] #[]] 65)) := below_alloc (below_alloc (below_alloc (Below.refl _ _) _) _) _
  have bo := blk_alloc (blk_alloc (blk_new w2 (.cells #[.int .i64 (rd_T39 l 0).f2.f0, .int .i64 (rd_T39 l 0).f2.f1, .int .i64 (rd_T39 l 0).f2.f2, .int .i64 (rd_T39 l 0).f2.f3] 30)) (.cells #[.pointer (some ⟨w.heap.size + 1, 0, none⟩)] 62)) (.cells #[.func (.func 37) #[] #[]] 65)
  have bc := blk_alloc (blk_new (w2.alloc (.cells #[.int .i64 (rd_T39 l 0).f2.f0, .int .i64 (rd_T39 l 0).f2.f1, .int .i64 (rd_T39 l 0).f2.f2, .int .i64 (rd_T39 l 0).f2.f3] 30)) (.cells #[.pointer (some ⟨w.heap.size + 1, 0, none⟩)] 62)) (.cells #[.func (.func 37) #[] #[]] 65)
  have bi := blk_new ((w2.alloc (.cells #[.int .i64 (rd_T39 l 0).f2.f0, .int .i64 (rd_T39 l 0).f2.f1, .int .i64 (rd_T39 l 0).f2.f2, .int .i64 (rd_T39 l 0).f2.f3] 30)).alloc (.cells #[.pointer (some ⟨w.heap.size + 1, 0, none⟩)] 62)) (.cells #[.func (.func 37) #[] #[]] 65)
  have z3 : (((w2.alloc (.cells #[.int .i64 (rd_T39 l 0).f2.f0, .int .i64 (rd_T39 l 0).f2.f1, .int .i64 (rd_T39 l 0).f2.f2, .int .i64 (rd_T39 l 0).f2.f3] 30)).alloc (.cells #[.pointer (some ⟨w.heap.size + 1, 0, none⟩)] 62)).alloc (.cells #[.func (.func 37) #[] #[]] 65)).heap.size = w2.heap.size + 1 + 1 + 1 := by simp
  simp only [World.size_alloc] at bc bi
  have B3 := Aside0.mk (below_then HB2.out HB2.out.size hb3)
  have HV3 := Aside0.mk (blk_below HV2.out hb3)
  have HK3 := Aside0.mk (blk_below HK2.out hb3)
  have BO := Aside0.mk bo
  have BC := Aside0.mk bc
  have BI := Aside0.mk bi
  have hlo : w.heap.size + 2 ≤ w2.heap.size := by have := blk_lt HK2.out; omega
  clear hb3 bo bc bi HB2 HV2 HK2 y2 y3 y4 y5
  generalize (((w2.alloc (.cells #[.int .i64 (rd_T39 l 0).f2.f0, .int .i64 (rd_T39 l 0).f2.f1, .int .i64 (rd_T39 l 0).f2.f2, .int .i64 (rd_T39 l 0).f2.f3] 30)).alloc (.cells #[.pointer (some ⟨w.heap.size + 1, 0, none⟩)] 62)).alloc (.cells #[.func (.func 37) #[] #[]] 65)) = W0 at *
  have BO : Aside0 (W0.heap[w2.heap.size]? = some (.cells (cs30 (rd_T39 l 0).f2) 30 (0, 0))) := ⟨BO.out⟩
  generalize hxx : (rd_T39 l 0).f2 = x at *
  have HXX := Aside0.mk hxx
  clear hxx
  refine (wpIn_wide (n := 8)).1 ?_
  refine range_any (F := Fence.wide) rfl (by omega) (gf := 58) (lb := #[.pointer (some ⟨w2.heap.size + 1, 0, none⟩), .pointer (some ⟨w2.heap.size + 1 + 1, 0, none⟩)]) rfl trivial (enters_of Tryd.func58 (by kernel_rfl) rfl)
    (fun W2 => W2.heap[w2.heap.size]? = some (.cells (cs30 (boundF x l)) 30 (0, 0)) ∧ W2.heap[w.heap.size]? = some (.cells (cs30 z30) 30 (0, 0)) ∧ Below w.heap.size w W2) (fun _ => False) ?hcall ?hdone ?hstop
  case hstop => exact fun _ _ h => h.elim
  case hcall =>
    intro fn r hfn hrec
    have hst : r.state = .ready := by rw [hrec]
    have hpe : r.pending = none := by rw [hrec]
    have hrf : Fence.wide.fn r.fn := trivial
    have ready0 : ReadyAt r (w2.heap.size + 1 + 1 + 1) ((W0.alloc (.deferred (some []))).alloc (.loop r)) := by
      rw [← z3]
      refine ⟨?_, blk_alloc (blk_new W0 _) _⟩
      have := blk_new (W0.alloc (.deferred (some []))) (.loop r)
      simpa using this
    have below0 : Below W0.heap.size W0 ((W0.alloc (.deferred (some []))).alloc (.loop r)) := below_alloc (below_alloc (Below.refl _ _) _) _
    have below1 := below_then B3.out B3.out.size below0
    rw [z3]
    refine (that_in 7 (by omega) (w2.heap.size + 1 + 1 + 1 + 1) (w2.heap.size + 1) (w2.heap.size + 1 + 1) (w.heap.size + 1) 37 #[] (fun _ => true) _ c l w (fun _ => True) (enters_of Tryd.func37 (by kernel_rfl) rfl) (fun _ _ _ _ => trivial) (fun x W _ => all_any x W) HR.out hl
      (Bnd w r (w2.heap.size + 1 + 1 + 1) w2.heap.size x) (fun _ _ => False) (fun s W W' h hb => h.below hb) ?hY _
      ⟨below1, blk_below BC.out below0, blk_below BI.out below0, blk_below HK3.out below0, trivial⟩ ⟨ready0, blk_below BO.out below0, blk_below HV3.out below0, below1⟩).mono ?_
    case hY =>
      rintro pre ⟨x0, x1, ⟨r0, r1, r2, r3⟩⟩ W hJ hlen
      obtain ⟨h1, h2, h3, h4⟩ := hJ
      have hsz := h4.size
      refine (yield_round (R := fun W' => Bnd w r (w2.heap.size + 1 + 1 + 1) w2.heap.size x (pre ++ [⟨x0, x1, ⟨r0, r1, r2, r3⟩⟩]) W' ∧ ∀ k o, W.heap[k]? = some o → k ≠ w2.heap.size + 1 + 1 + 1 + 1 → k ≠ w2.heap.size → W'.heap[k]? = some o) (Rx := fun _ => False) h1.1 hst hpe hrf (by rw [hrec]; rfl) ?_).mono ?_
      case _ =>
        have e1 := congrArg Loop.assign hrec
        have e2 := congrArg Loop.params hrec
        have e3 := congrArg Loop.body hrec
        have e4 := congrArg Loop.tmps hrec
        dsimp only at e1 e2 e3 e4
        clear hrec
        generalize hbz : ({ r with state := LoopState.busy } : Loop) = rb
        rw [e1, e2, e3, e4]
        clear e1 e2 e3 e4
        have H1 := Aside0.mk h1
        have H2 := Aside0.mk h2
        have H3 := Aside0.mk h3
        have H4 := Aside0.mk h4
        have hlt := blk_lt h1.1
        clear h1 h2 h3 h4 ready0 below0 below1
        unfold vS39
        gi_wp2
        refine And.intro (blk_alloc H1.out.1 _) ?_
        have hl1 := blk_alloc H1.out.1 (.cells #[.bool x0, .int .i64 x1, .int .i64 r0, .int .i64 r1, .int .i64 r2, .int .i64 r3] 39)
        have hp0 := blk_new W (.cells #[.bool x0, .int .i64 x1, .int .i64 r0, .int .i64 r1, .int .i64 r2, .int .i64 r3] 39)
        have hk0 : Aside0 (∀ k o, W.heap[k]? = some o → (W.alloc (.cells #[.bool x0, .int .i64 x1, .int .i64 r0, .int .i64 r1, .int .i64 r2, .int .i64 r3] 39)).heap[k]? = some o) := ⟨fun k o h => blk_alloc h _⟩
        have hB := below_alloc H4.out (.cells #[.bool x0, .int .i64 x1, .int .i64 r0, .int .i64 r1, .int .i64 r2, .int .i64 r3] 39)
        generalize W.alloc (.cells #[.bool x0, .int .i64 x1, .int .i64 r0, .int .i64 r1, .int .i64 r2, .int .i64 r3] 39) = Wa1 at *
        have hl2 : (Wa1.putObj (w2.heap.size + 1 + 1 + 1 + 1) (.loop rb)).heap[w2.heap.size + 1 + 1 + 1 + 1]? = some (.loop rb) := World.putObj_heap_same (blk_lt hl1)
        have hk1 : Aside0 (∀ k o, W.heap[k]? = some o → k ≠ w2.heap.size + 1 + 1 + 1 + 1 → (Wa1.putObj (w2.heap.size + 1 + 1 + 1 + 1) (.loop rb)).heap[k]? = some o) := ⟨fun k o h hk => (World.putObj_heap_other hk).trans (hk0.out k o h)⟩
        have hp2 := (World.putObj_heap_other (w := Wa1) (o := .loop rb) (show W.heap.size ≠ w2.heap.size + 1 + 1 + 1 + 1 by omega)).trans hp0
        have hB2 := hB.trans (belowK_b (w := w) (Nat.le_refl _) Wa1 (w2.heap.size + 1 + 1 + 1 + 1) _ (.loop rb) (by omega) hl1 rfl rfl)
        clear hp0 hB hl1 hk0
        generalize Wa1.putObj (w2.heap.size + 1 + 1 + 1 + 1) (.loop rb) = Wb at *
        have bo2 := hk1.out _ _ H2.out (by omega)
        have o0 : Wb.cell? ⟨w2.heap.size, 0, none⟩ = some (.int .i64 (boundF x pre).f0) := (blk_cell bo2 0).trans rfl
        have o1 : Wb.cell? ⟨w2.heap.size, 1, none⟩ = some (.int .i64 (boundF x pre).f1) := (blk_cell bo2 1).trans rfl
        have o2 : Wb.cell? ⟨w2.heap.size, 2, none⟩ = some (.int .i64 (boundF x pre).f2) := (blk_cell bo2 2).trans rfl
        have o3 : Wb.cell? ⟨w2.heap.size, 3, none⟩ = some (.int .i64 (boundF x pre).f3) := (blk_cell bo2 3).trans rfl
        have k2 : Wb.cell? ⟨W.heap.size, 2, none⟩ = some (.int .i64 r0) := (blk_cell hp2 2).trans rfl
        have k3 : Wb.cell? ⟨W.heap.size, 3, none⟩ = some (.int .i64 r1) := (blk_cell hp2 3).trans rfl
        have k4 : Wb.cell? ⟨W.heap.size, 4, none⟩ = some (.int .i64 r2) := (blk_cell hp2 4).trans rfl
        have k5 : Wb.cell? ⟨W.heap.size, 5, none⟩ = some (.int .i64 r3) := (blk_cell hp2 5).trans rfl
        have HF := Aside0.mk (boundF_snoc x pre ⟨x0, x1, ⟨r0, r1, r2, r3⟩⟩)
        have HH := Aside0.mk (hull_any (boundF x pre).f0 (boundF x pre).f1 (boundF x pre).f2 (boundF x pre).f3 r0 r1 r2 r3 Wb)
        obtain ⟨y, hy⟩ : ∃ y, hullS ⟨(boundF x pre).f0, (boundF x pre).f1, (boundF x pre).f2, (boundF x pre).f3⟩ ⟨r0, r1, r2, r3⟩ = y := ⟨_, rfl⟩
        have HY := Aside0.mk (show boundF x (pre ++ [⟨x0, x1, ⟨r0, r1, r2, r3⟩⟩]) = y from HF.out.trans hy)
        rw [hy] at HH
        clear hy HF
        obtain ⟨y0, y1, y2, y3⟩ := y
        unfold vS30 at HH
        dsimp only at HH
        have F1 := Aside0.mk hl2
        have F2 := Aside0.mk bo2
        have F5 := Aside0.mk hB2
        have hsz2 := hB2.size
        clear hl2 hp2 bo2 hB2
        gi_wp2_with fail
        refine ⟨trivial, ?_⟩
        refine (CallsIn.inRound _ (callsIn_wide.2 HH.out)).mono ?_
        rintro e W3 ⟨rfl, hb⟩
        have G1 := Aside0.mk (blk_below F1.out hb)
        have G2 := Aside0.mk (blk_below F2.out hb)
        have G5 := Aside0.mk (below_then F5.out hsz2 hb)
        have GK : Aside0 (∀ k o, W.heap[k]? = some o → k ≠ w2.heap.size + 1 + 1 + 1 + 1 → W3.heap[k]? = some o) := ⟨fun k o h hk => blk_below (hk1.out k o h hk) hb⟩
        have p0 := (blk_cell G2.out 0).trans (show _ = some (Value.int .i64 (boundF x pre).f0) from rfl)
        have p1 := (blk_cell G2.out 1).trans (show _ = some (Value.int .i64 (boundF x pre).f1) from rfl)
        have p2 := (blk_cell G2.out 2).trans (show _ = some (Value.int .i64 (boundF x pre).f2) from rfl)
        have p3 := (blk_cell G2.out 3).trans (show _ = some (Value.int .i64 (boundF x pre).f3) from rfl)
        have q0 := blk_frozen G2.out 0
        have q1 := blk_frozen G2.out 1
        have q2 := blk_frozen G2.out 2
        have q3 := blk_frozen G2.out 3
        clear hb o0 o1 o2 o3 k2 k3 k4 k5 hk1
        gi_wp2
        have gk : ∀ k o, W.heap[k]? = some o → k ≠ w2.heap.size + 1 + 1 + 1 + 1 → k ≠ w2.heap.size → ((((W3.setCell ⟨w2.heap.size, 0, none⟩ (.int .i64 y0)).setCell ⟨w2.heap.size, 1, none⟩ (.int .i64 y1)).setCell ⟨w2.heap.size, 2, none⟩ (.int .i64 y2)).setCell ⟨w2.heap.size, 3, none⟩ (.int .i64 y3)).heap[k]? = some o := fun k o h hk hk' => set_other (set_other (set_other (set_other (GK.out k o h hk) hk') hk') hk') hk'
        have g1 : ((((W3.setCell ⟨w2.heap.size, 0, none⟩ (.int .i64 y0)).setCell ⟨w2.heap.size, 1, none⟩ (.int .i64 y1)).setCell ⟨w2.heap.size, 2, none⟩ (.int .i64 y2)).setCell ⟨w2.heap.size, 3, none⟩ (.int .i64 y3)).heap[w2.heap.size + 1 + 1 + 1 + 1]? = some (.loop rb) := set_other (set_other (set_other (set_other G1.out (by omega)) (by omega)) (by omega)) (by omega)
        have g2 := blk_put (blk_put (blk_put (blk_put G2.out 0 (.int .i64 y0) rfl) 1 (.int .i64 y1) rfl) 2 (.int .i64 y2) rfl) 3 (.int .i64 y3) rfl
        have g5 := (((G5.out.setCell (p := ⟨w2.heap.size, 0, none⟩) (show w.heap.size ≤ w2.heap.size by omega) (.int .i64 y0)).setCell (p := ⟨w2.heap.size, 1, none⟩) (show w.heap.size ≤ w2.heap.size by omega) (.int .i64 y1)).setCell (p := ⟨w2.heap.size, 2, none⟩) (show w.heap.size ≤ w2.heap.size by omega) (.int .i64 y2)).setCell (p := ⟨w2.heap.size, 3, none⟩) (show w.heap.size ≤ w2.heap.size by omega) (.int .i64 y3)
        refine ⟨g1, ⟨⟨World.putObj_heap_same (blk_lt g1), (World.putObj_heap_other (by omega)).trans (gk _ _ H1.out.2 (by omega) (by omega))⟩, ?_, (World.putObj_heap_other (by omega)).trans (gk _ _ H3.out (by omega) (by omega)), g5.trans (belowK_b (w := w) (Nat.le_refl _) _ (w2.heap.size + 1 + 1 + 1 + 1) _ (.loop r) (by omega) g1 rfl rfl)⟩, fun k o h hk hk' => (World.putObj_heap_other hk).trans (gk k o h hk hk')⟩
        rw [HY.out]
        exact (World.putObj_heap_other (by omega)).trans g2
      case _ =>
        rintro e W' (⟨rfl, h, hk⟩ | ⟨_, h⟩)
        · exact .inl ⟨rfl, h, fun ⟨_, c2, c3, c4, _⟩ => ⟨h.2.2.2, hk (w2.heap.size + 1) _ c2 (by omega) (by omega), hk (w2.heap.size + 1 + 1) _ c3 (by omega) (by omega), hk (w.heap.size + 1) _ c4 (by omega) (by omega), trivial⟩⟩
        · exact h.elim
    · rintro e W' ⟨⟨v, rfl⟩, (⟨ys, rfl, h1, h2, h3, h4⟩ | ⟨_, _, h⟩)⟩
      · rw [show l.filter (fun _ => true) = l from List.filter_eq_self.2 (fun _ _ => rfl)] at h2
        exact ⟨⟨v, rfl⟩, .inl ⟨⟨h2, h3, h4⟩, h1⟩⟩
      · exact h.elim
  case hdone =>
    rintro o W2 ⟨hv, hz, hB⟩ ⟨r, hr⟩ hD
    rw [z3] at hr hD ⊢
    have v3 := (World.putObj_heap_other (w := W2) (o := o) (show w2.heap.size ≠ w2.heap.size + 1 + 1 + 1 + 1 by omega)).trans hv
    have z4 := (World.putObj_heap_other (w := W2) (o := o) (show w.heap.size ≠ w2.heap.size + 1 + 1 + 1 + 1 by omega)).trans hz
    have d3 := (World.putObj_heap_other (w := W2) (o := o) (show w2.heap.size + 1 + 1 + 1 ≠ w2.heap.size + 1 + 1 + 1 + 1 by omega)).trans hD
    have b3 := hB.trans (belowK_b (w := w) (Nat.le_refl _) W2 (w2.heap.size + 1 + 1 + 1 + 1) _ o (by omega) hr rfl rfl)
    clear hv hz hB hr hD
    generalize W2.putObj (w2.heap.size + 1 + 1 + 1 + 1) o = W3 at *
    have HYY : Aside0 (∃ y, boundF (rd_T39 l 0).f2 l = y ∧ boundF x l = y) := ⟨_, by rw [HXX.out], rfl⟩
    obtain ⟨y, hy1, hy2⟩ := HYY.out
    rw [hy2] at v3
    have HY1 := Aside0.mk hy1
    clear hy1 hy2 HYY
    obtain ⟨y0, y1, y2, y3⟩ := y
    have p0 := (blk_cell v3 0).trans (show _ = some (Value.int .i64 y0) from rfl)
    have p1 := (blk_cell v3 1).trans (show _ = some (Value.int .i64 y1) from rfl)
    have p2 := (blk_cell v3 2).trans (show _ = some (Value.int .i64 y2) from rfl)
    have p3 := (blk_cell v3 3).trans (show _ = some (Value.int .i64 y3) from rfl)
    have s0 := (blk_cell z4 0).trans (show _ = some (Value.int .i64 0) from rfl)
    have s1 := (blk_cell z4 1).trans (show _ = some (Value.int .i64 0) from rfl)
    have s2 := (blk_cell z4 2).trans (show _ = some (Value.int .i64 0) from rfl)
    have s3 := (blk_cell z4 3).trans (show _ = some (Value.int .i64 0) from rfl)
    have q0 := blk_frozen z4 0
    have q1 := blk_frozen z4 1
    have q2 := blk_frozen z4 2
    have q3 := blk_frozen z4 3
    have Z4 := Aside0.mk z4
    have D3 := Aside0.mk d3
    have B4 := Aside0.mk b3
    clear v3 z4 d3 b3
    go_wp2
    have f0 := blk_put (blk_put (blk_put (blk_put Z4.out 0 (.int .i64 y0) rfl) 1 (.int .i64 y1) rfl) 2 (.int .i64 y2) rfl) 3 (.int .i64 y3) rfl
    have d4 := set_other (b := w.heap.size) (i := 3) (v := .int .i64 y3) (set_other (b := w.heap.size) (i := 2) (v := .int .i64 y2) (set_other (b := w.heap.size) (i := 1) (v := .int .i64 y1) (set_other (b := w.heap.size) (i := 0) (v := .int .i64 y0) D3.out (by omega)) (by omega)) (by omega)) (by omega)
    have b4 := (((B4.out.setCell (p := ⟨w.heap.size, 0, none⟩) (Nat.le_refl _) (.int .i64 y0)).setCell (p := ⟨w.heap.size, 1, none⟩) (Nat.le_refl _) (.int .i64 y1)).setCell (p := ⟨w.heap.size, 2, none⟩) (Nat.le_refl _) (.int .i64 y2)).setCell (p := ⟨w.heap.size, 3, none⟩) (Nat.le_refl _) (.int .i64 y3)
    clear p0 p1 p2 p3 s0 s1 s2 s3 q0 q1 q2 q3 Z4 B4 D3
    generalize (((W3.setCell ⟨w.heap.size, 0, none⟩ (.int .i64 y0)).setCell ⟨w.heap.size, 1, none⟩ (.int .i64 y1)).setCell ⟨w.heap.size, 2, none⟩ (.int .i64 y2)).setCell ⟨w.heap.size, 3, none⟩ (.int .i64 y3) = W5 at *
    refine ⟨by simp, .inl ⟨_, _, rfl, run_takeDeferred d4, ?_⟩⟩
    have f1 := (World.putObj_heap_other (w := W5) (o := .deferred none) (show w.heap.size ≠ w2.heap.size + 1 + 1 + 1 by omega)).trans f0
    have b5 := b4.trans (belowK_b (w := w) (Nat.le_refl _) W5 (w2.heap.size + 1 + 1 + 1) _ (.deferred none) (by omega) d4 rfl rfl)
    generalize W5.putObj (w2.heap.size + 1 + 1 + 1) (.deferred none) = W6 at *
    have c0 : W6.cell? ⟨w.heap.size, 0, none⟩ = some (.int .i64 y0) := (blk_cell f1 0).trans rfl
    have c1 : W6.cell? ⟨w.heap.size, 1, none⟩ = some (.int .i64 y1) := (blk_cell f1 1).trans rfl
    have c2 : W6.cell? ⟨w.heap.size, 2, none⟩ = some (.int .i64 y2) := (blk_cell f1 2).trans rfl
    have c3 : W6.cell? ⟨w.heap.size, 3, none⟩ = some (.int .i64 y3) := (blk_cell f1 3).trans rfl
    refine ⟨.tuple #[.agg #[.int .i64 y0, .int .i64 y1, .int .i64 y2, .int .i64 y3], .int .i64 0], ?_, by rw [HY1.out]; rfl, b5⟩
    simp [results, Tryd.results17, go_sem, c0, c1, c2, c3]
set_option maxRecDepth 1000000 in
set_option maxHeartbeats 2000000 in
theorem bounds_no (A : Option Addr) (c : Nat) (l : List S39) (w : World) (hr : Kd.C k39 w A l.length l) (hl : l.length ≤ 1000) (hw : ∀ x ∈ l, wfR x.f2 = true) (hB : areB l = false) (a : Addr) (hs : w.cell? ⟨0, 0, none⟩ = some (.iface 136 (.pointer (some a)))) :
    Calls Tryd.prog 17 #[.slice A l.length c] w fun e w' => e = .returned (.tuple #[.agg #[.int .i64 0, .int .i64 0, .int .i64 0, .int .i64 0], .int .i64 170]) ∧ Below w.heap.size w w' := by
  have hb0 := below_alloc (Below.refl w.heap.size w) (.cells #[.int .i64 0, .int .i64 0, .int .i64 0, .int .i64 0] 30)
  have hv0 := blk_new w (.cells #[.int .i64 0, .int .i64 0, .int .i64 0, .int .i64 0] 30)
  have HOP := Aside0.mk (open_no A c l _ (Kd.C_below hr hb0) hl hw hB a (pw_cell_below hb0 hs))
  have HB0 := Aside0.mk hb0
  have HV0 := Aside0.mk hv0
  have HS := Aside0.mk hs
  clear hr hw hB hb0 hv0 hs
  go_enter Tryd.func17, Tryd.ntmps17
  go_wp2_with (first | (go_at_call 33; refine HOP.out.mono ?_; rintro e w2 ⟨rfl, hb⟩; have HB2 := Aside0.mk (below_then HB0.out HB0.out.size hb); have HV2 := Aside0.mk (blk_below HV0.out hb); have g0 := pw_cell_below HB2.out HS.out; have k0 := (blk_cell HV2.out 0).trans (show _ = some (Value.int .i64 0) from rfl); have k1 := (blk_cell HV2.out 1).trans (show _ = some (Value.int .i64 0) from rfl); have k2 := (blk_cell HV2.out 2).trans (show _ = some (Value.int .i64 0) from rfl); have k3 := (blk_cell HV2.out 3).trans (show _ = some (Value.int .i64 0) from rfl); have f0 := blk_frozen HV2.out 0; have f1 := blk_frozen HV2.out 1; have f2 := blk_frozen HV2.out 2; have f3 := blk_frozen HV2.out 3; clear hb) | (go_at_call 29; refine (told_paint a _ (pw_cell_below HB2.out HS.out)).mono ?_; rintro e w' ⟨rfl, rfl⟩))
  have g2 := blk_put (blk_put (blk_put (blk_put HV2.out 0 (.int .i64 0) rfl) 1 (.int .i64 0) rfl) 2 (.int .i64 0) rfl) 3 (.int .i64 0) rfl
  have g5 := (((HB2.out.setCell (p := ⟨w.heap.size, 0, none⟩) (Nat.le_refl _) (.int .i64 0)).setCell (p := ⟨w.heap.size, 1, none⟩) (Nat.le_refl _) (.int .i64 0)).setCell (p := ⟨w.heap.size, 2, none⟩) (Nat.le_refl _) (.int .i64 0)).setCell (p := ⟨w.heap.size, 3, none⟩) (Nat.le_refl _) (.int .i64 0)
  generalize (((w2.setCell ⟨w.heap.size, 0, none⟩ (.int .i64 0)).setCell ⟨w.heap.size, 1, none⟩ (.int .i64 0)).setCell ⟨w.heap.size, 2, none⟩ (.int .i64 0)).setCell ⟨w.heap.size, 3, none⟩ (.int .i64 0) = W5 at *
  have c0 : W5.cell? ⟨w.heap.size, 0, none⟩ = some (.int .i64 0) := (blk_cell g2 0).trans rfl
  have c1 : W5.cell? ⟨w.heap.size, 1, none⟩ = some (.int .i64 0) := (blk_cell g2 1).trans rfl
  have c2 : W5.cell? ⟨w.heap.size, 2, none⟩ = some (.int .i64 0) := (blk_cell g2 2).trans rfl
  have c3 : W5.cell? ⟨w.heap.size, 3, none⟩ = some (.int .i64 0) := (blk_cell g2 3).trans rfl
  exact bodyPost_ret (v := .tuple #[.agg #[.int .i64 0, .int .i64 0, .int .i64 0, .int .i64 0], .int .i64 170]) (by simp [results, Tryd.results17, go_sem, c0, c1, c2, c3]) rfl ⟨rfl, g5⟩
set_option maxRecDepth 1000000 in
set_option maxHeartbeats 2000000 in
theorem bounds_nil (A : Option Addr) (c : Nat) (w : World) (a : Addr) (hs : w.cell? ⟨0, 0, none⟩ = some (.iface 136 (.pointer (some a)))) :
    Calls Tryd.prog 17 #[.slice A 0 c] w fun e w' => e = .returned (.tuple #[.agg #[.int .i64 0, .int .i64 0, .int .i64 0, .int .i64 0], .int .i64 170]) ∧ Below w.heap.size w w' := by
  have hb0 := below_alloc (Below.refl w.heap.size w) (.cells #[.int .i64 0, .int .i64 0, .int .i64 0, .int .i64 0] 30)
  have hv0 := blk_new w (.cells #[.int .i64 0, .int .i64 0, .int .i64 0, .int .i64 0] 30)
  have HOP := Aside0.mk (open_yes A c [] (w.alloc (.cells #[.int .i64 0, .int .i64 0, .int .i64 0, .int .i64 0] 30)) ⟨rfl, by simp, fun h => absurd h (by simp)⟩ (by simp) (by simp) rfl)
  have HB0 := Aside0.mk hb0
  have HV0 := Aside0.mk hv0
  have HS := Aside0.mk hs
  clear hb0 hv0 hs
  go_enter Tryd.func17, Tryd.ntmps17
  go_wp2_with (first | (go_at_call 33; refine HOP.out.mono ?_; rintro e w2 ⟨rfl, _, hb⟩; have HB2 := Aside0.mk (below_then HB0.out HB0.out.size hb); have HV2 := Aside0.mk (blk_below HV0.out hb); have g0 := pw_cell_below HB2.out HS.out; have k0 := (blk_cell HV2.out 0).trans (show _ = some (Value.int .i64 0) from rfl); have k1 := (blk_cell HV2.out 1).trans (show _ = some (Value.int .i64 0) from rfl); have k2 := (blk_cell HV2.out 2).trans (show _ = some (Value.int .i64 0) from rfl); have k3 := (blk_cell HV2.out 3).trans (show _ = some (Value.int .i64 0) from rfl); have f0 := blk_frozen HV2.out 0; have f1 := blk_frozen HV2.out 1; have f2 := blk_frozen HV2.out 2; have f3 := blk_frozen HV2.out 3; clear hb) | (go_at_call 29; refine (told_paint a _ (pw_cell_below HB2.out HS.out)).mono ?_; rintro e w' ⟨rfl, rfl⟩))
  have g2 := blk_put (blk_put (blk_put (blk_put HV2.out 0 (.int .i64 0) rfl) 1 (.int .i64 0) rfl) 2 (.int .i64 0) rfl) 3 (.int .i64 0) rfl
  have g5 := (((HB2.out.setCell (p := ⟨w.heap.size, 0, none⟩) (Nat.le_refl _) (.int .i64 0)).setCell (p := ⟨w.heap.size, 1, none⟩) (Nat.le_refl _) (.int .i64 0)).setCell (p := ⟨w.heap.size, 2, none⟩) (Nat.le_refl _) (.int .i64 0)).setCell (p := ⟨w.heap.size, 3, none⟩) (Nat.le_refl _) (.int .i64 0)
  generalize (((w2.setCell ⟨w.heap.size, 0, none⟩ (.int .i64 0)).setCell ⟨w.heap.size, 1, none⟩ (.int .i64 0)).setCell ⟨w.heap.size, 2, none⟩ (.int .i64 0)).setCell ⟨w.heap.size, 3, none⟩ (.int .i64 0) = W5 at *
  have c0 : W5.cell? ⟨w.heap.size, 0, none⟩ = some (.int .i64 0) := (blk_cell g2 0).trans rfl
  have c1 : W5.cell? ⟨w.heap.size, 1, none⟩ = some (.int .i64 0) := (blk_cell g2 1).trans rfl
  have c2 : W5.cell? ⟨w.heap.size, 2, none⟩ = some (.int .i64 0) := (blk_cell g2 2).trans rfl
  have c3 : W5.cell? ⟨w.heap.size, 3, none⟩ = some (.int .i64 0) := (blk_cell g2 3).trans rfl
  exact bodyPost_ret (v := .tuple #[.agg #[.int .i64 0, .int .i64 0, .int .i64 0, .int .i64 0], .int .i64 170]) (by simp [results, Tryd.results17, go_sem, c0, c1, c2, c3]) rfl ⟨rfl, g5⟩
def boundsL (l : List S39) : S30 := boundF (rd_T39 l 0).f2 l
def paint_Bounds.f (l0 : List (S39)) : Option (Int × Int × Int × Int × Int) := if l0.length ≤ 200 ∧ wfD l0 = true then some (if areB l0 = true ∧ 0 < l0.length then ((boundsL l0).f0, (boundsL l0).f1, (boundsL l0).f2, (boundsL l0).f3, 0) else (0, 0, 0, 0, 170)) else none
theorem paint_Bounds.calls (A0 : Option Addr) (c0 : Nat) (l0 : List (S39)) (r1 : Int) (r2 : Int) (r3 : Int) (r4 : Int) (r5 : Int) (w : World) (hr0 : Kd.C k39 w A0 l0.length l0) (hc0 : l0.length ≤ c0) (h : paint_Bounds.f l0 = some (r1, r2, r3, r4, r5)) (hG : GOK w) :
    Calls Tryd.prog 17 #[.slice A0 l0.length c0] w fun e w' => e = .returned (.tuple #[.agg #[.int .i64 r1, .int .i64 r2, .int .i64 r3, .int .i64 r4], .int .i64 r5]) ∧ Below w.heap.size w w' := by
  have _h0 := hc0
  obtain ⟨⟨a, ha⟩, _⟩ := hG
  unfold paint_Bounds.f at h
  split at h
  · rename_i hq
    obtain ⟨q0, q2⟩ := hq
    by_cases hB : areB l0 = true
    · by_cases hp : 0 < l0.length
      · rw [if_pos ⟨hB, hp⟩] at h
        simp only [Option.some.injEq, Prod.mk.injEq] at h
        obtain ⟨rfl, rfl, rfl, rfl, rfl⟩ := h
        exact callsIn_wide.1 (bounds_yes A0 c0 l0 w hr0 (by omega) (wfD_mem q2) hB hp)
      · rw [if_neg (fun h => hp h.2)] at h
        simp only [Option.some.injEq, Prod.mk.injEq] at h
        obtain ⟨rfl, rfl, rfl, rfl, rfl⟩ := h
        have e : l0 = [] := List.eq_nil_of_length_eq_zero (by omega)
        subst e
        exact bounds_nil A0 c0 w a ha
    · rw [if_neg (fun h => hB h.1)] at h
      simp only [Option.some.injEq, Prod.mk.injEq] at h
      obtain ⟨rfl, rfl, rfl, rfl, rfl⟩ := h
      exact bounds_no A0 c0 l0 w hr0 (by omega) (wfD_mem q2) (Bool.eq_false_iff.mpr hB) a ha
  · cases h
end Go.Proofs.YtkmddhljfjjglaaDoor.G
