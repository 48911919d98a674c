/- Chapter 18: Draws. Written by mkF8.py. -/
import Derived.Test.YtkmddhljfjjglaaDoorF7
import Derived.Maps.AppendAt
namespace Go.Proofs.YtkmddhljfjjglaaDoor.G
open Go.RowKit Go.Shelf Go.Proofs.YtkmddhljfjjglaaDoorW.PrintWords Go.Proofs.YtkmddhljfjjglaaDoorW.PrintLast Go.Proofs.YtkmddhljfjjglaaDoorW.PrintMore

theorem own_base {W : World} {base base' : Nat} {e : TypeId} {size : Nat} {v : Value} {k : Nat} {xs : List Value} (h : W.ownsRow base e size v k xs) (hb : base' ≤ base) : W.ownsRow base' e size v k xs := by
  refine ⟨h.1, ?_⟩
  rcases h.2 with hn | ⟨g, cap, cur, hv, hbg, rest⟩
  · exact .inl hn
  · exact .inr ⟨g, cap, cur, hv, Nat.le_trans hb hbg, rest⟩
theorem C39_of_own {W : World} {base : Nat} {v : Value} {l : List S39} (h : W.ownsRow base 39 6 v l.length (row39 l)) : ∃ A c, v = .slice A l.length c ∧ l.length ≤ c ∧ Kd.C k39 W A l.length l := Kd.R_reads (R39_of_own h)
theorem cells_at (W : World) (g : Nat) (t : TypeId) (hg : W.heap.size = g) (l : List Value) (j : Nat) (u : Value) (h : l[j]? = some u) : (W.alloc (.cells l.toArray t)).cell? (Addr.add ⟨g, 0, none⟩ j) = some u := by
  subst hg
  exact cells_new W t l j u h
/-- What an iterator over a canvas reads lies there as soon as it is made. -/
theorem cv_make (W : World) (C : Nat) (pv : Value) (A : Option Addr) (n c : Nat) (PF : World → Prop) (hC : W.heap[C]? = some (.cells #[.slice A n c] 95 (0, 0))) (hPF : ∀ W', Below W.heap.size W W' → PF W') :
    ∀ W', Below ((W.alloc (.cells #[.pointer (some ⟨C, 0, none⟩)] 62)).alloc (.cells #[pv] 65)).heap.size ((W.alloc (.cells #[.pointer (some ⟨C, 0, none⟩)] 62)).alloc (.cells #[pv] 65)) W' → Cv W W.heap.size (W.heap.size + 1) C pv A n c PF W' := by
  intro W' hb
  have h1 : Below W.heap.size W ((W.alloc (.cells #[.pointer (some ⟨C, 0, none⟩)] 62)).alloc (.cells #[pv] 65)) := below_alloc (below_alloc (Below.refl _ _) _) _
  have h2 := below_then h1 h1.size hb
  have b1 := blk_below (blk_alloc (blk_new W (.cells #[.pointer (some ⟨C, 0, none⟩)] 62)) (.cells #[pv] 65)) hb
  have b2 := blk_below (blk_new (W.alloc (.cells #[.pointer (some ⟨C, 0, none⟩)] 62)) (.cells #[pv] 65)) hb
  exact ⟨h2, b1, (by simpa using b2 : W'.heap[W.heap.size + 1]? = some (.cells #[pv] 65 (0, 0))), blk_below hC h2, hPF _ h2⟩
/-- Is it drawn? -/
def drawnB (x : S39) : Bool := x.f0 || (decide (x.f2.f2 > 0) && decide (x.f2.f3 > 0))
set_option maxRecDepth 100000 in
theorem drawn_any (x : S39) (w : World) : Calls Tryd.prog 34 #[vS39 x] w fun e w' => e = .returned (.bool (drawnB x)) ∧ Below w.heap.size w w' := by
  obtain ⟨x0, x1, ⟨r0, r1, r2, r3⟩⟩ := x
  unfold vS39
  have hB := Aside0.mk (below_alloc (Below.refl w.heap.size w) (.cells #[.bool x0, .int .i64 x1, .int .i64 r0, .int .i64 r1, .int .i64 r2, .int .i64 r3] 39))
  have HE := Aside0.mk (show drawnB ⟨x0, x1, ⟨r0, r1, r2, r3⟩⟩ = (x0 || (decide (r2 > 0) && decide (r3 > 0))) from rfl)
  cases x0
  · by_cases h2 : r2 > 0
    · go_enter Tryd.func34, Tryd.ntmps34
      go_wp2
      go_ret
      exact ⟨by rw [HE.out, decide_eq_true h2]; simp, hB.out⟩
    · go_enter Tryd.func34, Tryd.ntmps34
      go_wp2
      go_ret
      exact ⟨by rw [HE.out, show decide (r2 > 0) = false from decide_eq_false (by omega)]; rfl, hB.out⟩
  · go_enter Tryd.func34, Tryd.ntmps34
    go_wp2
    go_ret
    exact ⟨by rw [HE.out]; rfl, hB.out⟩
def mkR (r : S30) : S39 := ⟨true, 0, r⟩
def mkF (f : S41) : S39 := ⟨false, f.f0, f.f3⟩
def drawsL (rs : List S30) (fs : List S41) : List S39 := rs.map mkR ++ fs.map mkF
theorem takeR_rd (rs : List S30) (k : Nat) (hk : k < rs.length) : (rs.take (k + 1)).map mkR = (rs.take k).map mkR ++ [mkR (rd_T30 rs k)] := by
  rw [List.take_succ_eq_append_getElem hk, List.map_append]
  simp [rd_T30, hk]
theorem takeF_rd (fs : List S41) (k : Nat) (hk : k < fs.length) : (fs.take (k + 1)).map mkF = (fs.take k).map mkF ++ [mkF (rd_T41 fs k)] := by
  rw [List.take_succ_eq_append_getElem hk, List.map_append]
  simp [rd_T41, hk]
/-- What the first loops of Draws make. -/
theorem own_ne_any {W : World} {base : Nat} {e : TypeId} {size : Nat} {v : Value} {k : Nat} {xs : List Value} (h : W.ownsRow base e size v k xs) : ∀ j, v.ownBlock = some j → base ≤ j := fun j hj => (h.lt j hj).1
set_option maxRecDepth 1000000 in
set_option maxHeartbeats 4000000 in
theorem draws_core (A0 : Option Addr) (c0 : Nat) (rs : List S30) (A1 : Option Addr) (c1 : Nat) (fs : List S41) (w : World) (hr0 : Kd.C k30 w A0 rs.length rs) (hr1 : Kd.C k41 w A1 fs.length fs) (h0 : rs.length ≤ 200) (h1 : fs.length ≤ 200)
    (hw : ∀ x ∈ drawsL rs fs, wfR x.f2 = true) (a : Addr) (hs : w.cell? ⟨0, 0, none⟩ = some (.iface 136 (.pointer (some a)))) (rz : Int) (out : List S39) (hB : (areB (drawsL rs fs) = true ∧ rz = 0 ∧ out = (drawsL rs fs).filter drawnB) ∨ (areB (drawsL rs fs) = false ∧ rz = 170 ∧ out = [])) :
    Calls Tryd.prog 15 #[.slice A0 rs.length c0, .slice A1 fs.length c1] w fun e w' => ∃ v0_ : Value, e = .returned (.tuple #[v0_, .int .i64 rz]) ∧ Kd.R k39 39 w' w.heap.size (fun _ => True) v0_ out ∧ Below w.heap.size w w' := by
  obtain ⟨i0, hi, hz0, hz1, hz2⟩ := info_parts infoD
  have HR0 := Aside0.mk hr0
  have HR1 := Aside0.mk hr1
  have HW := Aside0.mk hw
  have HS := Aside0.mk hs
  have HI := Aside0.mk hi
  have HAB := Aside0.mk hB
  clear hr0 hr1 hw hs hi hB
  go_enter Tryd.func15, Tryd.ntmps15
  go_wp2
  go_loopw [6, 16] (fun v i wr => ∃ k : Nat, k ≤ rs.length ∧ i = .int .i64 k ∧ Aside0 (wr.ownsRow w.heap.size 39 6 v k (row39 ((rs.take k).map mkR))) ∧ Aside0 (Below w.heap.size w wr)) (fun _ i _ => rs.length - (intOf i).toNat)
  case atStart => exact ⟨0, Nat.zero_le _, rfl, ⟨World.ownsRow_nil _ _ _ _⟩, ⟨Below.refl _ _⟩⟩
  case round =>
    obtain ⟨k, hk, rfl, HO, HB⟩ := hrel
    by_cases hlt : k < rs.length
    · obtain ⟨ad, ea, hx0, hx1, hx2, hx3⟩ := at_T30 (Kd.C_below HR0.out HB.out) (k : Int) (by omega) (by omega)
      cases ea
      simp only [Int.toNat_natCast] at hx0 hx1 hx2 hx3
      have ht := Aside0.mk (takeR_rd rs k hlt)
      have hsz := HB.out.size
      generalize rd_T30 rs k = x at *
      obtain ⟨q0, q1, q2, q3⟩ := x
      dsimp only at hx0 hx1 hx2 hx3
      have HB1 := Aside0.mk (below_alloc (below_alloc HB.out (.cells #[.int .i64 q0, .int .i64 q1, .int .i64 q2, .int .i64 q3] 30)) (.cells #[.bool true, .int .i64 0, .int .i64 q0, .int .i64 q1, .int .i64 q2, .int .i64 q3] 39))
      go_wp2_with (at_builtin; refine wpList_append_own _ rfl _ _ 35 rfl w.heap.size 39 i0 (.agg #[(.bool false), (.int .i64 0), (.int .i64 0), (.int .i64 0), (.int .i64 0), (.int .i64 0)]) 6 48 Tryd.underlying35 HI.out hz0 hz1 hz2 rfl (by decide) _ _ _ rfl ((HO.out.alloc _).alloc _) ⟨wr.heap.size + 1, 0, none⟩ 1 1 (cs39 ⟨true, 0, ⟨q0, q1, q2, q3⟩⟩) rfl rfl (fun j u h => cells_at _ _ 39 (by simp) (cs39 ⟨true, 0, ⟨q0, q1, q2, q3⟩⟩) j u h) (by simp [Value.oneCell', cs39]) (by unfold maxLen; omega) (by omega) (by simp; omega) ?_; intro v' w1 hown' hgrow _; have HO1 := Aside0.mk hown'; have HG1 := Aside0.mk hgrow; clear hown' hgrow)
      go_roundw
      case rel => exact ⟨k + 1, by omega, by go_num, ⟨by rw [ht.out, row39_snoc]; exact HO1.out⟩, ⟨HB1.out.grown HG1.out HB1.out.size (own_ne_any HO.out)⟩⟩
      case measure => simp [intOf]; omega
    · have e : k = rs.length := by omega
      subst e
      rw [List.take_length] at HO
      clear hlt hk
      go_wp2
      go_loopw [6, 28] (fun v i wr => ∃ k : Nat, k ≤ fs.length ∧ i = .int .i64 k ∧ Aside0 (wr.ownsRow w.heap.size 39 6 v (rs.length + k) (row39 (rs.map mkR ++ (fs.take k).map mkF))) ∧ Aside0 (Below w.heap.size w wr)) (fun _ i _ => fs.length - (intOf i).toNat)
      case atStart => exact ⟨0, Nat.zero_le _, rfl, ⟨by simpa using HO.out⟩, HB⟩
      case round =>
        clear HO HB
        obtain ⟨k, hk, rfl, HO, HB⟩ := hrel
        by_cases hlt : k < fs.length
        · obtain ⟨ad, ea, hx0, hx1, hx2, hx3, hx4, hx5, hx6⟩ := at_T41 (Kd.C_below HR1.out HB.out) (k : Int) (by omega) (by omega)
          cases ea
          simp only [Int.toNat_natCast] at hx0 hx1 hx2 hx3 hx4 hx5 hx6
          have ht := Aside0.mk (takeF_rd fs k hlt)
          have hsz := HB.out.size
          generalize rd_T41 fs k = x at *
          obtain ⟨n0, n1, n2, ⟨q0, q1, q2, q3⟩⟩ := x
          dsimp only at hx0 hx1 hx2 hx3 hx4 hx5 hx6
          have HB1 := Aside0.mk (below_alloc (below_alloc HB.out (.cells #[.int .i64 n0, .int .i64 n1, .int .i64 n2, .int .i64 q0, .int .i64 q1, .int .i64 q2, .int .i64 q3] 41)) (.cells #[.bool false, .int .i64 n0, .int .i64 q0, .int .i64 q1, .int .i64 q2, .int .i64 q3] 39))
          rename World => wq
          go_wp2_with (at_builtin; refine wpList_append_own _ rfl _ _ 35 rfl w.heap.size 39 i0 (.agg #[(.bool false), (.int .i64 0), (.int .i64 0), (.int .i64 0), (.int .i64 0), (.int .i64 0)]) 6 48 Tryd.underlying35 HI.out hz0 hz1 hz2 rfl (by decide) _ _ _ rfl ((HO.out.alloc _).alloc _) ⟨wq.heap.size + 1, 0, none⟩ 1 1 (cs39 ⟨false, n0, ⟨q0, q1, q2, q3⟩⟩) rfl rfl (fun j u h => cells_at _ _ 39 (by simp) (cs39 ⟨false, n0, ⟨q0, q1, q2, q3⟩⟩) j u h) (by simp [Value.oneCell', cs39]) (by unfold maxLen; omega) (by omega) (by simp; omega) ?_; intro v' w1 hown' hgrow _; have HO1 := Aside0.mk hown'; have HG1 := Aside0.mk hgrow; clear hown' hgrow)
          go_roundw
          case rel => exact ⟨k + 1, by omega, by go_num, ⟨by rw [ht.out, ← List.append_assoc, row39_snoc]; exact HO1.out⟩, ⟨HB1.out.grown HG1.out HB1.out.size (own_ne_any HO.out)⟩⟩
          case measure => simp [intOf]; omega
        · have e : k = fs.length := by omega
          subst e
          rw [List.take_length] at HO
          clear hlt hk
          rename World => wq
          have hlen : (drawsL rs fs).length = rs.length + fs.length := by simp [drawsL]
          obtain ⟨A, cc, rfl, hcc, hC⟩ := C39_of_own (l := drawsL rs fs) (by rw [hlen]; exact HO.out)
          have HC := Aside0.mk hC
          rw [hlen]
          rw [hlen] at hC
          have HL := Aside0.mk hlen
          generalize drawsL rs fs = l at *
          have hll : l.length ≤ 1000 := by omega
          have hk0 := pw_cell_below HB.out HS.out
          rw [← hlen]
          clear hC
          rcases HAB.out with ⟨hy, rfl, rfl⟩ | ⟨hy, rfl, rfl⟩
          · have HOP := Aside0.mk (open_yes A cc l wq HC.out hll HW.out hy)
            have HCO := Aside0.mk (fun w2 hc W hk => collect_that w2.heap.size (w2.heap.size + 1) wq.heap.size 34 #[] drawnB A cc l w2 (fun _ => True) (enters_of Tryd.func34 (by kernel_rfl) rfl) (fun _ _ _ _ => trivial) (fun x W _ => drawn_any x W) hc hll W hk)
            clear hk0 hy HAB hlen hcc
            go_wp2_with (first | (go_at_call 33; refine HOP.out.mono ?_; rintro e w2 ⟨rfl, hbk, hb⟩; have HB2 := Aside0.mk (below_then HB.out HB.out.size hb); have HK2 := Aside0.mk (cv_make w2 wq.heap.size (.func (.func 34) #[] #[]) A l.length cc (fun _ => True) hbk (fun _ _ => trivial)); have HC2 := Aside0.mk (HCO.out w2 (Kd.C_below HC.out hb) _ HK2.out); have HB4 := Aside0.mk (below_alloc (below_alloc HB2.out (.cells #[.pointer (some ⟨wq.heap.size, 0, none⟩)] 62)) (.cells #[.func (.func 34) #[] #[]] 65)); clear hb hbk) | (go_at_call 36; refine (that_any _ _ _ _).mono ?_; rintro e w' ⟨rfl, rfl⟩) | (go_at_call 35; refine HC2.out.mono ?_; rintro e w3 ⟨v3, rfl, ho, hb⟩; have HO3 := Aside0.mk ho; have HB3 := Aside0.mk (below_then HB4.out HB4.out.size hb); clear ho hb))
            go_ret2
            exact ⟨_, rfl, R39_of_own (own_base HO3.out HB4.out.size), HB3.out⟩
          · have HOP := Aside0.mk (open_no A cc l wq HC.out hll HW.out hy a hk0)
            clear hk0 hy HAB hlen hcc
            go_wp2_with (first | (go_at_call 33; refine HOP.out.mono ?_; rintro e w2 ⟨rfl, hb⟩; have HB2 := Aside0.mk (below_then HB.out HB.out.size hb); clear hb) | (go_at_call 29; refine (told_paint a _ (pw_cell_below HB2.out HS.out)).mono ?_; rintro e w' ⟨rfl, rfl⟩))
            go_ret2
            exact ⟨_, rfl, Kd.R_nil _ _ _ _ _, HB2.out⟩
/-- Are all numbers numbers? -/
def wfD (l : List S39) : Bool := l.all fun x => wfR x.f2
theorem wfD_mem {l : List S39} (h : wfD l = true) : ∀ x ∈ l, wfR x.f2 = true := List.all_eq_true.1 h
def paint_Draws.f (l0 : List (S30)) (l1 : List (S41)) : Option ((List (S39)) × Int) := if l0.length ≤ 200 ∧ l1.length ≤ 200 ∧ wfD (drawsL l0 l1) = true then some (if areB (drawsL l0 l1) then ((drawsL l0 l1).filter drawnB, 0) else ([], 170)) else none
theorem paint_Draws.calls (A0 : Option Addr) (c0 : Nat) (l0 : List (S30)) (A1 : Option Addr) (c1 : Nat) (l1 : List (S41)) (r1 : List (S39)) (r2 : Int) (w : World) (hr0 : Kd.C k30 w A0 l0.length l0) (hc0 : l0.length ≤ c0) (hr1 : Kd.C k41 w A1 l1.length l1) (hc1 : l1.length ≤ c1) (h : paint_Draws.f l0 l1 = some (r1, r2)) (hG : GOK w) :
    Calls Tryd.prog 15 #[.slice A0 l0.length c0, .slice A1 l1.length c1] w fun e w' => ∃ v0_ : Value, e = .returned (.tuple #[v0_, .int .i64 r2]) ∧ Kd.R k39 39 w' w.heap.size (fun _ => True) v0_ r1 ∧ Below w.heap.size w w' := by
  have _h0 := hc0
  have _h1 := hc1
  obtain ⟨⟨a, ha⟩, _⟩ := hG
  unfold paint_Draws.f at h
  split at h
  · rename_i hq
    obtain ⟨q0, q1, q2⟩ := hq
    refine draws_core A0 c0 l0 A1 c1 l1 w hr0 hr1 q0 q1 (wfD_mem q2) a ha r2 r1 ?_
    by_cases hB : areB (drawsL l0 l1) = true
    · rw [if_pos hB] at h
      simp only [Option.some.injEq, Prod.mk.injEq] at h
      exact .inl ⟨hB, h.2.symm, h.1.symm⟩
    · rw [if_neg hB] at h
      simp only [Option.some.injEq, Prod.mk.injEq] at h
      exact .inr ⟨Bool.eq_false_iff.mpr hB, h.2.symm, h.1.symm⟩
  · cases h
end Go.Proofs.YtkmddhljfjjglaaDoor.G
