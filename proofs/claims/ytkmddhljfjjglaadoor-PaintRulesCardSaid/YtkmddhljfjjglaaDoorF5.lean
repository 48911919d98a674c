/- Chapter 18: a canvas, and the iterator over those of which something is so. Written by mkF5.py. -/
import Derived.Test.YtkmddhljfjjglaaDoorF4
import Derived.RangeFuncNested
import Derived.RangeFuncBound
import Derived.RangeFuncCalls
import Derived.RangeFuncLeaves
import Derived.RangeFuncBox
import Derived.Shelf.Abstract
import Derived.Shelf.AbstractIn
import Derived.Shelf.RegionOpen
import Derived.OwnWalkIn
import Derived.TacticsInMore
import Derived.LoopNIn
import Derived.LoopIn
namespace Go.Proofs.YtkmddhljfjjglaaDoor.G
open Go.RowKit Go.Shelf Go.Proofs.YtkmddhljfjjglaaDoorW.PrintWords Go.Proofs.YtkmddhljfjjglaaDoorW.PrintLast Go.Proofs.YtkmddhljfjjglaaDoorW.PrintMore

theorem wpIn_scope_wide {n : Nat} {P : Program} {c : Code} {Q : Exit → Act → World → Prop} {a : Act} {w : World} (h : c.wpIn Fence.wide n P (Exit.noGoto Q) a w) : (Code.scope c).wpIn Fence.wide n P Q a w :=
  wpIn_wide.2 (wp_scope_straight (wpIn_wide.1 h))
set_option maxRecDepth 100000 in
set_option maxHeartbeats 1000000 in
theorem open_yes (A : Option Addr) (c : Nat) (l : List S39) (w : World) (hr : Kd.C k39 w A l.length l) (hl : l.length ≤ 1000) (hw : ∀ x ∈ l, wfR x.f2 = true) (hB : areB l = true) :
    Calls Tryd.prog 33 #[.slice A l.length c] w fun e w' => e = .returned (.tuple #[.pointer (some ⟨w.heap.size, 0, none⟩), .nilIface]) ∧ w'.heap[w.heap.size]? = some (.cells #[.slice A l.length c] 95 (0, 0)) ∧ Below w.heap.size w w' := by
  have hb := below_alloc (Below.refl w.heap.size w) (.cells #[.slice A l.length c] 95)
  have hv := blk_new w (.cells #[.slice A l.length c] 95)
  have HA := Aside0.mk (are_any w.heap.size A c l _ (Kd.C_below hr hb) hl ((blk_cell hv 0).trans rfl) hw)
  have HV := Aside0.mk hv
  have HB := Aside0.mk hb
  have HT := Aside0.mk hB
  clear hr hw hb hv hB
  go_enter Tryd.func33, Tryd.ntmps33
  go_wp2_with (go_at_call 56; refine HA.out.mono ?_; rintro e w2 ⟨rfl, hb⟩; rw [HT.out]; have HV2 := Aside0.mk (blk_below HV.out hb); have HB2 := Aside0.mk (below_then HB.out HB.out.size hb); clear hb)
  go_ret2
  exact ⟨rfl, HV2.out, HB2.out⟩
set_option maxRecDepth 100000 in
set_option maxHeartbeats 1000000 in
theorem open_no (A : Option Addr) (c : Nat) (l : List S39) (w : World) (hr : Kd.C k39 w A l.length l) (hl : l.length ≤ 1000) (hw : ∀ x ∈ l, wfR x.f2 = true) (hB : areB l = false) (a : Addr) (hs : w.cell? ⟨0, 0, none⟩ = some (.iface 136 (.pointer (some a)))) :
    Calls Tryd.prog 33 #[.slice A l.length c] w fun e w' => e = .returned (.tuple #[.pointer none, .iface 136 (.pointer (some a))]) ∧ Below w.heap.size w w' := by
  have hb := below_alloc (Below.refl w.heap.size w) (.cells #[.slice A l.length c] 95)
  have hv := blk_new w (.cells #[.slice A l.length c] 95)
  have HA := Aside0.mk (are_any w.heap.size A c l _ (Kd.C_below hr hb) hl ((blk_cell hv 0).trans rfl) hw)
  have HB := Aside0.mk hb
  have HT := Aside0.mk hB
  have HS := Aside0.mk hs
  clear hr hw hb hv hB hs
  go_enter Tryd.func33, Tryd.ntmps33
  go_wp2_with (go_at_call 56; refine HA.out.mono ?_; rintro e w2 ⟨rfl, hb⟩; rw [HT.out]; have HB2 := Aside0.mk (below_then HB.out HB.out.size hb); have k0 := pw_cell_below HB2.out HS.out; clear hb)
  go_quiet (fail)
  go_wp2
  all_goals
    go_ret2
    exact ⟨rfl, pw_below_drewN HB2.out _⟩
theorem that_any (C : Nat) (g : Nat) (lb : Array Value) (w : World) : Calls Tryd.prog 36 #[.pointer (some ⟨C, 0, none⟩), .func (.func g) #[] lb] w fun e w' => e = .returned (.func (.func 58) #[] #[.pointer (some ⟨w.heap.size, 0, none⟩), .pointer (some ⟨w.heap.size + 1, 0, none⟩)]) ∧ w' = (w.alloc (.cells #[.pointer (some ⟨C, 0, none⟩)] 62)).alloc (.cells #[.func (.func g) #[] lb] 65) := by
  go_enter Tryd.func36, Tryd.ntmps36
  go_wp2
  go_ret
  exact ⟨rfl, rfl⟩
def vS39 (x : S39) : Value := .agg #[.bool x.f0, .int .i64 x.f1, .int .i64 x.f2.f0, .int .i64 x.f2.f1, .int .i64 x.f2.f2, .int .i64 x.f2.f3]
/-- What the iterator reads. -/
def Cv (w0 : World) (Bc Bi C : Nat) (pv : Value) (A : Option Addr) (n c : Nat) (PF : World → Prop) (W : World) : Prop :=
  Below w0.heap.size w0 W ∧ Boxed W Bc 62 (.pointer (some ⟨C, 0, none⟩)) ∧ Boxed W Bi 65 pv ∧ W.heap[C]? = some (.cells #[.slice A n c] 95 (0, 0)) ∧ PF W
theorem Cv.below {w0 : World} {Bc Bi C : Nat} {pv : Value} {A : Option Addr} {n c : Nat} {PF : World → Prop} {W W' : World} (hPF : ∀ W W', PF W → Below W.heap.size W W' → PF W') (h : Cv w0 Bc Bi C pv A n c PF W) (hb : Below W.heap.size W W') : Cv w0 Bc Bi C pv A n c PF W' := by
  obtain ⟨h1, h2, h3, h4, h5⟩ := h
  exact ⟨below_then h1 h1.size hb, blk_below h2 hb, blk_below h3 hb, blk_below h4 hb, hPF _ _ h5 hb⟩
theorem filter_le (p : S39 → Bool) (l : List S39) (k : Nat) (hk : k < l.length) (hl : l.length ≤ 1000) : ((l.take k).filter p).length < 1000 := by
  have h := List.length_filter_le p (l.take k)
  rw [List.length_take] at h
  omega
set_option maxRecDepth 100000 in
set_option maxHeartbeats 4000000 in
theorem that_in (m : Nat) (hm : 3 ≤ m) (yl Bc Bi C : Nat) (g : Nat) (lb : Array Value) (p : S39 → Bool) (A : Option Addr) (c : Nat) (l : List S39) (w0 : World) (PF : World → Prop) (eg : ∀ args w, (callFunc g args).run Tryd.prog w = .ok (.enter g args) w)
    (hPF : ∀ W W', PF W → Below W.heap.size W W' → PF W') (hP : ∀ (x : S39) W, PF W → Calls Tryd.prog g (#[vS39 x] ++ lb) W fun e W' => e = .returned (.bool (p x)) ∧ Below W.heap.size W W')
    (hr : Kd.C k39 w0 A l.length l) (hl : l.length ≤ 1000) (J Jx : List S39 → World → Prop) (hJ : ∀ s W W', J s W → Below W.heap.size W W' → J s W')
    (hY : ∀ pre x W, J pre W → pre.length < 1000 → YieldAt Fence.wide (m - 1) Tryd.prog yl #[vS39 x] W fun e W' =>
      (e = .returned (.bool true) ∧ J (pre ++ [x]) W' ∧ (Cv w0 Bc Bi C (.func (.func g) #[] lb) A l.length c PF W → Cv w0 Bc Bi C (.func (.func g) #[] lb) A l.length c PF W')) ∨ (e = .returned (.bool false) ∧ Jx (pre ++ [x]) W'))
    (W : World) (hI : Cv w0 Bc Bi C (.func (.func g) #[] lb) A l.length c PF W) (h0 : J [] W) :
    CallsIn Fence.wide m Tryd.prog 58 #[.func (.yield yl) #[] #[], .pointer (some ⟨Bc, 0, none⟩), .pointer (some ⟨Bi, 0, none⟩)] W fun e W' => (∃ v, e = .returned v) ∧
      ((∃ ys, ys = l.filter p ∧ J ys W') ∨ (∃ pre, True ∧ Jx pre W')) := by
  refine callsIn_of_wp Tryd.func58 rfl trivial ?_ rfl
  simp only [Tryd.ntmps58, List.size_toArray, List.length_cons, List.length_nil, Nat.reduceAdd, Nat.reduceSub, Array.replicate_succ, Array.replicate_zero, List.push_toArray, List.append_toArray, List.nil_append, List.cons_append]
  have c1 := hI.2.1.cell
  have c2 : W.cell? ⟨C, 0, none⟩ = some (.slice A l.length c) := (blk_cell hI.2.2.2.1 0).trans rfl
  have HI := Aside0.mk hI
  have HR := Aside0.mk hr
  have HP := Aside0.mk hP
  have HPF := Aside0.mk hPF
  clear hI hr hP hPF
  gi_wp2
  refine wpIn_scope_wide ?_
  gi_wp2
  refine wpIn_label ?_
  gi_wp2
  gi_loopw [12] (fun i wr => ∃ k : Nat, k ≤ l.length ∧ i = .int .i64 k ∧ Aside0 (J ((l.take k).filter p) wr) ∧ Aside0 (Cv w0 Bc Bi C (.func (.func g) #[] lb) A l.length c PF wr)) (fun i _ => l.length - (intOf i).toNat)
  case atStart => exact ⟨0, Nat.zero_le _, rfl, ⟨h0⟩, HI⟩
  case round =>
    clear HI h0 c1 c2
    obtain ⟨k, hk, rfl, hJk, hIk⟩ := hrel
    by_cases hlt : k < l.length
    · obtain ⟨ad, ea, hx0, hx1, hx2, hx3, hx4, hx5⟩ := at_T39 (Kd.C_below HR.out hIk.out.1) (k : Int) (by omega) (by omega)
      cases ea
      simp only [Int.toNat_natCast] at hx0 hx1 hx2 hx3 hx4 hx5
      have ht := Aside0.mk (takeD_rd l k hlt)
      have hle := Aside0.mk (filter_le p l k hlt hl)
      generalize rd_T39 l k = x at *
      have hq : p x = p ⟨x.f0, x.f1, ⟨x.f2.f0, x.f2.f1, x.f2.f2, x.f2.f3⟩⟩ := rfl
      obtain ⟨x0, x1, ⟨r0, r1, r2, r3⟩⟩ := x
      dsimp only at hx0 hx1 hx2 hx3 hx4 hx5 ht hq
      have hb1 := below_alloc (Below.refl wr.heap.size wr) (.cells #[.bool x0, .int .i64 x1, .int .i64 r0, .int .i64 r1, .int .i64 r2, .int .i64 r3] 39)
      have HI1 := Aside0.mk (hIk.out.below HPF.out hb1)
      have HJ1 := Aside0.mk (hJ _ _ _ hJk.out hb1)
      have HC := Aside0.mk (callsIn_wide (n := m - 1).2 (HP.out ⟨x0, x1, ⟨r0, r1, r2, r3⟩⟩ _ HI1.out.2.2.2.2))
      have d1 := HI1.out.2.2.1.cell
      have HV1 := Aside0.mk (blk_new wr (.cells #[.bool x0, .int .i64 x1, .int .i64 r0, .int .i64 r1, .int .i64 r2, .int .i64 r3] 39))
      clear hb1 hJk hIk hq
      generalize hpx : p ⟨x0, x1, ⟨r0, r1, r2, r3⟩⟩ = q at *
      have HQ := Aside0.mk hpx
      clear hpx
      cases q
      · gi_wp2
        refine ⟨trivial, fun _ => by omega, HC.out.mono ?_⟩
        rintro e W2 ⟨rfl, hb⟩
        have HI2 := Aside0.mk (HI1.out.below HPF.out hb)
        have HJ2 := Aside0.mk (hJ _ _ _ HJ1.out hb)
        clear hb
        gi_wp2
        refine ⟨(fun f h => nomatch h), ?_⟩
        gi_wp2
        go_roundw
        case rel => exact ⟨k + 1, by omega, by go_num, ⟨by rw [ht.out, List.filter_append]; simpa [HQ.out] using HJ2.out⟩, HI2⟩
        case measure => simp [intOf]; omega
      · gi_wp2
        refine ⟨trivial, fun _ => by omega, HC.out.mono ?_⟩
        rintro e W2 ⟨rfl, hb⟩
        have HI2 := Aside0.mk (HI1.out.below HPF.out hb)
        have HJ2 := Aside0.mk (hJ _ _ _ HJ1.out hb)
        have k0 : W2.cell? ⟨wr.heap.size, 0, none⟩ = some (.bool x0) := (blk_cell (blk_below HV1.out hb) 0).trans rfl
        have k1 : W2.cell? ⟨wr.heap.size, 1, none⟩ = some (.int .i64 x1) := (blk_cell (blk_below HV1.out hb) 1).trans rfl
        have k2 : W2.cell? ⟨wr.heap.size, 2, none⟩ = some (.int .i64 r0) := (blk_cell (blk_below HV1.out hb) 2).trans rfl
        have k3 : W2.cell? ⟨wr.heap.size, 3, none⟩ = some (.int .i64 r1) := (blk_cell (blk_below HV1.out hb) 3).trans rfl
        have k4 : W2.cell? ⟨wr.heap.size, 4, none⟩ = some (.int .i64 r2) := (blk_cell (blk_below HV1.out hb) 4).trans rfl
        have k5 : W2.cell? ⟨wr.heap.size, 5, none⟩ = some (.int .i64 r3) := (blk_cell (blk_below HV1.out hb) 5).trans rfl
        clear hb
        obtain ⟨fn, tmps, assign, body, hy, hR⟩ := hY _ ⟨x0, x1, ⟨r0, r1, r2, r3⟩⟩ W2 HJ2.out hle.out
        unfold vS39 at hy
        have HT := Aside0.mk (show (l.take (k + 1)).filter p = (l.take k).filter p ++ [⟨x0, x1, ⟨r0, r1, r2, r3⟩⟩] by rw [ht.out, List.filter_append]; simp [HQ.out])
        gi_wp2
        refine ⟨fun _ => by omega, hR.mono ?_⟩
        clear hy hR k0 k1 k2 k3 k4 k5
        rintro ev W3 (⟨rfl, hJ3, hk3⟩ | ⟨rfl, hJx3⟩)
        · have HJ3 := Aside0.mk hJ3
          have HI3 := Aside0.mk (hk3 HI2.out)
          clear hJ3 hk3
          gi_wp2
          go_roundw
          case rel => exact ⟨k + 1, by omega, by go_num, ⟨by rw [HT.out]; exact HJ3.out⟩, HI3⟩
          case measure => simp [intOf]; omega
        · gi_wp2
          rw [Exit.noGoto_normal]
          go_end0
          exact ⟨⟨_, rfl⟩, .inr ⟨_, trivial, hJx3⟩⟩
    · have e : k = l.length := by omega
      subst e
      rw [List.take_length] at hJk
      gi_wp2
      rw [Exit.noGoto_normal]
      go_end0
      exact ⟨⟨_, rfl⟩, .inl ⟨_, rfl, hJk.out⟩⟩
end Go.Proofs.YtkmddhljfjjglaaDoor.G
