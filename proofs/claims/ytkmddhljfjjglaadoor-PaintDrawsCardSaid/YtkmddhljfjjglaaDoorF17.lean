/- YtkmddhljfjjglaaDoorF2, YtkmddhljfjjglaaDoorF3, YtkmddhljfjjglaaDoorF4, YtkmddhljfjjglaaDoorF5, YtkmddhljfjjglaaDoorF6, YtkmddhljfjjglaaDoorF7, YtkmddhljfjjglaaDoorF8, YtkmddhljfjjglaaDoorF9, YtkmddhljfjjglaaDoorF10, YtkmddhljfjjglaaDoorF11, YtkmddhljfjjglaaDoorF12, YtkmddhljfjjglaaDoorF13, YtkmddhljfjjglaaDoorF14, YtkmddhljfjjglaaDoorF15, YtkmddhljfjjglaaDoorF16, YtkmddhljfjjglaaDoorF17: texts of ours, one behind the other. Put together by merge.py. -/
import Derived.Test.YtkmddhljfjjglaaDoorF1
import Derived.Test.YtkmddhljfjjglaaDoorS
import Derived.Lib.Builder
import Derived.Lib.AppendStr
import Derived.Lib.UnsafeStr
import Derived.Lib.Strings
import Derived.Lib.Walk
import Derived.Laws.Externs
import Derived.RangeFuncBox
import Derived.Deep.RegionHeld3
import Derived.Maps.Own
import Derived.Maps.OwnOps
import Derived.Maps.OwnSet
import Derived.Maps.Views
import Derived.DeepKeys4
import Derived.RangeFuncNested
import Derived.RangeFuncBound
import Derived.RangeFuncCalls
import Derived.RangeFuncLeaves
import Derived.Shelf.Abstract
import Derived.Shelf.AbstractIn
import Derived.Shelf.RegionOpen
import Derived.OwnWalkIn
import Derived.TacticsInMore
import Derived.LoopNIn
import Derived.LoopIn
import Derived.Maps.AppendAt
import Derived.Lib.ItoaLen
import Derived.Lib.AppendIntMem
/- Chapter 18: a builder of the call's own takes bytes and strings. Written by mkF2.py. -/
namespace Go.Proofs.YtkmddhljfjjglaaDoor.G
open Go.RowKit Go.Proofs.YtkmddhljfjjglaaDoorW.PrintWords Go.Proofs.YtkmddhljfjjglaaDoorW.PrintLast Go.Proofs.YtkmddhljfjjglaaDoorW.PrintMore

/-- Whatever is neither the builder's block nor a row of bytes lies as it lay. -/
def KT (b : Nat) (W W' : World) : Prop := ∀ k o, W.heap[k]? = some o → k ≠ b → (∀ cs, o ≠ .cells cs 5 (0, 0)) → W'.heap[k]? = some o
theorem KT.refl (b : Nat) (W : World) : KT b W W := fun _ _ h _ _ => h
theorem KT.trans {b : Nat} {A B C : World} (h : KT b A B) (g : KT b B C) : KT b A C := fun k o hk hb ho => g k o (h k o hk hb ho) hb ho
theorem KT.set {b i : Nat} {v : Value} (W : World) : KT b W (W.setCell ⟨b, i, none⟩ v) := fun k o h hb _ => by
  rw [Below.heap_setCell _ _ _ _ (by first | exact hb | exact fun e => hb e.symm)]
  exact h
theorem KT.grown {b B n : Nat} {v : Value} {xs : List Value} {W W' : World} (hg : W.grownBy W' v.ownBlock) (ho : W.ownsRow B 5 1 v n xs) : KT b W W' := fun k o h _ hno => by
  refine (hg.block k (blk_lt h) (fun e => ?_)).trans h
  obtain ⟨cs, hc⟩ := own_typed ho k e.symm
  rw [h] at hc
  exact hno cs (Option.some.inj hc)
theorem KT.alloc {b : Nat} (W : World) (o : Obj) : KT b W (W.alloc o) := fun _ _ h _ _ => blk_alloc h o
theorem bldSize : (Tryd.prog.info? 80).map (·.size) = some 2 := by kernel_rfl
theorem bldLies : liesAt Tryd.prog Tryd.prog.depth 80 (2 / Tryd.prog.cellsOf 80) 0 80 1 = true := by kernel_rfl
set_option maxHeartbeats 1000000 in
set_option maxRecDepth 100000 in
theorem check_any (B b : Nat) (bs : List Value) (w : World) (h : Lib.IsBuilder 80 5 B b bs w) :
    Calls Tryd.prog 61 #[.pointer (some ⟨b, 0, none⟩)] w fun e w' => e = .returned (.tuple #[]) ∧ Lib.BuilderAt 80 5 B b (.pointer (some ⟨b, 0, none⟩)) bs w' ∧ Below B w w' ∧ KT b w w' := by
  obtain ⟨j, hj, hjs⟩ := Option.map_eq_some_iff.1 bldSize
  rcases h with h | h
  · have h0 := h.cell0
    have hsh := h.shape
    have hfz := h.frozen0
    have HU := Aside0.mk (h.used (.pointer (some ⟨b, 0, none⟩)))
    have HB := Aside0.mk ((Below.refl B w).setCell (p := ⟨b, 0, none⟩) h.1 (.pointer (some ⟨b, 0, none⟩)))
    clear h
    go_enter Tryd.func61, Tryd.ntmps61
    go_wp2
    rw [Lib.run_to_unsafe w ⟨b, 0, none⟩ Tryd.underlying77 Tryd.underlying107 hj (by rw [hjs]; decide) hsh (Nat.zero_lt_succ 1)]
    simp only [Result.andThen]
    rw [Oper.upon_value]
    go_wp2
    rw [run_callFunc_extern Tryd.func67 (by kernel_rfl) (by kernel_rfl) (by kernel_rfl) (e := Extern.AbiNoEscape.same) (by kernel_rfl)]
    rw [Lib.run_noEscape]
    simp only [Result.andThen]
    rw [Oper.upon_value]
    go_wp2
    rw [Lib.run_from_unsafe w ⟨b, 0, none⟩ Tryd.underlying107 Tryd.underlying77 hj hsh bldLies]
    simp only [Result.andThen]
    rw [Oper.upon_value]
    go_wp2
    go_end0
    exact ⟨rfl, HU.out, HB.out, KT.set _⟩
  · have h0 := h.cell0
    have HU := Aside0.mk h
    clear h
    go_enter Tryd.func61, Tryd.ntmps61
    go_wp2
    rw [Lib.run_neq_ptr_same w _ Tryd.underlying77 hj]
    go_wp2
    go_end0
    exact ⟨rfl, HU.out, Below.refl B _, KT.refl _ _⟩
/-- The builder's block, behind an append to its row. -/
theorem bld_cells {B b : Nat} {p : Value} {bs : List Value} {w : World} (h : Lib.BuilderAt 80 5 B b p bs w) :
    ∃ v, w.heap[b]? = some (.cells #[p, v] 80 (0, 0)) ∧ w.ownsRow B 5 1 v bs.length bs ∧ B ≤ b ∧ v.ownBlock ≠ some b := by
  obtain ⟨hB, v, hbk, hown, hne⟩ := h
  exact ⟨v, hbk, hown, hB, hne⟩
set_option maxHeartbeats 2000000 in
set_option maxRecDepth 100000 in
theorem writeString_any (B b : Nat) (bs : List Value) (s : ByteArray) (w : World) (h : Lib.IsBuilder 80 5 B b bs w) (hlen : bs.length + s.size ≤ 140737488355328) (hBw : B ≤ w.heap.size) :
    Calls Tryd.prog 47 #[.pointer (some ⟨b, 0, none⟩), .string s] w fun e w' => e = .returned (.tuple #[.int .i64 s.size, .nilIface]) ∧ Lib.IsBuilder 80 5 B b (bs ++ Lib.strCells s) w' ∧ Below B w w' ∧ KT b w w' := by
  obtain ⟨i0, hi, hz0, hz1, hz2⟩ := info_parts info5
  have HC := Aside0.mk (check_any B b bs w h)
  clear h
  go_enter Tryd.func47, Tryd.ntmps47
  go_wp2_with (first | (go_at_call 61; refine HC.out.mono ?_; rintro e w1 ⟨rfl, h1, hb1, hk1⟩; have HB1 := Aside0.mk hb1; have HK1 := Aside0.mk hk1; clear hb1 hk1; obtain ⟨v, hbk, hown, hB, hne⟩ := bld_cells h1; clear h1; have d1 : w1.cell? ⟨b, 1, none⟩ = some v := (blk_cell hbk 1).trans rfl; have hlt := blk_lt hbk; have hsz := HB1.out.size; have HK := Aside0.mk hbk; have HO := Aside0.mk hown; have HN := Aside0.mk hne; clear hbk hown hne) | (at_builtin; refine Lib.wpList_append_own_string _ rfl _ _ 78 9 rfl B 5 i0 Tryd.underlying78 Tryd.underlying9 hi hz0 hz1 hz2 _ _ _ rfl HO.out s rfl (by unfold maxLen; omega) (by omega) (by omega) ?_; intro v' w2 hown' hgrow _; have HO2 := Aside0.mk hown'; have HG2 := Aside0.mk hgrow; have HK2 := Aside0.mk ((hgrow.block b hlt (fun e => HN.out e.symm)).trans HK.out); have e1 : w2.cell? ⟨b, 1, none⟩ = some v := (blk_cell HK2.out 1).trans rfl; have f1 := blk_frozen HK2.out 1; have hv' : ∃ ao n' cap, v' = .slice ao n' cap := (by rcases hown'.2 with ⟨hv, _⟩ | ⟨g, cap, cur, hv, _⟩ <;> exact ⟨_, _, _, hv⟩); clear hown' hgrow; obtain ⟨ao, n', cap, rfl⟩ := hv'))
  go_ret2
  refine ⟨rfl, Or.inr ?_, ?_, ?_⟩
  · exact Lib.BuilderAt.put (T := 80) (e := 5) hB HK2.out (bs' := bs ++ Lib.strCells s) (by simpa [Lib.strCells_length] using HO2.out) (by decide)
  · exact (HB1.out.grown HG2.out (by omega) (fun k hk => (HO.out.lt k hk).1)).setCell (p := ⟨b, 1, none⟩) hB _
  · exact (HK1.out.trans (KT.grown HG2.out HO.out)).trans (KT.set _)
set_option maxHeartbeats 2000000 in
set_option maxRecDepth 100000 in
theorem writeByte_any (B b : Nat) (bs : List Value) (c : Int) (w : World) (h : Lib.IsBuilder 80 5 B b bs w) (hlen : bs.length + 1 ≤ 140737488355328) (hBw : B ≤ w.heap.size) :
    Calls Tryd.prog 49 #[.pointer (some ⟨b, 0, none⟩), .int .u8 c] w fun e w' => e = .returned .nilIface ∧ Lib.IsBuilder 80 5 B b (bs ++ [.int .u8 c]) w' ∧ Below B w w' ∧ KT b w w' := by
  obtain ⟨i0, hi, hz0, hz1, hz2⟩ := info_parts info5
  have HC := Aside0.mk (check_any B b bs w h)
  clear h
  go_enter Tryd.func49, Tryd.ntmps49
  go_wp2_with (first | (go_at_call 61; refine HC.out.mono ?_; rintro e w1 ⟨rfl, h1, hb1, hk1⟩; have HB1 := Aside0.mk hb1; have HK1 := Aside0.mk hk1; clear hb1 hk1; obtain ⟨v, hbk, hown, hB, hne⟩ := bld_cells h1; clear h1; have d1 : w1.cell? ⟨b, 1, none⟩ = some v := (blk_cell hbk 1).trans rfl; have hlt := blk_lt hbk; have hsz := HB1.out.size; have HK := Aside0.mk hbk; have HO := Aside0.mk hown; have HN := Aside0.mk hne; clear hbk hown hne) | (at_builtin; refine wpList_append_own _ rfl _ _ 78 rfl B 5 i0 (.int .u8 0) 1 1 Tryd.underlying78 hi hz0 hz1 hz2 rfl (by decide) _ _ _ rfl (HO.out.alloc _) ⟨_, 0, none⟩ 1 1 [.int .u8 c] rfl rfl (cell_one_new _ _ _) (by simp [Value.oneCell']) (by unfold maxLen; omega) (by omega) (by simp; omega) ?_; intro v' w2 hown' hgrow _; have HO2 := Aside0.mk hown'; have HG2 := Aside0.mk hgrow; have HK2 := Aside0.mk (blk_grown (blk_alloc HK.out _) hgrow (fun e => HN.out e.symm)); have e1 : w2.cell? ⟨b, 1, none⟩ = some v := (blk_cell HK2.out 1).trans rfl; have f1 := blk_frozen HK2.out 1; have hv' : ∃ g cap, v' = .slice (some ⟨g, 0, none⟩) (bs.length + 1) cap := ownsRow_succ hown'; clear hown' hgrow; obtain ⟨g, cap, rfl⟩ := hv'))
  go_ret
  refine ⟨rfl, Or.inr ?_, ?_, ?_⟩
  · exact Lib.BuilderAt.put (T := 80) (e := 5) hB HK2.out (bs' := bs ++ [.int .u8 c]) (by simpa using HO2.out) (by decide)
  · exact ((HB1.out.alloc (by omega) _).grown HG2.out (by simp; omega) (fun k hk => (HO.out.lt k hk).1)).setCell (p := ⟨b, 1, none⟩) hB _
  · exact ((HK1.out.trans (KT.alloc _ _)).trans (KT.grown HG2.out (HO.out.alloc _))).trans (KT.set _)
end Go.Proofs.YtkmddhljfjjglaaDoor.G
/- Chapter 18: what a rectangle is. Written by mkF3.py. -/
namespace Go.Proofs.YtkmddhljfjjglaaDoor.G
open Go.RowKit Go.Proofs.YtkmddhljfjjglaaDoorW.PrintWords Go.Proofs.YtkmddhljfjjglaaDoorW.PrintLast Go.Proofs.YtkmddhljfjjglaaDoorW.PrintMore

/-- Is a number not from 0 to the greatest one? -/
def outB (most n : Int) : Bool := decide (n < 0) || decide (n > most)
set_option maxRecDepth 100000 in
theorem out_any (n most : Int) (b : Nat) (w : World) (hb : w.cell? ⟨b, 0, none⟩ = some (.int .i64 most)) :
    Calls Tryd.prog 54 #[.int .i64 n, .pointer (some ⟨b, 0, none⟩)] w fun e w' => e = .returned (.bool (outB most n)) ∧ w = w' := by
  unfold outB
  by_cases h : n < 0
  · go_enter Tryd.func54, Tryd.ntmps54
    go_wp2
    go_ret
    exact ⟨by simp [h], rfl⟩
  · go_enter Tryd.func54, Tryd.ntmps54
    go_wp2
    go_ret
    exact ⟨by rw [show decide (n < 0) = false from decide_eq_false (by omega)]; rfl, rfl⟩
theorem take_rd (rs : List Int) (k : Nat) (hk : k < rs.length) : rs.take (k + 1) = rs.take k ++ [rd rs k] := by
  rw [List.take_succ_eq_append_getElem hk]
  simp [rd, hk]
theorem any_at {rs : List Int} {f : Int → Bool} (k : Nat) (hk : k < rs.length) (h : f (rd rs k) = true) : rs.any f = true := by
  rw [List.any_eq_true]
  exact ⟨rs[k], List.getElem_mem hk, by simpa [rd, hk] using h⟩
set_option maxRecDepth 100000 in
set_option maxHeartbeats 1000000 in
theorem indexFunc_any (most : Int) (b : Nat) (A : Option Addr) (c : Nat) (l : List Int) (w : World) (hr : Kd.C (Kd.int .i64) w A l.length l) (hl : l.length ≤ 1000) (hb : w.cell? ⟨b, 0, none⟩ = some (.int .i64 most)) :
    Calls Tryd.prog 64 #[.slice A l.length c, .func (.func 54) #[] #[.pointer (some ⟨b, 0, none⟩)]] w fun e w' => (∃ i : Int, e = .returned (.int .i64 i) ∧ decide (i ≥ 0) = l.any (outB most)) ∧ w = w' := by
  have HR := Aside0.mk hr
  have HB := Aside0.mk hb
  clear hr hb
  go_enter Tryd.func64, Tryd.ntmps64
  go_wp2
  go_loopw [8] (fun i wr => ∃ k : Nat, k ≤ l.length ∧ i = .int .i64 k ∧ wr = w ∧ Aside0 ((l.take k).any (outB most) = false)) (fun i _ => l.length - (intOf i).toNat)
  case atStart => exact ⟨0, Nat.zero_le _, rfl, rfl, ⟨rfl⟩⟩
  case round =>
    obtain ⟨k, hk, rfl, rfl, hT⟩ := hrel
    by_cases hlt : k < l.length
    · obtain ⟨ad, ea, hx⟩ := Kd.at_int HR.out (k : Int) (by omega) (by omega)
      cases ea
      rw [Int.toNat_natCast] at hx
      have ht := Aside0.mk (take_rd l k hlt)
      by_cases ho : outB most (rd l k) = true
      · have HO := Aside0.mk ho
        have HA := Aside0.mk (any_at k hlt ho)
        clear ho
        go_wp2_with (go_at_call 54; refine (out_any _ most b _ HB.out).mono ?_; rintro e w' ⟨rfl, rfl⟩; rw [HO.out])
        go_ret
        exact ⟨⟨_, rfl, by rw [HA.out]; simp⟩, rfl⟩
      · have HO := Aside0.mk (Bool.eq_false_iff.mpr ho)
        clear ho
        go_wp2_with (go_at_call 54; refine (out_any _ most b _ HB.out).mono ?_; rintro e w' ⟨rfl, rfl⟩; rw [HO.out])
        go_roundw
        case rel => exact ⟨k + 1, by omega, by go_num, trivial, ⟨by rw [ht.out, List.any_append, hT.out]; simpa using HO.out⟩⟩
        case measure => simp [intOf]; omega
    · have e : k = l.length := by omega
      subst e
      rw [List.take_length] at hT
      go_wp2
      go_ret
      exact ⟨⟨_, rfl, by rw [hT.out]; decide⟩, rfl⟩
theorem containsFunc_any (most : Int) (b : Nat) (A : Option Addr) (c : Nat) (l : List Int) (w : World) (hr : Kd.C (Kd.int .i64) w A l.length l) (hl : l.length ≤ 1000) (hb : w.cell? ⟨b, 0, none⟩ = some (.int .i64 most)) :
    Calls Tryd.prog 53 #[.slice A l.length c, .func (.func 54) #[] #[.pointer (some ⟨b, 0, none⟩)]] w fun e w' => e = .returned (.bool (l.any (outB most))) ∧ w = w' := by
  have HC := Aside0.mk (indexFunc_any most b A c l w hr hl hb)
  clear hr hb
  go_enter Tryd.func53, Tryd.ntmps53
  go_wp2_with (go_at_call 64; refine HC.out.mono ?_; rintro e w' ⟨⟨i, rfl, hi⟩, rfl⟩; have HI := Aside0.mk hi; clear hi)
  go_ret
  exact ⟨by rw [← HI.out]; rfl, rfl⟩
theorem areWithin_any (most : Int) (A : Option Addr) (c : Nat) (l : List Int) (w : World) (hr : Kd.C (Kd.int .i64) w A l.length l) (hl : l.length ≤ 1000) :
    Calls Tryd.prog 28 #[.int .i64 most, .slice A l.length c] w fun e w' => e = .returned (.bool (!l.any (outB most))) ∧ Below w.heap.size w w' := by
  have hB := below_alloc (Below.refl w.heap.size w) (.cells #[.int .i64 most] 2)
  have HC := Aside0.mk (containsFunc_any most w.heap.size A c l (w.alloc (.cells #[.int .i64 most] 2)) (Kd.C_below hr hB) hl ((blk_cell (blk_new w _) 0).trans rfl))
  have HB := Aside0.mk hB
  clear hr hB
  go_enter Tryd.func28, Tryd.ntmps28
  go_wp2_with (go_at_call 53; refine HC.out.mono ?_; rintro e w' ⟨rfl, rfl⟩)
  go_ret
  exact ⟨rfl, HB.out⟩
theorem fresh_C (w : World) (t : TypeId) (l : List Int) (hl : l.length ≤ 1000) : Kd.C (Kd.int .i64) (w.alloc (.cells (l.map (Value.int .i64)).toArray t)) (some ⟨w.heap.size, 0, none⟩) l.length l := by
  refine Kd.C_of_reads (d := (0 : Int)) (h1 := fun _ => rfl) ⟨rfl, by omega, fun _ => ⟨_, rfl, fun j hj => ?_⟩⟩
  rw [add_plain, World.cell?_alloc_new]
  simp [hj]
theorem within1 (most a : Int) (c g : Nat) (w : World) (hg : w.heap.size = g) : Calls Tryd.prog 28 #[.int .i64 most, .slice (some ⟨g, 0, none⟩) 1 c] (w.alloc (.cells #[.int .i64 a] 2)) fun e w' => e = .returned (.bool (!outB most a)) ∧ Below w.heap.size w w' := by
  subst hg
  refine (areWithin_any most _ c [a] _ (fresh_C w 2 [a] (by simp)) (by simp)).mono ?_
  rintro e w' ⟨rfl, hb⟩
  exact ⟨by simp, below_then (below_alloc (Below.refl _ _) _) (by simp) hb⟩
theorem within2 (most a b : Int) (c g : Nat) (w : World) (hg : w.heap.size = g) : Calls Tryd.prog 28 #[.int .i64 most, .slice (some ⟨g, 0, none⟩) 2 c] (w.alloc (.cells #[.int .i64 a, .int .i64 b] 2)) fun e w' => e = .returned (.bool (!outB most a && !outB most b)) ∧ Below w.heap.size w w' := by
  subst hg
  refine (areWithin_any most _ c [a, b] _ (fresh_C w 2 [a, b] (by simp)) (by simp)).mono ?_
  rintro e w' ⟨rfl, hb⟩
  exact ⟨by simp, below_then (below_alloc (Below.refl _ _) _) (by simp) hb⟩
theorem within3 (most a b d : Int) (c g : Nat) (w : World) (hg : w.heap.size = g) : Calls Tryd.prog 28 #[.int .i64 most, .slice (some ⟨g, 0, none⟩) 3 c] (w.alloc (.cells #[.int .i64 a, .int .i64 b, .int .i64 d] 2)) fun e w' => e = .returned (.bool (!outB most a && (!outB most b && !outB most d))) ∧ Below w.heap.size w w' := by
  subst hg
  refine (areWithin_any most _ c [a, b, d] _ (fresh_C w 2 [a, b, d] (by simp)) (by simp)).mono ?_
  rintro e w' ⟨rfl, hb⟩
  exact ⟨by simp, below_then (below_alloc (Below.refl _ _) _) (by simp) hb⟩
/-- Is it a rectangle? -/
def isB (r : S30) : Bool := (!outB 2199023255552 (wrap64 (r.f0 + 1099511627776)) && !outB 2199023255552 (wrap64 (r.f1 + 1099511627776))) && (!outB 1099511627776 r.f2 && !outB 1099511627776 r.f3)
def vS30 (r : S30) : Value := .agg #[.int .i64 r.f0, .int .i64 r.f1, .int .i64 r.f2, .int .i64 r.f3]
set_option maxRecDepth 100000 in
set_option maxHeartbeats 1000000 in
theorem isRect_any (a b c d : Int) (w : World) : Calls Tryd.prog 41 #[.agg #[.int .i64 a, .int .i64 b, .int .i64 c, .int .i64 d]] w fun e w' => e = .returned (.bool (isB ⟨a, b, c, d⟩)) ∧ Below w.heap.size w w' := by
  have hB := Aside0.mk (below_alloc (Below.refl w.heap.size w) (.cells #[.int .i64 a, .int .i64 b, .int .i64 c, .int .i64 d] 30))
  have hv := blk_new w (.cells #[.int .i64 a, .int .i64 b, .int .i64 c, .int .i64 d] 30)
  have HE := Aside0.mk (show isB ⟨a, b, c, d⟩ = ((!outB 2199023255552 (wrap64 (a + 1099511627776)) && !outB 2199023255552 (wrap64 (b + 1099511627776))) && (!outB 1099511627776 c && !outB 1099511627776 d)) from rfl)
  have HV := Aside0.mk hv
  clear hv
  generalize hp : (!outB 2199023255552 (wrap64 (a + 1099511627776)) && !outB 2199023255552 (wrap64 (b + 1099511627776))) = p at *
  have HP := Aside0.mk hp
  clear hp
  cases p
  · go_enter Tryd.func41, Tryd.ntmps41
    go_wp2_with (go_at_call 28; refine (within2 _ _ _ _ _ _ (by simp)).mono ?_; rintro e w2 ⟨rfl, hb⟩; have HB2 := Aside0.mk (below_then hB.out (by simp) hb); clear hb; rw [HP.out])
    go_ret
    exact ⟨by rw [HE.out]; rfl, HB2.out⟩
  · have H1 := Aside0.mk (within2 2199023255552 (wrap64 (a + 1099511627776)) (wrap64 (b + 1099511627776)) 2 (w.heap.size + 1) (w.alloc (.cells #[.int .i64 a, .int .i64 b, .int .i64 c, .int .i64 d] 30)) (by simp))
    have H2 := Aside0.mk (fun W => within2 1099511627776 c d 2 _ W rfl)
    go_enter Tryd.func41, Tryd.ntmps41
    go_wp2_with (first | (go_at_call 28; (with_reducible refine H1.out.mono ?_); rintro e w2 ⟨rfl, hb⟩; have HB2 := Aside0.mk (below_then hB.out (by simp) hb); have k2 : w2.cell? ⟨w.heap.size, 2, none⟩ = some (.int .i64 c) := (blk_cell (blk_below HV.out hb) 2).trans rfl; have k3 : w2.cell? ⟨w.heap.size, 3, none⟩ = some (.int .i64 d) := (blk_cell (blk_below HV.out hb) 3).trans rfl; clear hb; rw [HP.out]) | (go_at_call 28; (with_reducible refine (H2.out _).mono ?_); rintro e w3 ⟨rfl, hb⟩; have HB3 := Aside0.mk (below_then HB2.out HB2.out.size hb); clear hb))
    go_ret
    exact ⟨by rw [HE.out]; simp, HB3.out⟩
end Go.Proofs.YtkmddhljfjjglaaDoor.G
/- Chapter 18: all are rectangles, each asked once; a canvas. Written by mkF4.py. -/
namespace Go.Proofs.YtkmddhljfjjglaaDoor.G
open Go.RowKit Go.Shelf Go.Maps Go.Proofs.YtkmddhljfjjglaaDoorW.PrintWords Go.Proofs.YtkmddhljfjjglaaDoorW.PrintLast Go.Proofs.YtkmddhljfjjglaaDoorW.PrintMore

theorem laidOutP : laidOutB Tryd.prog = true := by kernel_rfl
theorem row30 : (30 : TypeId) < Tryd.prog.types.size := of_decide_eq_true (by kernel_rfl)
theorem cells30 : Tryd.prog.cellsOf 30 = 4 := by kernel_rfl
theorem cells2 : Tryd.prog.cellsOf 2 = 1 := by kernel_rfl
theorem wide30 : (match Tryd.prog.underlying 30 with | some (.array _ _) | some (.struct _) => true | _ => false) = true := by rw [Tryd.underlying30]
theorem deep30 : Tryd.prog.keyTypeAt 2 30 = true := by kernel_rfl
set_option maxRecDepth 1000000 in
theorem rectLaw : Keyed Tryd.prog 30 := Keyed.of_law (deep_law_laid laidOutP (m := 2) (by omega) row30 deep30 wide30)
theorem zero4 (w : World) : (zeroValue 4).run Tryd.prog w = .ok (.bool false) w := by kernel_rfl
theorem keyT : Tryd.prog.keyType 30 = true := by kernel_rfl
theorem types_succ : ∃ n, Tryd.prog.types.size + 1 = n + 2 := ⟨Tryd.prog.types.size - 1, by have h : 30 < Tryd.prog.types.size := row30; generalize Tryd.prog.types.size = m at *; omega⟩
def r64B (n : Int) : Bool := decide (-9223372036854775808 ≤ n) && decide (n ≤ 9223372036854775807)
theorem r64B_wf {n : Int} (h : r64B n = true) : (Lit.int .i64 n).wf = true := by
  simp only [r64B, Bool.and_eq_true, decide_eq_true_eq] at h
  exact WalkArith.wf_i64 h
/-- Are a rectangle's numbers numbers? -/
def wfR (r : S30) : Bool := r64B r.f0 && (r64B r.f1 && (r64B r.f2 && r64B r.f3))
theorem rectKey (r : S30) (h : wfR r = true) : ∃ l, keyOf Tryd.prog 30 (vS30 r) = some l := by
  simp only [wfR, Bool.and_eq_true] at h
  have h0 := r64B_wf h.1
  have h1 := r64B_wf h.2.1
  have h2 := r64B_wf h.2.2.1
  have h3 := r64B_wf h.2.2.2
  unfold keyOf vS30
  rw [Tryd.underlying30]
  have hf : (Value.agg #[.int .i64 r.f0, .int .i64 r.f1, .int .i64 r.f2, .int .i64 r.f3]).formed Tryd.prog 30 = true := by simp [Value.formed, Tryd.underlying30, cells30]
  simp only [keyT, hf, Bool.and_self, if_true]
  obtain ⟨n, hn⟩ := types_succ
  rw [hn]
  simp [Program.keyLits, Tryd.underlying30, Tryd.underlying2, cells30, cells2, Value.cells, h0, h1, h2, h3]
def boolR : Value → Option (DataW Unit × List MemPlace)
  | .bool b => some (.lit (.bool b), [])
  | _ => none
theorem boolR_inv {v : Value} {d : DataW Unit} {ps : List MemPlace} (h : boolR v = some (d, ps)) : ∃ b, v = .bool b ∧ d = .lit (.bool b) := by
  cases v <;> simp [boolR] at h
  exact ⟨_, rfl, h.1.symm⟩
/-- A look-up of what is known of a rectangle. -/
theorem look_bool {w : World} {ops : Array Oper} {rest : List Oper} {o : Oper} {a : Act} {Q : Exit → Act → World → Prop} (hg : o.guard = none) (m x : Operand) (hop : o.op = Op.lookup 105 m x true) (b n : Nat) (D : DataW Unit)
    (hm : a.eval m = .map (some b)) (hown : w.ownsMap Tryd.prog 30 boolR b n D) (key : Value) (kl : Lit) (hx : a.eval x = key) (hkey : keyOf Tryd.prog 30 key = some kl) (c h : Bool) (hc : D.atKey kl (.lit (.bool false)) = .lit (.bool c)) (hh : Maps.has D kl = h)
    (hK : wpList Tryd.prog ops Q rest (a.put o.dst (.tuple #[.bool c, .bool h])) w) : wpList Tryd.prog ops Q (o :: rest) a w :=
  wpList_lookup_own_ok w hg m x 105 hop 30 4 rectLaw Tryd.underlying105 boolR (zero4 _) (.lit (.bool false)) [] rfl b n D hm hown key kl hx hkey (fun v ps hv => by
    rw [hc] at hv
    obtain ⟨c', rfl, e⟩ := boolR_inv hv
    obtain rfl : c = c' := Lit.bool.inj (DataW.lit.inj e)
    rw [hh]
    exact hK)
/-- What is known: of each rectangle that was asked, what it is. -/
def Known (D : DataW Unit) : Prop := IsMap D ∧ ∀ (r : S30) (kl : Lit), keyOf Tryd.prog 30 (vS30 r) = some kl → (Maps.has D kl = true → D.atKey kl (.lit (.bool false)) = .lit (.bool (isB r))) ∧ (Maps.has D kl = false → D.atKey kl (.lit (.bool false)) = .lit (.bool false))
theorem known_nil : Known (.map []) := ⟨isMap_empty, fun _ _ _ => ⟨fun h => by simp [Maps.has] at h, fun h => atKey_of_not_has h _⟩⟩
theorem known_put {D : DataW Unit} (h : Known D) (r : S30) (kl : Lit) (hk : keyOf Tryd.prog 30 (vS30 r) = some kl) : Known (D.put kl (.lit (.bool (isB r)))) := by
  refine ⟨h.1.put _ _, fun r' kl' hk' => ?_⟩
  by_cases e : kl' = kl
  · subst e
    have hv := rectLaw.inj hk' hk
    simp only [vS30, Value.agg.injEq, Array.mk.injEq, List.cons.injEq, Value.int.injEq, true_and, and_true] at hv
    have er : r' = r := by
      cases r; cases r'
      simp at hv ⊢
      exact hv
    subst er
    refine ⟨fun _ => atKey_put_same h.1 (rectLaw.key hk) _ _, fun hh => ?_⟩
    rw [has_put_same h.1 (rectLaw.key hk)] at hh
    cases hh
  · rw [atKey_put_other e, has_put_other e]
    exact h.2 r' kl' hk'
theorem takeD_rd (rs : List S39) (k : Nat) (hk : k < rs.length) : rs.take (k + 1) = rs.take k ++ [rd_T39 rs k] := by
  rw [List.take_succ_eq_append_getElem hk]
  simp [rd_T39, hk]
theorem memD_rd (rs : List S39) (k : Nat) (hk : k < rs.length) : rd_T39 rs k ∈ rs := by
  have : rd_T39 rs k = rs[k] := by simp [rd_T39, hk]
  rw [this]
  exact List.getElem_mem hk
def areB (l : List S39) : Bool := l.all fun x => isB x.f2
theorem areB_no {l : List S39} (k : Nat) (hk : k < l.length) (h : isB (rd_T39 l k).f2 = false) : areB l = false := by
  rw [areB, List.all_eq_false]
  exact ⟨_, memD_rd l k hk, by simp [h]⟩
theorem areB_step {l : List S39} (k : Nat) (hk : k < l.length) (h : areB (l.take k) = true) (hx : isB (rd_T39 l k).f2 = true) : areB (l.take (k + 1)) = true := by
  rw [takeD_rd l k hk, areB, List.all_append, Bool.and_eq_true]
  exact ⟨h, by simpa using hx⟩
set_option maxRecDepth 1000000 in
set_option maxHeartbeats 4000000 in
theorem are_any (b : Nat) (A : Option Addr) (c : Nat) (l : List S39) (w : World) (hr : Kd.C k39 w A l.length l) (hl : l.length ≤ 1000) (hb : w.cell? ⟨b, 0, none⟩ = some (.slice A l.length c)) (hw : ∀ x ∈ l, wfR x.f2 = true) :
    Calls Tryd.prog 56 #[.pointer (some ⟨b, 0, none⟩)] w fun e w' => e = .returned (.bool (areB l)) ∧ Below w.heap.size w w' := by
  have HR := Aside0.mk hr
  have HW := Aside0.mk hw
  have HM0 := Aside0.mk (World.ownsMap_made w Tryd.prog 30 boolR)
  have HB0 := Aside0.mk (below_alloc (Below.refl w.heap.size w) (.map #[] 0))
  have hmm := @run_makeMap Tryd.prog
  have hb1 : (w.alloc (.map #[] 0)).cell? ⟨b, 0, none⟩ = some (.slice A l.length c) := pw_cell_below HB0.out hb
  clear hr hw
  go_enter Tryd.func56, Tryd.ntmps56
  go_wp2
  clear hmm
  go_loopw [14] (fun i wr => ∃ (k : Nat) (D : DataW Unit), k ≤ l.length ∧ i = .int .i64 k ∧ Aside0 (Known D) ∧ Aside0 (wr.ownsMap Tryd.prog 30 boolR w.heap.size k D) ∧ Aside0 (Below w.heap.size w wr) ∧ Aside0 (areB (l.take k) = true)) (fun i _ => l.length - (intOf i).toNat)
  case atStart => exact ⟨0, .map [], Nat.zero_le _, rfl, ⟨known_nil⟩, HM0, HB0, ⟨rfl⟩⟩
  case round =>
    clear HM0 HB0 hb hb1
    obtain ⟨k, D, hk, rfl, HK, HM, HB, HT⟩ := hrel
    by_cases hlt : k < l.length
    · obtain ⟨ad, ea, hx0, hx1, hx2, hx3, hx4, hx5⟩ := at_T39 (Kd.C_below HR.out HB.out) (k : Int) (by omega) (by omega)
      cases ea
      simp only [Int.toNat_natCast] at hx0 hx1 hx2 hx3 hx4 hx5
      have HNO := Aside0.mk (fun h => areB_no k hlt h)
      have HYES := Aside0.mk (fun h => areB_step k hlt HT.out h)
      have hwf := HW.out _ (memD_rd l k hlt)
      generalize rd_T39 l k = x at *
      obtain ⟨x0, x1, ⟨r0, r1, r2, r3⟩⟩ := x
      dsimp only at hx0 hx1 hx2 hx3 hx4 hx5 HNO HYES hwf
      obtain ⟨kl, hkl⟩ := rectKey ⟨r0, r1, r2, r3⟩ hwf
      have HKL := Aside0.mk hkl
      have HN := Aside0.mk (HK.out.2 _ _ hkl)
      have HM1 := Aside0.mk (HM.out.alloc (.cells #[.bool x0, .int .i64 x1, .int .i64 r0, .int .i64 r1, .int .i64 r2, .int .i64 r3] 39))
      have HB1 := Aside0.mk (below_alloc HB.out (.cells #[.bool x0, .int .i64 x1, .int .i64 r0, .int .i64 r1, .int .i64 r2, .int .i64 r3] 39))
      have HV1 := Aside0.mk (blk_new wr (.cells #[.bool x0, .int .i64 x1, .int .i64 r0, .int .i64 r1, .int .i64 r2, .int .i64 r3] 39))
      have hmb := HM.out.lt
      have hsz := HB.out.size
      clear hkl hwf HM HW HR HT
      generalize hq : isB ⟨r0, r1, r2, r3⟩ = q at *
      have HQ := Aside0.mk hq
      clear hq
      by_cases hh : Maps.has D kl = true
      · have HH := Aside0.mk hh
        have HC := Aside0.mk (HN.out.1 hh)
        clear hh
        cases q
        · go_wp2_with (at_lookup; refine look_bool rfl _ _ rfl w.heap.size k D rfl HM1.out _ kl rfl HKL.out _ true HC.out HH.out ?_)
          go_ret
          exact ⟨by rw [HNO.out (by first | rfl | trivial)]; rfl, HB1.out⟩
        · go_wp2_with (at_lookup; refine look_bool rfl _ _ rfl w.heap.size k D rfl HM1.out _ kl rfl HKL.out _ true HC.out HH.out ?_)
          go_roundw
          case rel => exact ⟨k + 1, D, by omega, by go_num, HK, ⟨HM1.out.mono (by omega)⟩, HB1, ⟨HYES.out (by first | rfl | trivial)⟩⟩
          case measure => simp [intOf]; omega
      · have HH := Aside0.mk (Bool.eq_false_iff.mpr hh)
        have HC := Aside0.mk (HN.out.2 HH.out)
        have HP := Aside0.mk (known_put HK.out _ kl HKL.out)
        rw [HQ.out] at HP
        clear hh
        cases q
        · go_wp2_with (first | (at_lookup; refine look_bool rfl _ _ rfl w.heap.size k D rfl HM1.out _ kl rfl HKL.out _ false HC.out HH.out ?_) | (go_at_call 41; refine (isRect_any _ _ _ _ _).mono ?_; rintro e w2 ⟨rfl, hb⟩; rw [HQ.out]; have HM2 := Aside0.mk (HM1.out.kept (grown_of_below hb none) (by simp)); have HB2 := Aside0.mk (below_then HB1.out HB1.out.size hb); have k2 : w2.cell? ⟨wr.heap.size, 2, none⟩ = some (.int .i64 r0) := (blk_cell (blk_below HV1.out hb) 2).trans rfl; have k3 : w2.cell? ⟨wr.heap.size, 3, none⟩ = some (.int .i64 r1) := (blk_cell (blk_below HV1.out hb) 3).trans rfl; have k4 : w2.cell? ⟨wr.heap.size, 4, none⟩ = some (.int .i64 r2) := (blk_cell (blk_below HV1.out hb) 4).trans rfl; have k5 : w2.cell? ⟨wr.heap.size, 5, none⟩ = some (.int .i64 r3) := (blk_cell (blk_below HV1.out hb) 5).trans rfl; clear hb) | (at_mapUpdate; refine wpList_mapUpdate_own _ rfl _ _ _ 105 rfl 30 4 rectLaw Tryd.underlying105 _ w.heap.size k _ rfl HM2.out (by unfold maxLen; omega) _ _ _ rfl rfl HKL.out (.lit (.bool false)) [] rfl ?_; intro w3 hown3 hgrow3; have HM3 := Aside0.mk hown3; have HB3 := Aside0.mk (HB2.out.grown hgrow3 HB2.out.size (fun k e => by cases e; exact Nat.le_refl _)); clear hown3 hgrow3))
          go_ret
          exact ⟨by rw [HNO.out (by first | rfl | trivial)]; rfl, HB3.out⟩
        · go_wp2_with (first | (at_lookup; refine look_bool rfl _ _ rfl w.heap.size k D rfl HM1.out _ kl rfl HKL.out _ false HC.out HH.out ?_) | (go_at_call 41; refine (isRect_any _ _ _ _ _).mono ?_; rintro e w2 ⟨rfl, hb⟩; rw [HQ.out]; have HM2 := Aside0.mk (HM1.out.kept (grown_of_below hb none) (by simp)); have HB2 := Aside0.mk (below_then HB1.out HB1.out.size hb); have k2 : w2.cell? ⟨wr.heap.size, 2, none⟩ = some (.int .i64 r0) := (blk_cell (blk_below HV1.out hb) 2).trans rfl; have k3 : w2.cell? ⟨wr.heap.size, 3, none⟩ = some (.int .i64 r1) := (blk_cell (blk_below HV1.out hb) 3).trans rfl; have k4 : w2.cell? ⟨wr.heap.size, 4, none⟩ = some (.int .i64 r2) := (blk_cell (blk_below HV1.out hb) 4).trans rfl; have k5 : w2.cell? ⟨wr.heap.size, 5, none⟩ = some (.int .i64 r3) := (blk_cell (blk_below HV1.out hb) 5).trans rfl; clear hb) | (at_mapUpdate; refine wpList_mapUpdate_own _ rfl _ _ _ 105 rfl 30 4 rectLaw Tryd.underlying105 _ w.heap.size k _ rfl HM2.out (by unfold maxLen; omega) _ _ _ rfl rfl HKL.out (.lit (.bool true)) [] rfl ?_; intro w3 hown3 hgrow3; have HM3 := Aside0.mk hown3; have HB3 := Aside0.mk (HB2.out.grown hgrow3 HB2.out.size (fun k e => by cases e; exact Nat.le_refl _)); clear hown3 hgrow3))
          go_roundw
          case rel => exact ⟨k + 1, _, by omega, by go_num, HP, HM3, HB3, ⟨HYES.out (by first | rfl | trivial)⟩⟩
          case measure => simp [intOf]; omega
    · have e : k = l.length := by omega
      subst e
      rw [List.take_length] at HT
      go_wp2
      go_ret
      exact ⟨by rw [HT.out]; rfl, HB.out⟩
end Go.Proofs.YtkmddhljfjjglaaDoor.G
/- Chapter 18: a canvas, and the iterator over those of which something is so. Written by mkF5.py. -/
namespace Go.Proofs.YtkmddhljfjjglaaDoor.G
open Go.RowKit Go.Shelf Go.Proofs.YtkmddhljfjjglaaDoorW.PrintWords Go.Proofs.YtkmddhljfjjglaaDoorW.PrintLast Go.Proofs.YtkmddhljfjjglaaDoorW.PrintMore

theorem wpIn_scope_wide {n : Nat} {P : Program} {c : Code} {Q : Exit → Act → World → Prop} {a : Act} {w : World} (h : c.wpIn Fence.wide n P (Exit.noGoto Q) a w) : (Code.scope c).wpIn Fence.wide n P Q a w :=
  wpIn_wide.2 (wp_scope_straight (wpIn_wide.1 h))
set_option maxRecDepth 100000 in
set_option maxHeartbeats 1000000 in
theorem open_yes (A : Option Addr) (c : Nat) (l : List S39) (w : World) (hr : Kd.C k39 w A l.length l) (hl : l.length ≤ 1000) (hw : ∀ x ∈ l, wfR x.f2 = true) (hB : areB l = true) :
    Calls Tryd.prog 33 #[.slice A l.length c] w fun e w' => e = .returned (.tuple #[.pointer (some ⟨w.heap.size, 0, none⟩), .nilIface]) ∧ w'.heap[w.heap.size]? = some (.cells #[.slice A l.length c] 95 (0, 0)) ∧ Below w.heap.size w w' := by
  have hb := below_alloc (Below.refl w.heap.size w) (.cells #[.slice A l.length c] 95)
  have hv := blk_new w (.cells #[.slice A l.length c] 95)
  have HA := Aside0.mk (are_any w.heap.size A c l _ (Kd.C_below hr hb) hl ((blk_cell hv 0).trans rfl) hw)
  have HV := Aside0.mk hv
  have HB := Aside0.mk hb
  have HT := Aside0.mk hB
  clear hr hw hb hv hB
  go_enter Tryd.func33, Tryd.ntmps33
  go_wp2_with (go_at_call 56; refine HA.out.mono ?_; rintro e w2 ⟨rfl, hb⟩; rw [HT.out]; have HV2 := Aside0.mk (blk_below HV.out hb); have HB2 := Aside0.mk (below_then HB.out HB.out.size hb); clear hb)
  go_ret2
  exact ⟨rfl, HV2.out, HB2.out⟩
set_option maxRecDepth 100000 in
set_option maxHeartbeats 1000000 in
theorem open_no (A : Option Addr) (c : Nat) (l : List S39) (w : World) (hr : Kd.C k39 w A l.length l) (hl : l.length ≤ 1000) (hw : ∀ x ∈ l, wfR x.f2 = true) (hB : areB l = false) (a : Addr) (hs : w.cell? ⟨0, 0, none⟩ = some (.iface 136 (.pointer (some a)))) :
    Calls Tryd.prog 33 #[.slice A l.length c] w fun e w' => e = .returned (.tuple #[.pointer none, .iface 136 (.pointer (some a))]) ∧ Below w.heap.size w w' := by
  have hb := below_alloc (Below.refl w.heap.size w) (.cells #[.slice A l.length c] 95)
  have hv := blk_new w (.cells #[.slice A l.length c] 95)
  have HA := Aside0.mk (are_any w.heap.size A c l _ (Kd.C_below hr hb) hl ((blk_cell hv 0).trans rfl) hw)
  have HB := Aside0.mk hb
  have HT := Aside0.mk hB
  have HS := Aside0.mk hs
  clear hr hw hb hv hB hs
  go_enter Tryd.func33, Tryd.ntmps33
  go_wp2_with (go_at_call 56; refine HA.out.mono ?_; rintro e w2 ⟨rfl, hb⟩; rw [HT.out]; have HB2 := Aside0.mk (below_then HB.out HB.out.size hb); have k0 := pw_cell_below HB2.out HS.out; clear hb)
  go_quiet (fail)
  go_wp2
  all_goals
    go_ret2
    exact ⟨rfl, pw_below_drewN HB2.out _⟩
theorem that_any (C : Nat) (g : Nat) (lb : Array Value) (w : World) : Calls Tryd.prog 36 #[.pointer (some ⟨C, 0, none⟩), .func (.func g) #[] lb] w fun e w' => e = .returned (.func (.func 58) #[] #[.pointer (some ⟨w.heap.size, 0, none⟩), .pointer (some ⟨w.heap.size + 1, 0, none⟩)]) ∧ w' = (w.alloc (.cells #[.pointer (some ⟨C, 0, none⟩)] 62)).alloc (.cells #[.func (.func g) #[] lb] 65) := by
  go_enter Tryd.func36, Tryd.ntmps36
  go_wp2
  go_ret
  exact ⟨rfl, rfl⟩
def vS39 (x : S39) : Value := .agg #[.bool x.f0, .int .i64 x.f1, .int .i64 x.f2.f0, .int .i64 x.f2.f1, .int .i64 x.f2.f2, .int .i64 x.f2.f3]
/-- What the iterator reads. -/
def Cv (w0 : World) (Bc Bi C : Nat) (pv : Value) (A : Option Addr) (n c : Nat) (PF : World → Prop) (W : World) : Prop :=
  Below w0.heap.size w0 W ∧ Boxed W Bc 62 (.pointer (some ⟨C, 0, none⟩)) ∧ Boxed W Bi 65 pv ∧ W.heap[C]? = some (.cells #[.slice A n c] 95 (0, 0)) ∧ PF W
theorem Cv.below {w0 : World} {Bc Bi C : Nat} {pv : Value} {A : Option Addr} {n c : Nat} {PF : World → Prop} {W W' : World} (hPF : ∀ W W', PF W → Below W.heap.size W W' → PF W') (h : Cv w0 Bc Bi C pv A n c PF W) (hb : Below W.heap.size W W') : Cv w0 Bc Bi C pv A n c PF W' := by
  obtain ⟨h1, h2, h3, h4, h5⟩ := h
  exact ⟨below_then h1 h1.size hb, blk_below h2 hb, blk_below h3 hb, blk_below h4 hb, hPF _ _ h5 hb⟩
theorem filter_le (p : S39 → Bool) (l : List S39) (k : Nat) (hk : k < l.length) (hl : l.length ≤ 1000) : ((l.take k).filter p).length < 1000 := by
  have h := List.length_filter_le p (l.take k)
  rw [List.length_take] at h
  omega
set_option maxRecDepth 100000 in
set_option maxHeartbeats 4000000 in
theorem that_in (m : Nat) (hm : 3 ≤ m) (yl Bc Bi C : Nat) (g : Nat) (lb : Array Value) (p : S39 → Bool) (A : Option Addr) (c : Nat) (l : List S39) (w0 : World) (PF : World → Prop) (eg : ∀ args w, (callFunc g args).run Tryd.prog w = .ok (.enter g args) w)
    (hPF : ∀ W W', PF W → Below W.heap.size W W' → PF W') (hP : ∀ (x : S39) W, PF W → Calls Tryd.prog g (#[vS39 x] ++ lb) W fun e W' => e = .returned (.bool (p x)) ∧ Below W.heap.size W W')
    (hr : Kd.C k39 w0 A l.length l) (hl : l.length ≤ 1000) (J Jx : List S39 → World → Prop) (hJ : ∀ s W W', J s W → Below W.heap.size W W' → J s W')
    (hY : ∀ pre x W, J pre W → pre.length < 1000 → YieldAt Fence.wide (m - 1) Tryd.prog yl #[vS39 x] W fun e W' =>
      (e = .returned (.bool true) ∧ J (pre ++ [x]) W' ∧ (Cv w0 Bc Bi C (.func (.func g) #[] lb) A l.length c PF W → Cv w0 Bc Bi C (.func (.func g) #[] lb) A l.length c PF W')) ∨ (e = .returned (.bool false) ∧ Jx (pre ++ [x]) W'))
    (W : World) (hI : Cv w0 Bc Bi C (.func (.func g) #[] lb) A l.length c PF W) (h0 : J [] W) :
    CallsIn Fence.wide m Tryd.prog 58 #[.func (.yield yl) #[] #[], .pointer (some ⟨Bc, 0, none⟩), .pointer (some ⟨Bi, 0, none⟩)] W fun e W' => (∃ v, e = .returned v) ∧
      ((∃ ys, ys = l.filter p ∧ J ys W') ∨ (∃ pre, True ∧ Jx pre W')) := by
  refine callsIn_of_wp Tryd.func58 rfl trivial ?_ rfl
  simp only [Tryd.ntmps58, List.size_toArray, List.length_cons, List.length_nil, Nat.reduceAdd, Nat.reduceSub, Array.replicate_succ, Array.replicate_zero, List.push_toArray, List.append_toArray, List.nil_append, List.cons_append]
  have c1 := hI.2.1.cell
  have c2 : W.cell? ⟨C, 0, none⟩ = some (.slice A l.length c) := (blk_cell hI.2.2.2.1 0).trans rfl
  have HI := Aside0.mk hI
  have HR := Aside0.mk hr
  have HP := Aside0.mk hP
  have HPF := Aside0.mk hPF
  clear hI hr hP hPF
  gi_wp2
  refine wpIn_scope_wide ?_
  gi_wp2
  refine wpIn_label ?_
  gi_wp2
  gi_loopw [12] (fun i wr => ∃ k : Nat, k ≤ l.length ∧ i = .int .i64 k ∧ Aside0 (J ((l.take k).filter p) wr) ∧ Aside0 (Cv w0 Bc Bi C (.func (.func g) #[] lb) A l.length c PF wr)) (fun i _ => l.length - (intOf i).toNat)
  case atStart => exact ⟨0, Nat.zero_le _, rfl, ⟨h0⟩, HI⟩
  case round =>
    clear HI h0 c1 c2
    obtain ⟨k, hk, rfl, hJk, hIk⟩ := hrel
    by_cases hlt : k < l.length
    · obtain ⟨ad, ea, hx0, hx1, hx2, hx3, hx4, hx5⟩ := at_T39 (Kd.C_below HR.out hIk.out.1) (k : Int) (by omega) (by omega)
      cases ea
      simp only [Int.toNat_natCast] at hx0 hx1 hx2 hx3 hx4 hx5
      have ht := Aside0.mk (takeD_rd l k hlt)
      have hle := Aside0.mk (filter_le p l k hlt hl)
      generalize rd_T39 l k = x at *
      have hq : p x = p ⟨x.f0, x.f1, ⟨x.f2.f0, x.f2.f1, x.f2.f2, x.f2.f3⟩⟩ := rfl
      obtain ⟨x0, x1, ⟨r0, r1, r2, r3⟩⟩ := x
      dsimp only at hx0 hx1 hx2 hx3 hx4 hx5 ht hq
      have hb1 := below_alloc (Below.refl wr.heap.size wr) (.cells #[.bool x0, .int .i64 x1, .int .i64 r0, .int .i64 r1, .int .i64 r2, .int .i64 r3] 39)
      have HI1 := Aside0.mk (hIk.out.below HPF.out hb1)
      have HJ1 := Aside0.mk (hJ _ _ _ hJk.out hb1)
      have HC := Aside0.mk (callsIn_wide (n := m - 1).2 (HP.out ⟨x0, x1, ⟨r0, r1, r2, r3⟩⟩ _ HI1.out.2.2.2.2))
      have d1 := HI1.out.2.2.1.cell
      have HV1 := Aside0.mk (blk_new wr (.cells #[.bool x0, .int .i64 x1, .int .i64 r0, .int .i64 r1, .int .i64 r2, .int .i64 r3] 39))
      clear hb1 hJk hIk hq
      generalize hpx : p ⟨x0, x1, ⟨r0, r1, r2, r3⟩⟩ = q at *
      have HQ := Aside0.mk hpx
      clear hpx
      cases q
      · gi_wp2
        refine ⟨trivial, fun _ => by omega, HC.out.mono ?_⟩
        rintro e W2 ⟨rfl, hb⟩
        have HI2 := Aside0.mk (HI1.out.below HPF.out hb)
        have HJ2 := Aside0.mk (hJ _ _ _ HJ1.out hb)
        clear hb
        gi_wp2
        refine ⟨(fun f h => nomatch h), ?_⟩
        gi_wp2
        go_roundw
        case rel => exact ⟨k + 1, by omega, by go_num, ⟨by rw [ht.out, List.filter_append]; simpa [HQ.out] using HJ2.out⟩, HI2⟩
        case measure => simp [intOf]; omega
      · gi_wp2
        refine ⟨trivial, fun _ => by omega, HC.out.mono ?_⟩
        rintro e W2 ⟨rfl, hb⟩
        have HI2 := Aside0.mk (HI1.out.below HPF.out hb)
        have HJ2 := Aside0.mk (hJ _ _ _ HJ1.out hb)
        have k0 : W2.cell? ⟨wr.heap.size, 0, none⟩ = some (.bool x0) := (blk_cell (blk_below HV1.out hb) 0).trans rfl
        have k1 : W2.cell? ⟨wr.heap.size, 1, none⟩ = some (.int .i64 x1) := (blk_cell (blk_below HV1.out hb) 1).trans rfl
        have k2 : W2.cell? ⟨wr.heap.size, 2, none⟩ = some (.int .i64 r0) := (blk_cell (blk_below HV1.out hb) 2).trans rfl
        have k3 : W2.cell? ⟨wr.heap.size, 3, none⟩ = some (.int .i64 r1) := (blk_cell (blk_below HV1.out hb) 3).trans rfl
        have k4 : W2.cell? ⟨wr.heap.size, 4, none⟩ = some (.int .i64 r2) := (blk_cell (blk_below HV1.out hb) 4).trans rfl
        have k5 : W2.cell? ⟨wr.heap.size, 5, none⟩ = some (.int .i64 r3) := (blk_cell (blk_below HV1.out hb) 5).trans rfl
        clear hb
        obtain ⟨fn, tmps, assign, body, hy, hR⟩ := hY _ ⟨x0, x1, ⟨r0, r1, r2, r3⟩⟩ W2 HJ2.out hle.out
        unfold vS39 at hy
        have HT := Aside0.mk (show (l.take (k + 1)).filter p = (l.take k).filter p ++ [⟨x0, x1, ⟨r0, r1, r2, r3⟩⟩] by rw [ht.out, List.filter_append]; simp [HQ.out])
        gi_wp2
        refine ⟨fun _ => by omega, hR.mono ?_⟩
        clear hy hR k0 k1 k2 k3 k4 k5
        rintro ev W3 (⟨rfl, hJ3, hk3⟩ | ⟨rfl, hJx3⟩)
        · have HJ3 := Aside0.mk hJ3
          have HI3 := Aside0.mk (hk3 HI2.out)
          clear hJ3 hk3
          gi_wp2
          go_roundw
          case rel => exact ⟨k + 1, by omega, by go_num, ⟨by rw [HT.out]; exact HJ3.out⟩, HI3⟩
          case measure => simp [intOf]; omega
        · gi_wp2
          rw [Exit.noGoto_normal]
          go_end0
          exact ⟨⟨_, rfl⟩, .inr ⟨_, trivial, hJx3⟩⟩
    · have e : k = l.length := by omega
      subst e
      rw [List.take_length] at hJk
      gi_wp2
      rw [Exit.noGoto_normal]
      go_end0
      exact ⟨⟨_, rfl⟩, .inl ⟨_, rfl, hJk.out⟩⟩
end Go.Proofs.YtkmddhljfjjglaaDoor.G
/- Chapter 18: a range over an iterator, left or not, whose assignment lays a variable; what is collected. Written by mkF6.py. -/
namespace Go.Proofs.YtkmddhljfjjglaaDoor.G
open Go.RowKit Go.Shelf Go.Proofs.YtkmddhljfjjglaaDoorW.PrintWords Go.Proofs.YtkmddhljfjjglaaDoorW.PrintLast Go.Proofs.YtkmddhljfjjglaaDoorW.PrintMore

/-- The record of a loop lies there, and the block for its rounds' deferred calls. -/
def ReadyAt (r : Loop) (D : Nat) (W : World) : Prop := W.heap[D + 1]? = some (.loop r) ∧ W.heap[D]? = some (.deferred (some []))
theorem ReadyAt.below {r : Loop} {D : Nat} {W W' : World} (h : ReadyAt r D W) (hb : Below W.heap.size W W') : ReadyAt r D W' := ⟨blk_below h.1 hb, blk_below h.2 hb⟩
section
variable {F : Fence} {n : Nat} {P : Program}
/-- A range over an iterator, which may be left by a return. -/
theorem range_any {g : Operand} {ps : Array Tmp} {assign body : Code} {Q : Exit → Act → World → Prop} {a : Act} {w : World}
    (hro : F.round = none) (h1 : 1 ≤ n) {gf : Nat} {lb : Array Value} (hg : a.eval g = .func (.func gf) #[] lb) (hFg : F.fn gf) (eg : ∀ args w, (callFunc gf args).run P w = .ok (.enter gf args) w)
    (T Tx : World → Prop)
    (hcall : ∀ (fn : FuncId) (r : Loop), F.fn fn → r = { state := .ready, pending := none, fn, tmps := a.tmps, params := ps, assign, body, defers := w.heap.size } → CallsIn F (n - 1) P gf (#[.func (.yield (w.heap.size + 1)) #[] #[]] ++ lb)
      ((w.alloc (.deferred (some []))).alloc (.loop r))
      fun e W2 => (∃ v, e = .returned v) ∧ ((T W2 ∧ ReadyAt r w.heap.size W2) ∨ (Tx W2 ∧ ReadyAt { r with state := .done, pending := some .ret } w.heap.size W2)))
    (hdone : ∀ (o : Obj) (W2 : World), T W2 → (∃ r : Loop, W2.heap[w.heap.size + 1]? = some (.loop r)) → W2.heap[w.heap.size]? = some (.deferred (some [])) →
      Q .normal { a with defers := { target := .collected w.heap.size, args := #[] } :: a.defers } (W2.putObj (w.heap.size + 1) o))
    (hstop : ∀ (o : Obj) (W2 : World), Tx W2 → (∃ r : Loop, W2.heap[w.heap.size + 1]? = some (.loop r)) → W2.heap[w.heap.size]? = some (.deferred (some [])) →
      Code.ret.wpIn F n P Q { a with defers := { target := .collected w.heap.size, args := #[] } :: a.defers } (W2.putObj (w.heap.size + 1) o)) :
    (Code.rangeFunc g ps assign body).wpIn F n P Q a w := by
  refine wpIn_rangeFunc ?_
  intro fn hfn
  rw [hro]
  have hc := hcall fn _ hfn rfl
  have hen := run_enterLoop_outer (P := P) (w := w) fn a.tmps ps assign body
  have hdo := hdone
  have hsp := hstop
  clear hcall hdone hstop
  have hst : ({ state := .ready, pending := none, fn, tmps := a.tmps, params := ps, assign, body, defers := w.heap.size } : Loop).state = .ready := rfl
  have hpe : ({ state := .ready, pending := none, fn, tmps := a.tmps, params := ps, assign, body, defers := w.heap.size } : Loop).pending = none := rfl
  generalize ({ state := .ready, pending := none, fn, tmps := a.tmps, params := ps, assign, body, defers := w.heap.size } : Loop) = r at hc hen hst hpe
  generalize (w.alloc (.deferred (some []))).alloc (.loop r) = W1 at hc hen
  refine ⟨w.heap.size + 1, [{ target := .collected w.heap.size, args := #[] }], W1, { target := .fn (.func gf) lb, args := #[.func (.yield (w.heap.size + 1)) #[] #[]] }, W1, gf,
    #[.func (.yield (w.heap.size + 1)) #[] #[]] ++ lb, W1, hen, ?_, ?_, ?_, fun _ => h1, ?_⟩
  · simp only [resolve, hg]
    simp [go_sem]
  · intro f' hf'
    simp [Target.leads] at hf'
    subst hf'
    exact hFg
  · simp [invoke, go_sem, eg]
  · refine hc.mono ?_
    rintro e W2 ⟨⟨v, rfl⟩, (⟨hT, hR, hD⟩ | ⟨hT, hR, hD⟩)⟩
    · have he := run_endLoop (P := P) hR (by rw [hst]; simp)
      rw [hpe] at he
      exact ⟨none, _, he, hdo _ W2 hT ⟨_, hR⟩ hD⟩
    · have he := run_endLoop (P := P) hR (by simp)
      exact ⟨some .ret, _, he, hsp _ W2 hT ⟨_, hR⟩ hD⟩
/-- One round of it. -/
theorem yield_round {l : Nat} {r : Loop} {args : Array Value} {W : World} {R Rx : World → Prop} (hl : W.heap[l]? = some (.loop r)) (hs : r.state = .ready) (hp : r.pending = none) (hfn : F.fn r.fn) (hps : args.size = r.params.size)
    (h : r.assign.wpIn (F.inRound l) n P (Exit.then (fun a₁ W1 => W1.heap[l]? = some (.loop r) ∧
        r.body.wpIn (F.inRound l) n P (fun e _ W3 => (∃ r' : Loop, r' = { r with state := .busy } ∧ W3.heap[l]? = some (.loop r')) ∧ ((e = .normal ∧ R (W3.putObj l (.loop r))) ∨ (e = .ret ∧ Rx (W3.putObj l (.loop { r with state := .done, pending := some .ret }))))) a₁ (W1.putObj l (.loop { r with state := .busy }))) (fun _ _ _ => False))
      { tmps := (r.params.zip args).foldl (fun t (p, v) => t.setIfInBounds p v) r.tmps, defers := [] } W) :
    YieldAt F n P l args W fun e W' => (e = .returned (.bool true) ∧ R W') ∨ (e = .returned (.bool false) ∧ Rx W') := by
  refine ⟨r.fn, _, r.assign, r.body, run_yield hl hps, roundIn_of_wpIn hfn (wpIn_mono h ?_)⟩
  rintro e a1 W1 he
  cases e with
  | normal =>
    obtain ⟨h1, hb⟩ := he
    refine ⟨_, run_beginRound h1 hs, wpIn_mono hb ?_⟩
    rintro e a3 W3 ⟨⟨r', er, h3⟩, (⟨rfl, hR⟩ | ⟨rfl, hR⟩)⟩
    · have hr := run_endRound (P := P) none h3
      have e2 : ({ r' with state := if (none : Option Code).isNone then LoopState.ready else LoopState.done, pending := none } : Loop) = r := by
        subst er
        cases r
        simp_all
      rw [e2] at hr
      exact ⟨_, _, hr, .inl ⟨rfl, hR⟩⟩
    · have hr := run_endRound (P := P) (some .ret) h3
      have e2 : ({ r' with state := if (some Code.ret : Option Code).isNone then LoopState.ready else LoopState.done, pending := some Code.ret } : Loop) = { r with state := .done, pending := some .ret } := by
        subst er
        rfl
      rw [e2] at hr
      exact ⟨_, _, hr, .inr ⟨rfl, hR⟩⟩
  | ret => exact he.elim
  | exit id => exact he.elim
  | goto t => exact he.elim
  | panic ch => exact he.elim
  | outgrown => exact he.elim
end
/-- The cells of what is drawn. -/
def cs39 (x : S39) : List Value := [.bool x.f0, .int .i64 x.f1, .int .i64 x.f2.f0, .int .i64 x.f2.f1, .int .i64 x.f2.f2, .int .i64 x.f2.f3]
def row39 (l : List S39) : List Value := l.flatMap cs39
theorem row39_snoc (l : List S39) (x : S39) : row39 (l ++ [x]) = row39 l ++ cs39 x := by simp [row39]
theorem snoc_ind {α : Type} {Q : List α → Prop} (h0 : Q []) (h1 : ∀ l x, Q l → Q (l ++ [x])) (l : List α) : Q l := by
  rw [← List.reverse_reverse l]
  induction l.reverse with
  | nil => exact h0
  | cons x r ih => rw [List.reverse_cons]; exact h1 _ _ ih
theorem reps39 (w : World) (base : Nat) (ok : Nat → Prop) (l : List S39) : Reps (k39.M w base ok) 6 l (row39 l) := by
  induction l using snoc_ind with
  | h0 => exact Reps.none _ _
  | h1 l x ih => rw [row39_snoc]; exact ih.snoc (k39_mkM _ _ _ x) rfl
theorem R39_of_own {W : World} {base : Nat} {v : Value} {l : List S39} (h : W.ownsRow base 39 6 v l.length (row39 l)) : Kd.R k39 39 W base (fun _ => True) v l :=
  ⟨fun _ _ => trivial, row39 l, h, reps39 _ _ _ _⟩
/-- What the collecting lays. -/
def Colx (w : World) (r : Loop) (pre : List S39) (W : World) : Prop :=
  ReadyAt r (w.heap.size + 1) W ∧ (∃ v, Boxed W w.heap.size 35 v ∧ W.ownsRow w.heap.size 39 6 v pre.length (row39 pre)) ∧ Below w.heap.size w W
theorem Colx.below {w : World} {r : Loop} {pre : List S39} {W W' : World} (h : Colx w r pre W) (hb : Below W.heap.size W W') : Colx w r pre W' := by
  obtain ⟨h1, ⟨v, h2, h3⟩, h4⟩ := h
  exact ⟨h1.below hb, ⟨v, blk_below h2 hb, pw_own_below h3 hb⟩, below_then h4 h4.size hb⟩
theorem infoD : (Tryd.prog.info? 39).map (fun i => (i.zero, i.size, i.bytes)) = some (some (.agg #[(.bool false), (.int .i64 0), (.int .i64 0), (.int .i64 0), (.int .i64 0), (.int .i64 0)]), 6, 48) := by kernel_rfl
end Go.Proofs.YtkmddhljfjjglaaDoor.G
/- Chapter 18: what slices.Collect collects of the iterator. Written by mkF7.py. -/
namespace Go.Proofs.YtkmddhljfjjglaaDoor.G
open Go.RowKit Go.Shelf Go.Proofs.YtkmddhljfjjglaaDoorW.PrintWords Go.Proofs.YtkmddhljfjjglaaDoorW.PrintLast Go.Proofs.YtkmddhljfjjglaaDoorW.PrintMore
attribute [local go_sem] Oper.semAt_some

theorem cells_new (W : World) (t : TypeId) (l : List Value) (j : Nat) (u : Value) (h : l[j]? = some u) : (W.alloc (.cells l.toArray t)).cell? (Addr.add ⟨W.heap.size, 0, none⟩ j) = some u := by
  rw [add_plain, World.cell?_alloc_new]
  simp [h]
set_option maxRecDepth 100000 in
set_option maxHeartbeats 4000000 in
theorem appendSeq_that (Bc Bi C : Nat) (g : Nat) (lb : Array Value) (p : S39 → Bool) (A : Option Addr) (c : Nat) (l : List S39) (w0 : World) (PF : World → Prop) (eg : ∀ args w, (callFunc g args).run Tryd.prog w = .ok (.enter g args) w)
    (hPF : ∀ W W', PF W → Below W.heap.size W W' → PF W') (hP : ∀ (x : S39) W, PF W → Calls Tryd.prog g (#[vS39 x] ++ lb) W fun e W' => e = .returned (.bool (p x)) ∧ Below W.heap.size W W')
    (hr : Kd.C k39 w0 A l.length l) (hl : l.length ≤ 1000) (w : World) (hCw : ∀ W', Below w.heap.size w W' → Cv w0 Bc Bi C (.func (.func g) #[] lb) A l.length c PF W') :
    CallsIn Fence.wide 6 Tryd.prog 57 #[.slice none 0 0, .func (.func 58) #[] #[.pointer (some ⟨Bc, 0, none⟩), .pointer (some ⟨Bi, 0, none⟩)]] w fun e W' => ∃ v, e = .returned v ∧ W'.ownsRow w.heap.size 39 6 v (l.filter p).length (row39 (l.filter p)) ∧ Below w.heap.size w W' := by
  obtain ⟨i0, hi, hz0, hz1, hz2⟩ := info_parts infoD
  have HI := Aside0.mk hi
  have HP := Aside0.mk hP
  have HPF := Aside0.mk hPF
  have HR := Aside0.mk hr
  have HCW := Aside0.mk hCw
  clear hP hPF hr hi hCw
  refine callsIn_of_wp_marks Tryd.func57 rfl trivial ?_ rfl
  simp only [Tryd.ntmps57, List.size_toArray, List.length_cons, List.length_nil, Nat.reduceAdd, Nat.reduceSub, Array.replicate_succ, Array.replicate_zero, List.push_toArray, List.append_toArray, List.nil_append, List.cons_append]
  gi_wp2
  have bO := Boxed.new w 35 (.slice none 0 0)
  have hB0 : Below w.heap.size w (w.alloc (.cells #[.slice none 0 0] 35)) := below_alloc (Below.refl _ _) _
  have z1 : (w.alloc (.cells #[.slice none 0 0] 35)).heap.size = w.heap.size + 1 := by simp
  have BO := Aside0.mk bO
  have HB0 := Aside0.mk hB0
  clear bO hB0
  generalize w.alloc (.cells #[.slice none 0 0] 35) = Wa at *
  refine range_any (F := Fence.wide) rfl (by omega) (gf := 58) (lb := #[.pointer (some ⟨Bc, 0, none⟩), .pointer (some ⟨Bi, 0, none⟩)]) rfl trivial (enters_of Tryd.func58 (by kernel_rfl) rfl)
    (fun W2 => (∃ v, Boxed W2 w.heap.size 35 v ∧ W2.ownsRow w.heap.size 39 6 v (l.filter p).length (row39 (l.filter p))) ∧ Below w.heap.size w W2) (fun _ => False) ?hcall ?hdone ?hstop
  case hstop => exact fun _ _ h => h.elim
  case hcall =>
    intro fn r hfn hrec
    have hst : r.state = .ready := by rw [hrec]
    have hpe : r.pending = none := by rw [hrec]
    have hrf : Fence.wide.fn r.fn := trivial
    have ready0 : ReadyAt r (w.heap.size + 1) ((Wa.alloc (.deferred (some []))).alloc (.loop r)) := by
      rw [← z1]
      refine ⟨?_, blk_alloc (blk_new Wa _) _⟩
      have := blk_new (Wa.alloc (.deferred (some []))) (.loop r)
      simpa using this
    have below0 : Below Wa.heap.size Wa ((Wa.alloc (.deferred (some []))).alloc (.loop r)) := below_alloc (below_alloc (Below.refl _ _) _) _
    have below1 := below_then HB0.out HB0.out.size below0
    refine (that_in 5 (by omega) (Wa.heap.size + 1) Bc Bi C g lb p A c l w0 PF eg HPF.out HP.out HR.out hl (Colx w r) (fun _ _ => False) (fun s W W' h hb => h.below hb) ?hY _ (HCW.out _ below1)
      ⟨ready0, ⟨_, blk_below BO.out below0, World.ownsRow_nil _ _ _ _⟩, below1⟩).mono ?_
    case hY =>
      rintro pre ⟨x0, x1, ⟨r0, r1, r2, r3⟩⟩ W hJ hlen
      obtain ⟨h1, ⟨v, h2, h3⟩, h4⟩ := hJ
      rw [z1]
      have hsz := h4.size
      refine (yield_round (R := fun W' => Colx w r (pre ++ [⟨x0, x1, ⟨r0, r1, r2, r3⟩⟩]) W') (Rx := fun _ => False) h1.1 hst hpe hrf (by rw [hrec]; rfl) ?_).mono ?_
      case _ =>
        have e1 := congrArg Loop.assign hrec
        have e2 := congrArg Loop.params hrec
        have e3 := congrArg Loop.body hrec
        have e4 := congrArg Loop.tmps hrec
        dsimp only at e1 e2 e3 e4
        clear hrec
        generalize hbz : ({ r with state := LoopState.busy } : Loop) = rb
        rw [e1, e2, e3, e4]
        clear e1 e2 e3 e4
        have H1 := Aside0.mk h1
        have H2 := Aside0.mk h2
        have H3 := Aside0.mk h3
        have H4 := Aside0.mk h4
        have hlt := blk_lt h1.1
        clear h1 h2 h3 h4 ready0 below0 below1
        unfold vS39
        gi_wp2
        refine And.intro (blk_alloc H1.out.1 _) ?_
        have hl := blk_alloc H1.out.1 (.cells #[.bool x0, .int .i64 x1, .int .i64 r0, .int .i64 r1, .int .i64 r2, .int .i64 r3] 39)
        have hd := blk_alloc H1.out.2 (.cells #[.bool x0, .int .i64 x1, .int .i64 r0, .int .i64 r1, .int .i64 r2, .int .i64 r3] 39)
        have hp0 := blk_new W (.cells #[.bool x0, .int .i64 x1, .int .i64 r0, .int .i64 r1, .int .i64 r2, .int .i64 r3] 39)
        have hb := blk_alloc H2.out (.cells #[.bool x0, .int .i64 x1, .int .i64 r0, .int .i64 r1, .int .i64 r2, .int .i64 r3] 39)
        have ho := H3.out.alloc (.cells #[.bool x0, .int .i64 x1, .int .i64 r0, .int .i64 r1, .int .i64 r2, .int .i64 r3] 39)
        have hB := below_alloc H4.out (.cells #[.bool x0, .int .i64 x1, .int .i64 r0, .int .i64 r1, .int .i64 r2, .int .i64 r3] 39)
        generalize W.alloc (.cells #[.bool x0, .int .i64 x1, .int .i64 r0, .int .i64 r1, .int .i64 r2, .int .i64 r3] 39) = Wa1 at *
        have hl2 : (Wa1.putObj (w.heap.size + 1 + 1) (.loop rb)).heap[w.heap.size + 1 + 1]? = some (.loop rb) := World.putObj_heap_same (blk_lt hl)
        have hp2 := (World.putObj_heap_other (w := Wa1) (o := .loop rb) (show W.heap.size ≠ w.heap.size + 1 + 1 by omega)).trans hp0
        have hd2 := (World.putObj_heap_other (w := Wa1) (o := .loop rb) (show w.heap.size + 1 ≠ w.heap.size + 1 + 1 by omega)).trans hd
        have hb2 : Boxed (Wa1.putObj (w.heap.size + 1 + 1) (.loop rb)) w.heap.size 35 v := (World.putObj_heap_other (w := Wa1) (o := .loop rb) (show w.heap.size ≠ w.heap.size + 1 + 1 by omega)).trans hb
        have ho2 := ownsRow_putObj ho (.loop rb) hl rfl
        have hB2 := hB.trans (belowK_b (w := w) (Nat.le_refl _) Wa1 (w.heap.size + 1 + 1) _ (.loop rb) (by omega) hl rfl rfl)
        clear hp0 hd hb ho hB hl
        generalize Wa1.putObj (w.heap.size + 1 + 1) (.loop rb) = Wb at *
        have hc0 := hb2.cell
        have k0 : Wb.cell? ⟨W.heap.size, 0, none⟩ = some (.bool x0) := (blk_cell hp2 0).trans rfl
        have k1 : Wb.cell? ⟨W.heap.size, 1, none⟩ = some (.int .i64 x1) := (blk_cell hp2 1).trans rfl
        have k2 : Wb.cell? ⟨W.heap.size, 2, none⟩ = some (.int .i64 r0) := (blk_cell hp2 2).trans rfl
        have k3 : Wb.cell? ⟨W.heap.size, 3, none⟩ = some (.int .i64 r1) := (blk_cell hp2 3).trans rfl
        have k4 : Wb.cell? ⟨W.heap.size, 4, none⟩ = some (.int .i64 r2) := (blk_cell hp2 4).trans rfl
        have k5 : Wb.cell? ⟨W.heap.size, 5, none⟩ = some (.int .i64 r3) := (blk_cell hp2 5).trans rfl
        have F1 := Aside0.mk hl2
        have F2 := Aside0.mk hd2
        have F3 := Aside0.mk hb2
        have F4 := Aside0.mk ho2
        have F5 := Aside0.mk hB2
        have hsz2 := hB2.size
        clear hl2 hp2 hd2 hb2 ho2 hB2
        gi_wp2_with (gi_at_builtin; refine wpListIn_append_own _ rfl _ _ 35 rfl w.heap.size 39 i0 (.agg #[(.bool false), (.int .i64 0), (.int .i64 0), (.int .i64 0), (.int .i64 0), (.int .i64 0)]) 6 48 Tryd.underlying35 HI.out hz0 hz1 hz2 rfl (by decide) _ _ _ rfl (F4.out.alloc _) ⟨Wb.heap.size, 0, none⟩ 1 1 (cs39 ⟨x0, x1, ⟨r0, r1, r2, r3⟩⟩) rfl rfl (fun j u h => cells_new Wb 39 (cs39 ⟨x0, x1, ⟨r0, r1, r2, r3⟩⟩) j u h) (by simp [Value.oneCell', cs39]) (by unfold maxLen; omega) (by omega) (by simp; omega) ?_; intro v' w1 hown' hgrow _; obtain ⟨g', cap', rfl⟩ := ownsRow_succ hown'; obtain ⟨hv1, hv2, hr2, hk2, hbel⟩ := F3.out.appended (by decide) F4.out hsz2 (Nat.le_refl _) hown' hgrow; have G2 := Aside0.mk hv2; have G3 := Aside0.mk hr2; have G4 := Aside0.mk hk2; have G5 := Aside0.mk hbel; have hc1 := hv1.cell; have hf1 := hv1.frozen; clear hv1 hv2 hr2 hk2 hbel hown' hgrow)
        have f1 := G4.out.2 _ _ F1.out rfl
        have f2 := G4.out.2 _ _ F2.out rfl
        refine ⟨f1, ⟨World.putObj_heap_same (blk_lt f1), (World.putObj_heap_other (by omega)).trans f2⟩, ⟨_, (World.putObj_heap_other (by omega)).trans G2.out, ?_⟩, ?_⟩
        · rw [row39_snoc]
          simpa using ownsRow_putObj G3.out (.loop r) f1 rfl
        · exact (F5.out.trans G5.out).trans (belowK_b (w := w) (Nat.le_refl _) _ (w.heap.size + 1 + 1) _ (.loop r) (by omega) f1 rfl rfl)
      case _ =>
        rintro e W' (⟨rfl, h⟩ | ⟨_, h⟩)
        · exact .inl ⟨rfl, h, fun _ => HCW.out _ h.2.2⟩
        · exact h.elim
    · rintro e W' ⟨⟨v, rfl⟩, (⟨ys, rfl, h1, h2, h4⟩ | ⟨_, _, h⟩)⟩
      · exact ⟨⟨v, rfl⟩, .inl ⟨⟨h2, h4⟩, by rw [z1]; exact h1⟩⟩
      · exact h.elim
  case hdone =>
    rintro o W2 ⟨⟨v, hv, ho⟩, hB⟩ ⟨r, hr⟩ hD
    rw [z1] at hr hD ⊢
    have v3 : Boxed (W2.putObj (w.heap.size + 1 + 1) o) w.heap.size 35 v := (World.putObj_heap_other (by omega)).trans hv
    have o3 := ownsRow_putObj ho o hr rfl
    have d3 : (W2.putObj (w.heap.size + 1 + 1) o).heap[w.heap.size + 1]? = some (.deferred (some [])) := (World.putObj_heap_other (by omega)).trans hD
    have b3 := hB.trans (belowK_b (w := w) (Nat.le_refl _) W2 (w.heap.size + 1 + 1) _ o (by omega) hr rfl rfl)
    have c3 := v3.cell
    have O4 := Aside0.mk (ownsRow_putObj o3 (.deferred none) d3 rfl)
    have B4 := Aside0.mk (b3.trans (belowK_b (w := w) (Nat.le_refl _) _ (w.heap.size + 1) _ (.deferred none) (by omega) d3 rfl rfl))
    have D3 := Aside0.mk d3
    clear hv ho hB hr hD v3 o3 d3 b3
    gi_wp2
    refine ⟨by simp, .inl ⟨_, _, rfl, run_takeDeferred D3.out, ?_⟩⟩
    exact ⟨_, results_tmp rfl _ _ _, v, rfl, O4.out, B4.out⟩
theorem collect_that (Bc Bi C : Nat) (g : Nat) (lb : Array Value) (p : S39 → Bool) (A : Option Addr) (c : Nat) (l : List S39) (w0 : World) (PF : World → Prop) (eg : ∀ args w, (callFunc g args).run Tryd.prog w = .ok (.enter g args) w)
    (hPF : ∀ W W', PF W → Below W.heap.size W W' → PF W') (hP : ∀ (x : S39) W, PF W → Calls Tryd.prog g (#[vS39 x] ++ lb) W fun e W' => e = .returned (.bool (p x)) ∧ Below W.heap.size W W')
    (hr : Kd.C k39 w0 A l.length l) (hl : l.length ≤ 1000) (w : World) (hCw : ∀ W', Below w.heap.size w W' → Cv w0 Bc Bi C (.func (.func g) #[] lb) A l.length c PF W') :
    Calls Tryd.prog 35 #[.func (.func 58) #[] #[.pointer (some ⟨Bc, 0, none⟩), .pointer (some ⟨Bi, 0, none⟩)]] w fun e W' => ∃ v, e = .returned v ∧ W'.ownsRow w.heap.size 39 6 v (l.filter p).length (row39 (l.filter p)) ∧ Below w.heap.size w W' := by
  have H := Aside0.mk (callsIn_wide.1 (appendSeq_that Bc Bi C g lb p A c l w0 PF eg hPF hP hr hl w hCw))
  clear hPF hP hr hCw eg
  go_enter Tryd.func35, Tryd.ntmps35
  go_wp2_with (go_at_call 57; refine H.out.mono ?_; rintro e w' ⟨v, rfl, ho, hb⟩)
  go_ret
  exact ⟨v, rfl, ho, hb⟩
end Go.Proofs.YtkmddhljfjjglaaDoor.G
/- Chapter 18: Draws. Written by mkF8.py. -/
namespace Go.Proofs.YtkmddhljfjjglaaDoor.G
open Go.RowKit Go.Shelf Go.Proofs.YtkmddhljfjjglaaDoorW.PrintWords Go.Proofs.YtkmddhljfjjglaaDoorW.PrintLast Go.Proofs.YtkmddhljfjjglaaDoorW.PrintMore

theorem own_base {W : World} {base base' : Nat} {e : TypeId} {size : Nat} {v : Value} {k : Nat} {xs : List Value} (h : W.ownsRow base e size v k xs) (hb : base' ≤ base) : W.ownsRow base' e size v k xs := by
  refine ⟨h.1, ?_⟩
  rcases h.2 with hn | ⟨g, cap, cur, hv, hbg, rest⟩
  · exact .inl hn
  · exact .inr ⟨g, cap, cur, hv, Nat.le_trans hb hbg, rest⟩
theorem C39_of_own {W : World} {base : Nat} {v : Value} {l : List S39} (h : W.ownsRow base 39 6 v l.length (row39 l)) : ∃ A c, v = .slice A l.length c ∧ l.length ≤ c ∧ Kd.C k39 W A l.length l := Kd.R_reads (R39_of_own h)
theorem cells_at (W : World) (g : Nat) (t : TypeId) (hg : W.heap.size = g) (l : List Value) (j : Nat) (u : Value) (h : l[j]? = some u) : (W.alloc (.cells l.toArray t)).cell? (Addr.add ⟨g, 0, none⟩ j) = some u := by
  subst hg
  exact cells_new W t l j u h
/-- What an iterator over a canvas reads lies there as soon as it is made. -/
theorem cv_make (W : World) (C : Nat) (pv : Value) (A : Option Addr) (n c : Nat) (PF : World → Prop) (hC : W.heap[C]? = some (.cells #[.slice A n c] 95 (0, 0))) (hPF : ∀ W', Below W.heap.size W W' → PF W') :
    ∀ W', Below ((W.alloc (.cells #[.pointer (some ⟨C, 0, none⟩)] 62)).alloc (.cells #[pv] 65)).heap.size ((W.alloc (.cells #[.pointer (some ⟨C, 0, none⟩)] 62)).alloc (.cells #[pv] 65)) W' → Cv W W.heap.size (W.heap.size + 1) C pv A n c PF W' := by
  intro W' hb
  have h1 : Below W.heap.size W ((W.alloc (.cells #[.pointer (some ⟨C, 0, none⟩)] 62)).alloc (.cells #[pv] 65)) := below_alloc (below_alloc (Below.refl _ _) _) _
  have h2 := below_then h1 h1.size hb
  have b1 := blk_below (blk_alloc (blk_new W (.cells #[.pointer (some ⟨C, 0, none⟩)] 62)) (.cells #[pv] 65)) hb
  have b2 := blk_below (blk_new (W.alloc (.cells #[.pointer (some ⟨C, 0, none⟩)] 62)) (.cells #[pv] 65)) hb
  exact ⟨h2, b1, (by simpa using b2 : W'.heap[W.heap.size + 1]? = some (.cells #[pv] 65 (0, 0))), blk_below hC h2, hPF _ h2⟩
/-- Is it drawn? -/
def drawnB (x : S39) : Bool := x.f0 || (decide (x.f2.f2 > 0) && decide (x.f2.f3 > 0))
set_option maxRecDepth 100000 in
theorem drawn_any (x : S39) (w : World) : Calls Tryd.prog 34 #[vS39 x] w fun e w' => e = .returned (.bool (drawnB x)) ∧ Below w.heap.size w w' := by
  obtain ⟨x0, x1, ⟨r0, r1, r2, r3⟩⟩ := x
  unfold vS39
  have hB := Aside0.mk (below_alloc (Below.refl w.heap.size w) (.cells #[.bool x0, .int .i64 x1, .int .i64 r0, .int .i64 r1, .int .i64 r2, .int .i64 r3] 39))
  have HE := Aside0.mk (show drawnB ⟨x0, x1, ⟨r0, r1, r2, r3⟩⟩ = (x0 || (decide (r2 > 0) && decide (r3 > 0))) from rfl)
  cases x0
  · by_cases h2 : r2 > 0
    · go_enter Tryd.func34, Tryd.ntmps34
      go_wp2
      go_ret
      exact ⟨by rw [HE.out, decide_eq_true h2]; simp, hB.out⟩
    · go_enter Tryd.func34, Tryd.ntmps34
      go_wp2
      go_ret
      exact ⟨by rw [HE.out, show decide (r2 > 0) = false from decide_eq_false (by omega)]; rfl, hB.out⟩
  · go_enter Tryd.func34, Tryd.ntmps34
    go_wp2
    go_ret
    exact ⟨by rw [HE.out]; rfl, hB.out⟩
def mkR (r : S30) : S39 := ⟨true, 0, r⟩
def mkF (f : S41) : S39 := ⟨false, f.f0, f.f3⟩
def drawsL (rs : List S30) (fs : List S41) : List S39 := rs.map mkR ++ fs.map mkF
theorem takeR_rd (rs : List S30) (k : Nat) (hk : k < rs.length) : (rs.take (k + 1)).map mkR = (rs.take k).map mkR ++ [mkR (rd_T30 rs k)] := by
  rw [List.take_succ_eq_append_getElem hk, List.map_append]
  simp [rd_T30, hk]
theorem takeF_rd (fs : List S41) (k : Nat) (hk : k < fs.length) : (fs.take (k + 1)).map mkF = (fs.take k).map mkF ++ [mkF (rd_T41 fs k)] := by
  rw [List.take_succ_eq_append_getElem hk, List.map_append]
  simp [rd_T41, hk]
/-- What the first loops of Draws make. -/
theorem own_ne_any {W : World} {base : Nat} {e : TypeId} {size : Nat} {v : Value} {k : Nat} {xs : List Value} (h : W.ownsRow base e size v k xs) : ∀ j, v.ownBlock = some j → base ≤ j := fun j hj => (h.lt j hj).1
set_option maxRecDepth 1000000 in
set_option maxHeartbeats 4000000 in
theorem draws_core (A0 : Option Addr) (c0 : Nat) (rs : List S30) (A1 : Option Addr) (c1 : Nat) (fs : List S41) (w : World) (hr0 : Kd.C k30 w A0 rs.length rs) (hr1 : Kd.C k41 w A1 fs.length fs) (h0 : rs.length ≤ 200) (h1 : fs.length ≤ 200)
    (hw : ∀ x ∈ drawsL rs fs, wfR x.f2 = true) (a : Addr) (hs : w.cell? ⟨0, 0, none⟩ = some (.iface 136 (.pointer (some a)))) (rz : Int) (out : List S39) (hB : (areB (drawsL rs fs) = true ∧ rz = 0 ∧ out = (drawsL rs fs).filter drawnB) ∨ (areB (drawsL rs fs) = false ∧ rz = 170 ∧ out = [])) :
    Calls Tryd.prog 15 #[.slice A0 rs.length c0, .slice A1 fs.length c1] w fun e w' => ∃ v0_ : Value, e = .returned (.tuple #[v0_, .int .i64 rz]) ∧ Kd.R k39 39 w' w.heap.size (fun _ => True) v0_ out ∧ Below w.heap.size w w' := by
  obtain ⟨i0, hi, hz0, hz1, hz2⟩ := info_parts infoD
  have HR0 := Aside0.mk hr0
  have HR1 := Aside0.mk hr1
  have HW := Aside0.mk hw
  have HS := Aside0.mk hs
  have HI := Aside0.mk hi
  have HAB := Aside0.mk hB
  clear hr0 hr1 hw hs hi hB
  go_enter Tryd.func15, Tryd.ntmps15
  go_wp2
  go_loopw [6, 16] (fun v i wr => ∃ k : Nat, k ≤ rs.length ∧ i = .int .i64 k ∧ Aside0 (wr.ownsRow w.heap.size 39 6 v k (row39 ((rs.take k).map mkR))) ∧ Aside0 (Below w.heap.size w wr)) (fun _ i _ => rs.length - (intOf i).toNat)
  case atStart => exact ⟨0, Nat.zero_le _, rfl, ⟨World.ownsRow_nil _ _ _ _⟩, ⟨Below.refl _ _⟩⟩
  case round =>
    obtain ⟨k, hk, rfl, HO, HB⟩ := hrel
    by_cases hlt : k < rs.length
    · obtain ⟨ad, ea, hx0, hx1, hx2, hx3⟩ := at_T30 (Kd.C_below HR0.out HB.out) (k : Int) (by omega) (by omega)
      cases ea
      simp only [Int.toNat_natCast] at hx0 hx1 hx2 hx3
      have ht := Aside0.mk (takeR_rd rs k hlt)
      have hsz := HB.out.size
      generalize rd_T30 rs k = x at *
      obtain ⟨q0, q1, q2, q3⟩ := x
      dsimp only at hx0 hx1 hx2 hx3
      have HB1 := Aside0.mk (below_alloc (below_alloc HB.out (.cells #[.int .i64 q0, .int .i64 q1, .int .i64 q2, .int .i64 q3] 30)) (.cells #[.bool true, .int .i64 0, .int .i64 q0, .int .i64 q1, .int .i64 q2, .int .i64 q3] 39))
      go_wp2_with (at_builtin; refine wpList_append_own _ rfl _ _ 35 rfl w.heap.size 39 i0 (.agg #[(.bool false), (.int .i64 0), (.int .i64 0), (.int .i64 0), (.int .i64 0), (.int .i64 0)]) 6 48 Tryd.underlying35 HI.out hz0 hz1 hz2 rfl (by decide) _ _ _ rfl ((HO.out.alloc _).alloc _) ⟨wr.heap.size + 1, 0, none⟩ 1 1 (cs39 ⟨true, 0, ⟨q0, q1, q2, q3⟩⟩) rfl rfl (fun j u h => cells_at _ _ 39 (by simp) (cs39 ⟨true, 0, ⟨q0, q1, q2, q3⟩⟩) j u h) (by simp [Value.oneCell', cs39]) (by unfold maxLen; omega) (by omega) (by simp; omega) ?_; intro v' w1 hown' hgrow _; have HO1 := Aside0.mk hown'; have HG1 := Aside0.mk hgrow; clear hown' hgrow)
      go_roundw
      case rel => exact ⟨k + 1, by omega, by go_num, ⟨by rw [ht.out, row39_snoc]; exact HO1.out⟩, ⟨HB1.out.grown HG1.out HB1.out.size (own_ne_any HO.out)⟩⟩
      case measure => simp [intOf]; omega
    · have e : k = rs.length := by omega
      subst e
      rw [List.take_length] at HO
      clear hlt hk
      go_wp2
      go_loopw [6, 28] (fun v i wr => ∃ k : Nat, k ≤ fs.length ∧ i = .int .i64 k ∧ Aside0 (wr.ownsRow w.heap.size 39 6 v (rs.length + k) (row39 (rs.map mkR ++ (fs.take k).map mkF))) ∧ Aside0 (Below w.heap.size w wr)) (fun _ i _ => fs.length - (intOf i).toNat)
      case atStart => exact ⟨0, Nat.zero_le _, rfl, ⟨by simpa using HO.out⟩, HB⟩
      case round =>
        clear HO HB
        obtain ⟨k, hk, rfl, HO, HB⟩ := hrel
        by_cases hlt : k < fs.length
        · obtain ⟨ad, ea, hx0, hx1, hx2, hx3, hx4, hx5, hx6⟩ := at_T41 (Kd.C_below HR1.out HB.out) (k : Int) (by omega) (by omega)
          cases ea
          simp only [Int.toNat_natCast] at hx0 hx1 hx2 hx3 hx4 hx5 hx6
          have ht := Aside0.mk (takeF_rd fs k hlt)
          have hsz := HB.out.size
          generalize rd_T41 fs k = x at *
          obtain ⟨n0, n1, n2, ⟨q0, q1, q2, q3⟩⟩ := x
          dsimp only at hx0 hx1 hx2 hx3 hx4 hx5 hx6
          have HB1 := Aside0.mk (below_alloc (below_alloc HB.out (.cells #[.int .i64 n0, .int .i64 n1, .int .i64 n2, .int .i64 q0, .int .i64 q1, .int .i64 q2, .int .i64 q3] 41)) (.cells #[.bool false, .int .i64 n0, .int .i64 q0, .int .i64 q1, .int .i64 q2, .int .i64 q3] 39))
          rename World => wq
          go_wp2_with (at_builtin; refine wpList_append_own _ rfl _ _ 35 rfl w.heap.size 39 i0 (.agg #[(.bool false), (.int .i64 0), (.int .i64 0), (.int .i64 0), (.int .i64 0), (.int .i64 0)]) 6 48 Tryd.underlying35 HI.out hz0 hz1 hz2 rfl (by decide) _ _ _ rfl ((HO.out.alloc _).alloc _) ⟨wq.heap.size + 1, 0, none⟩ 1 1 (cs39 ⟨false, n0, ⟨q0, q1, q2, q3⟩⟩) rfl rfl (fun j u h => cells_at _ _ 39 (by simp) (cs39 ⟨false, n0, ⟨q0, q1, q2, q3⟩⟩) j u h) (by simp [Value.oneCell', cs39]) (by unfold maxLen; omega) (by omega) (by simp; omega) ?_; intro v' w1 hown' hgrow _; have HO1 := Aside0.mk hown'; have HG1 := Aside0.mk hgrow; clear hown' hgrow)
          go_roundw
          case rel => exact ⟨k + 1, by omega, by go_num, ⟨by rw [ht.out, ← List.append_assoc, row39_snoc]; exact HO1.out⟩, ⟨HB1.out.grown HG1.out HB1.out.size (own_ne_any HO.out)⟩⟩
          case measure => simp [intOf]; omega
        · have e : k = fs.length := by omega
          subst e
          rw [List.take_length] at HO
          clear hlt hk
          rename World => wq
          have hlen : (drawsL rs fs).length = rs.length + fs.length := by simp [drawsL]
          obtain ⟨A, cc, rfl, hcc, hC⟩ := C39_of_own (l := drawsL rs fs) (by rw [hlen]; exact HO.out)
          have HC := Aside0.mk hC
          rw [hlen]
          rw [hlen] at hC
          have HL := Aside0.mk hlen
          generalize drawsL rs fs = l at *
          have hll : l.length ≤ 1000 := by omega
          have hk0 := pw_cell_below HB.out HS.out
          rw [← hlen]
          clear hC
          rcases HAB.out with ⟨hy, rfl, rfl⟩ | ⟨hy, rfl, rfl⟩
          · have HOP := Aside0.mk (open_yes A cc l wq HC.out hll HW.out hy)
            have HCO := Aside0.mk (fun w2 hc W hk => collect_that w2.heap.size (w2.heap.size + 1) wq.heap.size 34 #[] drawnB A cc l w2 (fun _ => True) (enters_of Tryd.func34 (by kernel_rfl) rfl) (fun _ _ _ _ => trivial) (fun x W _ => drawn_any x W) hc hll W hk)
            clear hk0 hy HAB hlen hcc
            go_wp2_with (first | (go_at_call 33; refine HOP.out.mono ?_; rintro e w2 ⟨rfl, hbk, hb⟩; have HB2 := Aside0.mk (below_then HB.out HB.out.size hb); have HK2 := Aside0.mk (cv_make w2 wq.heap.size (.func (.func 34) #[] #[]) A l.length cc (fun _ => True) hbk (fun _ _ => trivial)); have HC2 := Aside0.mk (HCO.out w2 (Kd.C_below HC.out hb) _ HK2.out); have HB4 := Aside0.mk (below_alloc (below_alloc HB2.out (.cells #[.pointer (some ⟨wq.heap.size, 0, none⟩)] 62)) (.cells #[.func (.func 34) #[] #[]] 65)); clear hb hbk) | (go_at_call 36; refine (that_any _ _ _ _).mono ?_; rintro e w' ⟨rfl, rfl⟩) | (go_at_call 35; refine HC2.out.mono ?_; rintro e w3 ⟨v3, rfl, ho, hb⟩; have HO3 := Aside0.mk ho; have HB3 := Aside0.mk (below_then HB4.out HB4.out.size hb); clear ho hb))
            go_ret2
            exact ⟨_, rfl, R39_of_own (own_base HO3.out HB4.out.size), HB3.out⟩
          · have HOP := Aside0.mk (open_no A cc l wq HC.out hll HW.out hy a hk0)
            clear hk0 hy HAB hlen hcc
            go_wp2_with (first | (go_at_call 33; refine HOP.out.mono ?_; rintro e w2 ⟨rfl, hb⟩; have HB2 := Aside0.mk (below_then HB.out HB.out.size hb); clear hb) | (go_at_call 29; refine (told_paint a _ (pw_cell_below HB2.out HS.out)).mono ?_; rintro e w' ⟨rfl, rfl⟩))
            go_ret2
            exact ⟨_, rfl, Kd.R_nil _ _ _ _ _, HB2.out⟩
/-- Are all numbers numbers? -/
def wfD (l : List S39) : Bool := l.all fun x => wfR x.f2
theorem wfD_mem {l : List S39} (h : wfD l = true) : ∀ x ∈ l, wfR x.f2 = true := List.all_eq_true.1 h
def paint_Draws.f (l0 : List (S30)) (l1 : List (S41)) : Option ((List (S39)) × Int) := if l0.length ≤ 200 ∧ l1.length ≤ 200 ∧ wfD (drawsL l0 l1) = true then some (if areB (drawsL l0 l1) then ((drawsL l0 l1).filter drawnB, 0) else ([], 170)) else none
theorem paint_Draws.calls (A0 : Option Addr) (c0 : Nat) (l0 : List (S30)) (A1 : Option Addr) (c1 : Nat) (l1 : List (S41)) (r1 : List (S39)) (r2 : Int) (w : World) (hr0 : Kd.C k30 w A0 l0.length l0) (hc0 : l0.length ≤ c0) (hr1 : Kd.C k41 w A1 l1.length l1) (hc1 : l1.length ≤ c1) (h : paint_Draws.f l0 l1 = some (r1, r2)) (hG : GOK w) :
    Calls Tryd.prog 15 #[.slice A0 l0.length c0, .slice A1 l1.length c1] w fun e w' => ∃ v0_ : Value, e = .returned (.tuple #[v0_, .int .i64 r2]) ∧ Kd.R k39 39 w' w.heap.size (fun _ => True) v0_ r1 ∧ Below w.heap.size w w' := by
  have _h0 := hc0
  have _h1 := hc1
  obtain ⟨⟨a, ha⟩, _⟩ := hG
  unfold paint_Draws.f at h
  split at h
  · rename_i hq
    obtain ⟨q0, q1, q2⟩ := hq
    refine draws_core A0 c0 l0 A1 c1 l1 w hr0 hr1 q0 q1 (wfD_mem q2) a ha r2 r1 ?_
    by_cases hB : areB (drawsL l0 l1) = true
    · rw [if_pos hB] at h
      simp only [Option.some.injEq, Prod.mk.injEq] at h
      exact .inl ⟨hB, h.2.symm, h.1.symm⟩
    · rw [if_neg hB] at h
      simp only [Option.some.injEq, Prod.mk.injEq] at h
      exact .inr ⟨Bool.eq_false_iff.mpr hB, h.2.symm, h.1.symm⟩
  · cases h
end Go.Proofs.YtkmddhljfjjglaaDoor.G
/- Chapter 18: what is seen. Written by mkF9.py. -/
namespace Go.Proofs.YtkmddhljfjjglaaDoor.G
open Go.RowKit Go.Shelf Go.Proofs.YtkmddhljfjjglaaDoorW.PrintWords Go.Proofs.YtkmddhljfjjglaaDoorW.PrintLast Go.Proofs.YtkmddhljfjjglaaDoorW.PrintMore
attribute [local go_sem] max2_int min2_int

/-- Does one interval meet another one? -/
def meetZ (a p b q : Int) : Bool := decide (p > a ∧ p > b ∧ q > a ∧ q > b)
/-- Have two rectangles a point together? -/
def meetB (a b : S30) : Bool := meetZ a.f0 (wrap64 (a.f0 + a.f2)) b.f0 (wrap64 (b.f0 + b.f2)) && meetZ a.f1 (wrap64 (a.f1 + a.f3)) b.f1 (wrap64 (b.f1 + b.f3))
set_option maxRecDepth 100000 in
set_option maxHeartbeats 1000000 in
theorem meet_any (a0 a1 a2 a3 b0 b1 b2 b3 : Int) (w : World) : Calls Tryd.prog 44 #[.agg #[.int .i64 a0, .int .i64 a1, .int .i64 a2, .int .i64 a3], .agg #[.int .i64 b0, .int .i64 b1, .int .i64 b2, .int .i64 b3]] w fun e w' => e = .returned (.bool (meetB ⟨a0, a1, a2, a3⟩ ⟨b0, b1, b2, b3⟩)) ∧ Below w.heap.size w w' := by
  have hB := Aside0.mk (below_alloc (below_alloc (Below.refl w.heap.size w) (.cells #[.int .i64 a0, .int .i64 a1, .int .i64 a2, .int .i64 a3] 30)) (.cells #[.int .i64 b0, .int .i64 b1, .int .i64 b2, .int .i64 b3] 30))
  have HE := Aside0.mk (show meetB ⟨a0, a1, a2, a3⟩ ⟨b0, b1, b2, b3⟩ = (meetZ a0 (wrap64 (a0 + a2)) b0 (wrap64 (b0 + b2)) && meetZ a1 (wrap64 (a1 + a3)) b1 (wrap64 (b1 + b3))) from rfl)
  generalize meetB ⟨a0, a1, a2, a3⟩ ⟨b0, b1, b2, b3⟩ = r at *
  go_enter Tryd.func44, Tryd.ntmps44
  go_wp2
  all_goals
    go_ret
    refine ⟨congrArg (fun b => Ending.returned (.bool b)) ?_, hB.out⟩
    rw [HE.out, Bool.eq_iff_iff]
    simp only [meetZ, Bool.and_eq_true, decide_eq_true_eq]
    clear HE hB
    try simp only [Array.getD_eq_getD_getElem?, decide_eq_true_eq]
    generalize wrap64 (a0 + a2) = p at *
    generalize wrap64 (b0 + b2) = q at *
    generalize wrap64 (a1 + a3) = s at *
    generalize wrap64 (b1 + b3) = t at *
    first | omega | (simp; omega)
set_option maxRecDepth 100000 in
theorem seen1_any (Br : Nat) (r0 r1 r2 r3 : Int) (x : S39) (w : World) (h : w.heap[Br]? = some (.cells #[.int .i64 r0, .int .i64 r1, .int .i64 r2, .int .i64 r3] 30 (0, 0))) :
    Calls Tryd.prog 43 (#[vS39 x] ++ #[.pointer (some ⟨Br, 0, none⟩)]) w fun e w' => e = .returned (.bool (meetB x.f2 ⟨r0, r1, r2, r3⟩)) ∧ Below w.heap.size w w' := by
  obtain ⟨x0, x1, ⟨q0, q1, q2, q3⟩⟩ := x
  unfold vS39
  dsimp only
  have hb := below_alloc (Below.refl w.heap.size w) (.cells #[.bool x0, .int .i64 x1, .int .i64 q0, .int .i64 q1, .int .i64 q2, .int .i64 q3] 39)
  have h1 := blk_below h hb
  have k0 := (blk_cell h1 0).trans (show _ = some (Value.int .i64 r0) from rfl)
  have k1 := (blk_cell h1 1).trans (show _ = some (Value.int .i64 r1) from rfl)
  have k2 := (blk_cell h1 2).trans (show _ = some (Value.int .i64 r2) from rfl)
  have k3 := (blk_cell h1 3).trans (show _ = some (Value.int .i64 r3) from rfl)
  have HB := Aside0.mk hb
  clear hb h1 h
  simp only [List.append_toArray, List.cons_append, List.nil_append]
  go_enter Tryd.func43, Tryd.ntmps43
  go_wp2_with (go_at_call 44; refine (meet_any _ _ _ _ _ _ _ _ _).mono ?_; rintro e w2 ⟨rfl, hb⟩; have HB2 := Aside0.mk (below_then HB.out HB.out.size hb); clear hb)
  go_ret
  exact ⟨rfl, HB2.out⟩
set_option maxRecDepth 1000000 in
set_option maxHeartbeats 2000000 in
theorem seen_core (A : Option Addr) (c : Nat) (l : List S39) (r0 r1 r2 r3 : Int) (w : World) (hr : Kd.C k39 w A l.length l) (hl : l.length ≤ 1000) (hw : ∀ x ∈ l, wfR x.f2 = true) (a : Addr) (hs : w.cell? ⟨0, 0, none⟩ = some (.iface 136 (.pointer (some a)))) (rz : Int) (out : List S39)
    (hB : (areB l = true ∧ isB ⟨r0, r1, r2, r3⟩ = true ∧ rz = 0 ∧ out = l.filter fun x => meetB x.f2 ⟨r0, r1, r2, r3⟩) ∨ (areB l = true ∧ isB ⟨r0, r1, r2, r3⟩ = false ∧ rz = 170 ∧ out = []) ∨ (areB l = false ∧ rz = 170 ∧ out = [])) :
    Calls Tryd.prog 21 #[.slice A l.length c, .agg #[.int .i64 r0, .int .i64 r1, .int .i64 r2, .int .i64 r3]] w fun e w' => ∃ v0_ : Value, e = .returned (.tuple #[v0_, .int .i64 rz]) ∧ Kd.R k39 39 w' w.heap.size (fun _ => True) v0_ out ∧ Below w.heap.size w w' := by
  have hb0 := below_alloc (Below.refl w.heap.size w) (.cells #[.int .i64 r0, .int .i64 r1, .int .i64 r2, .int .i64 r3] 30)
  have hv0 := blk_new w (.cells #[.int .i64 r0, .int .i64 r1, .int .i64 r2, .int .i64 r3] 30)
  have hc0 := Kd.C_below hr hb0
  have HS := Aside0.mk hs
  have HB0 := Aside0.mk hb0
  have HV0 := Aside0.mk hv0
  have hk0 := pw_cell_below hb0 hs
  have hsz0 : (w.alloc (.cells #[.int .i64 r0, .int .i64 r1, .int .i64 r2, .int .i64 r3] 30)).heap.size = w.heap.size + 1 := by simp
  rcases hB with ⟨hy, hz, rfl, rfl⟩ | ⟨hy, hz, rfl, rfl⟩ | ⟨hy, rfl, rfl⟩
  · have HOP := open_yes A c l _ hc0 hl hw hy
    rw [hsz0] at HOP
    have HZ0 := Aside0.mk hsz0
    have HOP := Aside0.mk HOP
    have HC0 := Aside0.mk hc0
    have HZ := Aside0.mk hz
    have HCO := Aside0.mk (fun w2 hc W hk => collect_that w2.heap.size (w2.heap.size + 1) (w.heap.size + 1) 43 #[.pointer (some ⟨w.heap.size, 0, none⟩)] (fun x => meetB x.f2 ⟨r0, r1, r2, r3⟩) A c l w2 (fun W => W.heap[w.heap.size]? = some (.cells #[.int .i64 r0, .int .i64 r1, .int .i64 r2, .int .i64 r3] 30 (0, 0))) (enters_of Tryd.func43 (by kernel_rfl) rfl) (fun _ _ h hb => blk_below h hb) (fun x W h => seen1_any w.heap.size r0 r1 r2 r3 x W h) hc hl W hk)
    clear hr hw hs hb0 hv0 hc0 hk0 hsz0 hy hz
    go_enter Tryd.func21, Tryd.ntmps21
    go_wp2_with (first | (go_at_call 33; refine HOP.out.mono ?_; rintro e w2 ⟨rfl, hbk, hb⟩; rw [← HZ0.out] at hb; have HB2 := Aside0.mk (below_then HB0.out HB0.out.size hb); have HV2 := Aside0.mk (blk_below HV0.out hb); have k0 : w2.cell? ⟨w.heap.size, 0, none⟩ = some (.int .i64 r0) := (blk_cell HV2.out 0).trans rfl; have k1 : w2.cell? ⟨w.heap.size, 1, none⟩ = some (.int .i64 r1) := (blk_cell HV2.out 1).trans rfl; have k2 : w2.cell? ⟨w.heap.size, 2, none⟩ = some (.int .i64 r2) := (blk_cell HV2.out 2).trans rfl; have k3 : w2.cell? ⟨w.heap.size, 3, none⟩ = some (.int .i64 r3) := (blk_cell HV2.out 3).trans rfl; have HK2 := Aside0.mk hbk; have HC2 := Aside0.mk (Kd.C_below HC0.out hb); clear hb hbk) | (go_at_call 41; refine (isRect_any _ _ _ _ _).mono ?_; rintro e w3 ⟨rfl, hb⟩; rw [HZ.out]; have HB3 := Aside0.mk (below_then HB2.out HB2.out.size hb); have HV3 := blk_below HV2.out hb; have HK3 := Aside0.mk (cv_make w3 (w.heap.size + 1) (.func (.func 43) #[] #[.pointer (some ⟨w.heap.size, 0, none⟩)]) A l.length c (fun W => W.heap[w.heap.size]? = some (.cells #[.int .i64 r0, .int .i64 r1, .int .i64 r2, .int .i64 r3] 30 (0, 0))) (blk_below HK2.out hb) (fun W' h => blk_below HV3 h)); have HC3 := Aside0.mk (HCO.out w3 (Kd.C_below HC2.out hb) _ HK3.out); have HB4 := Aside0.mk (below_alloc (below_alloc HB3.out (.cells #[.pointer (some ⟨w.heap.size + 1, 0, none⟩)] 62)) (.cells #[.func (.func 43) #[] #[.pointer (some ⟨w.heap.size, 0, none⟩)]] 65)); clear hb HV3) | (go_at_call 36; refine (that_any _ _ _ _).mono ?_; rintro e w' ⟨rfl, rfl⟩) | (go_at_call 35; refine HC3.out.mono ?_; rintro e w4 ⟨v4, rfl, ho, hb⟩; have HO4 := Aside0.mk ho; have HB5 := Aside0.mk (below_then HB4.out HB4.out.size hb); clear ho hb))
    go_ret2
    exact ⟨_, rfl, R39_of_own (own_base HO4.out HB4.out.size), HB5.out⟩
  · have HOP := open_yes A c l _ hc0 hl hw hy
    rw [hsz0] at HOP
    have HZ0 := Aside0.mk hsz0
    have HOP := Aside0.mk HOP
    have HZ := Aside0.mk hz
    clear hr hw hs hb0 hv0 hc0 hk0 hsz0 hy hz
    go_enter Tryd.func21, Tryd.ntmps21
    go_wp2_with (first | (go_at_call 33; refine HOP.out.mono ?_; rintro e w2 ⟨rfl, hbk, hb⟩; rw [← HZ0.out] at hb; have HB2 := Aside0.mk (below_then HB0.out HB0.out.size hb); have HV2 := Aside0.mk (blk_below HV0.out hb); have k0 : w2.cell? ⟨w.heap.size, 0, none⟩ = some (.int .i64 r0) := (blk_cell HV2.out 0).trans rfl; have k1 : w2.cell? ⟨w.heap.size, 1, none⟩ = some (.int .i64 r1) := (blk_cell HV2.out 1).trans rfl; have k2 : w2.cell? ⟨w.heap.size, 2, none⟩ = some (.int .i64 r2) := (blk_cell HV2.out 2).trans rfl; have k3 : w2.cell? ⟨w.heap.size, 3, none⟩ = some (.int .i64 r3) := (blk_cell HV2.out 3).trans rfl; clear hb hbk) | (go_at_call 41; refine (isRect_any _ _ _ _ _).mono ?_; rintro e w3 ⟨rfl, hb⟩; rw [HZ.out]; have HB3 := Aside0.mk (below_then HB2.out HB2.out.size hb); have g0 := pw_cell_below HB3.out HS.out; clear hb) | (go_at_call 29; refine (told_paint a _ (pw_cell_below HB3.out HS.out)).mono ?_; rintro e w' ⟨rfl, rfl⟩))
    go_ret2
    exact ⟨_, rfl, Kd.R_nil _ _ _ _ _, HB3.out⟩
  · have HOP := Aside0.mk (open_no A c l _ hc0 hl hw hy a hk0)
    clear hr hw hs hb0 hv0 hc0 hk0 hsz0 hy
    go_enter Tryd.func21, Tryd.ntmps21
    go_wp2_with (first | (go_at_call 33; refine HOP.out.mono ?_; rintro e w2 ⟨rfl, hb⟩; have HB2 := Aside0.mk (below_then HB0.out HB0.out.size hb); have g0 := pw_cell_below HB2.out HS.out; clear hb) | (go_at_call 29; refine (told_paint a _ (pw_cell_below HB2.out HS.out)).mono ?_; rintro e w' ⟨rfl, rfl⟩))
    go_ret2
    exact ⟨_, rfl, Kd.R_nil _ _ _ _ _, HB2.out⟩
def paint_Seen.f (l0 : List (S39)) (a1_0 : Int) (a1_1 : Int) (a1_2 : Int) (a1_3 : Int) : Option ((List (S39)) × Int) := if l0.length ≤ 200 ∧ wfD l0 = true then some (if areB l0 = true ∧ isB ⟨a1_0, a1_1, a1_2, a1_3⟩ = true then (l0.filter fun x => meetB x.f2 ⟨a1_0, a1_1, a1_2, a1_3⟩, 0) else ([], 170)) else none
theorem paint_Seen.calls (A0 : Option Addr) (c0 : Nat) (l0 : List (S39)) (a1_0 : Int) (a1_1 : Int) (a1_2 : Int) (a1_3 : Int) (r1 : List (S39)) (r2 : Int) (w : World) (hr0 : Kd.C k39 w A0 l0.length l0) (hc0 : l0.length ≤ c0) (h : paint_Seen.f l0 a1_0 a1_1 a1_2 a1_3 = some (r1, r2)) (hG : GOK w) :
    Calls Tryd.prog 21 #[.slice A0 l0.length c0, .agg #[.int .i64 a1_0, .int .i64 a1_1, .int .i64 a1_2, .int .i64 a1_3]] w fun e w' => ∃ v0_ : Value, e = .returned (.tuple #[v0_, .int .i64 r2]) ∧ Kd.R k39 39 w' w.heap.size (fun _ => True) v0_ r1 ∧ Below w.heap.size w w' := by
  have _h0 := hc0
  obtain ⟨⟨a, ha⟩, _⟩ := hG
  unfold paint_Seen.f at h
  split at h
  · rename_i hq
    obtain ⟨q0, q2⟩ := hq
    refine seen_core A0 c0 l0 a1_0 a1_1 a1_2 a1_3 w hr0 (by omega) (wfD_mem q2) a ha r2 r1 ?_
    by_cases hB : areB l0 = true
    · by_cases hC : isB ⟨a1_0, a1_1, a1_2, a1_3⟩ = true
      · rw [if_pos ⟨hB, hC⟩] at h
        simp only [Option.some.injEq, Prod.mk.injEq] at h
        exact .inl ⟨hB, hC, h.2.symm, h.1.symm⟩
      · rw [if_neg (fun h => hC h.2)] at h
        simp only [Option.some.injEq, Prod.mk.injEq] at h
        exact .inr (.inl ⟨hB, Bool.eq_false_iff.mpr hC, h.2.symm, h.1.symm⟩)
    · rw [if_neg (fun h => hB h.1)] at h
      simp only [Option.some.injEq, Prod.mk.injEq] at h
      exact .inr (.inr ⟨Bool.eq_false_iff.mpr hB, h.2.symm, h.1.symm⟩)
  · cases h
end Go.Proofs.YtkmddhljfjjglaaDoor.G
/- Chapter 18: when two are the same; the least rectangle with the edges of two. Written by mkF10.py. -/
namespace Go.Proofs.YtkmddhljfjjglaaDoor.G
open Go.RowKit Go.Shelf Go.Proofs.YtkmddhljfjjglaaDoorW.PrintWords Go.Proofs.YtkmddhljfjjglaaDoorW.PrintLast Go.Proofs.YtkmddhljfjjglaaDoorW.PrintMore

theorem eqB30 (d : Nat) (w : World) (x0 y0 : Int) (x1 y1 : Int) (x2 y2 : Int) (x3 y3 : Int) :
    (Op.equalIn (d + 2) 30 (.agg #[.int .i64 x0, .int .i64 x1, .int .i64 x2, .int .i64 x3]) (.agg #[.int .i64 y0, .int .i64 y1, .int .i64 y2, .int .i64 y3])).run Tryd.prog w = .ok (x0 == y0 && (x1 == y1 && (x2 == y2 && (x3 == y3)))) w := by
  refine eqA_of Tryd.underlying30 (by kernel_rfl) ?_
  refine eqf_cons (by rfl) (by go_simp; rfl) (by go_simp; rfl) (by go_simp) ?_
  refine eqf_cons (by rfl) (by go_simp; rfl) (by go_simp; rfl) (by go_simp) ?_
  refine eqf_cons (by rfl) (by go_simp; rfl) (by go_simp; rfl) (by go_simp) ?_
  exact eqf_last (by rfl) (by go_simp; rfl) (by go_simp; rfl) (by go_simp)
theorem eqB39 (d : Nat) (w : World) (x0 y0 : Bool) (x1 y1 : Int) (x2 y2 : Int) (x3 y3 : Int) (x4 y4 : Int) (x5 y5 : Int) :
    (Op.equalIn (d + 3) 39 (.agg #[.bool x0, .int .i64 x1, .int .i64 x2, .int .i64 x3, .int .i64 x4, .int .i64 x5]) (.agg #[.bool y0, .int .i64 y1, .int .i64 y2, .int .i64 y3, .int .i64 y4, .int .i64 y5])).run Tryd.prog w = .ok (x0 == y0 && (x1 == y1 && ((x2 == y2 && (x3 == y3 && (x4 == y4 && (x5 == y5))))))) w := by
  refine eqA_of Tryd.underlying39 (by kernel_rfl) ?_
  refine eqf_cons (by rfl) (by go_simp; rfl) (by go_simp; rfl) (by go_simp) ?_
  refine eqf_cons (by rfl) (by go_simp; rfl) (by go_simp; rfl) (by go_simp) ?_
  exact eqf_last (by rfl) (by go_simp) (by go_simp) (eqB30 (d + 0) w _ _ _ _ _ _ _ _)
attribute [local go_sem high] eqB30 eqB39
section
attribute [local go_sem] max2_int min2_int
/-- The least rectangle with the edges of two. -/
def hullS (a b : S30) : S30 := if (a.f0 == b.f0 && (a.f1 == b.f1 && (a.f2 == b.f2 && (a.f3 == b.f3)))) = true then a else
  ⟨min a.f0 b.f0, min a.f1 b.f1, wrap64 (max (wrap64 (a.f0 + a.f2)) (wrap64 (b.f0 + b.f2)) - min a.f0 b.f0), wrap64 (max (wrap64 (a.f1 + a.f3)) (wrap64 (b.f1 + b.f3)) - min a.f1 b.f1)⟩
set_option maxRecDepth 100000 in
set_option maxHeartbeats 4000000 in
theorem hull_any (a0 a1 a2 a3 b0 b1 b2 b3 : Int) (w : World) : Calls Tryd.prog 38 #[.agg #[.int .i64 a0, .int .i64 a1, .int .i64 a2, .int .i64 a3], .agg #[.int .i64 b0, .int .i64 b1, .int .i64 b2, .int .i64 b3]] w fun e w' => e = .returned (vS30 (hullS ⟨a0, a1, a2, a3⟩ ⟨b0, b1, b2, b3⟩)) ∧ Below w.heap.size w w' := by
  have hB := Aside0.mk (below_alloc (below_alloc (below_alloc (Below.refl w.heap.size w) (.cells #[.int .i64 a0, .int .i64 a1, .int .i64 a2, .int .i64 a3] 30)) (.cells #[.int .i64 b0, .int .i64 b1, .int .i64 b2, .int .i64 b3] 30)) (.cells #[.int .i64 0, .int .i64 0, .int .i64 0, .int .i64 0] 30))
  by_cases h : (a0 == b0 && (a1 == b1 && (a2 == b2 && (a3 == b3)))) = true
  · have HE := Aside0.mk (show hullS ⟨a0, a1, a2, a3⟩ ⟨b0, b1, b2, b3⟩ = ⟨a0, a1, a2, a3⟩ from if_pos h)
    go_enter Tryd.func38, Tryd.ntmps38
    go_wp2
    refine bodyPost_ret (v := .agg #[.int .i64 a0, .int .i64 a1, .int .i64 a2, .int .i64 a3]) (by simp [results, Tryd.results38, go_sem]) rfl ⟨by rw [HE.out]; rfl, ?_⟩
    repeat (first | exact Below.refl _ _ | apply below_alloc | apply pw_below_drewN)
  · have h' := Bool.eq_false_iff.mpr h
    have HE := Aside0.mk (show hullS ⟨a0, a1, a2, a3⟩ ⟨b0, b1, b2, b3⟩ = ⟨min a0 b0, min a1 b1, wrap64 (max (wrap64 (a0 + a2)) (wrap64 (b0 + b2)) - min a0 b0), wrap64 (max (wrap64 (a1 + a3)) (wrap64 (b1 + b3)) - min a1 b1)⟩ from if_neg h)
    clear h
    go_enter Tryd.func38, Tryd.ntmps38
    go_wp2
    go_quiet (fail)
    all_goals go_wp2
    all_goals
      refine bodyPost_ret (v := .agg #[.int .i64 (min a0 b0), .int .i64 (min a1 b1), .int .i64 (wrap64 (max (wrap64 (a0 + a2)) (wrap64 (b0 + b2)) - min a0 b0)), .int .i64 (wrap64 (max (wrap64 (a1 + a3)) (wrap64 (b1 + b3)) - min a1 b1))]) (by simp [results, Tryd.results38, go_sem]) rfl ⟨by rw [HE.out]; rfl, ?_⟩
      repeat (first | exact Below.refl _ _ | apply below_alloc | apply pw_below_drewN | refine Below.setCell ?_ (show w.heap.size ≤ w.heap.size + 1 + 1 by omega) _)
end
end Go.Proofs.YtkmddhljfjjglaaDoor.G
/- Chapter 18: Bounds. Written by mkF11.py. -/
namespace Go.Proofs.YtkmddhljfjjglaaDoor.G
open Go.RowKit Go.Shelf Go.Proofs.YtkmddhljfjjglaaDoorW.PrintWords Go.Proofs.YtkmddhljfjjglaaDoorW.PrintLast Go.Proofs.YtkmddhljfjjglaaDoorW.PrintMore

theorem all_any (x : S39) (w : World) : Calls Tryd.prog 37 (#[vS39 x] ++ #[]) w fun e w' => e = .returned (.bool true) ∧ Below w.heap.size w w' := by
  obtain ⟨x0, x1, ⟨r0, r1, r2, r3⟩⟩ := x
  unfold vS39
  simp only [List.append_toArray, List.append_nil]
  go_enter Tryd.func37, Tryd.ntmps37
  go_wp2
  go_ret
  exact ⟨rfl, below_alloc (Below.refl _ _) _⟩
def cs30 (r : S30) : Array Value := #[.int .i64 r.f0, .int .i64 r.f1, .int .i64 r.f2, .int .i64 r.f3]
def boundF (x : S30) (l : List S39) : S30 := l.foldl (fun o y => hullS o y.f2) x
theorem boundF_snoc (x : S30) (l : List S39) (y : S39) : boundF x (l ++ [y]) = hullS (boundF x l) y.f2 := by simp [boundF]
/-- What is laid between two rounds of Bounds. -/
def Bnd (w : World) (r : Loop) (D Bo : Nat) (x : S30) (pre : List S39) (W : World) : Prop :=
  ReadyAt r D W ∧ W.heap[Bo]? = some (.cells (cs30 (boundF x pre)) 30 (0, 0)) ∧ W.heap[w.heap.size]? = some (.cells (cs30 z30) 30 (0, 0)) ∧ Below w.heap.size w W
theorem Bnd.below {w : World} {r : Loop} {D Bo : Nat} {x : S30} {pre : List S39} {W W' : World} (h : Bnd w r D Bo x pre W) (hb : Below W.heap.size W W') : Bnd w r D Bo x pre W' := by
  obtain ⟨h1, h2, h3, h4⟩ := h
  exact ⟨h1.below hb, blk_below h2 hb, blk_below h3 hb, below_then h4 h4.size hb⟩
theorem set_other {W : World} {b i k : Nat} {v : Value} {o : Obj} (h : W.heap[k]? = some o) (hk : k ≠ b) : (W.setCell ⟨b, i, none⟩ v).heap[k]? = some o := by
  rw [Below.heap_setCell _ _ _ _ (by first | exact hk | exact fun e => hk e.symm)]
  exact h
attribute [local go_sem] Oper.semAt_some
set_option maxRecDepth 1000000 in
set_option maxHeartbeats 4000000 in
theorem bounds_yes (A : Option Addr) (c : Nat) (l : List S39) (w : World) (hr : Kd.C k39 w A l.length l) (hl : l.length ≤ 1000) (hw : ∀ x ∈ l, wfR x.f2 = true) (hB : areB l = true) (hpos : 0 < l.length) :
    CallsIn Fence.wide 8 Tryd.prog 17 #[.slice A l.length c] w fun e w' => e = .returned (.tuple #[vS30 (boundF (rd_T39 l 0).f2 l), .int .i64 0]) ∧ Below w.heap.size w w' := by
  have hb0 := below_alloc (Below.refl w.heap.size w) (.cells #[.int .i64 0, .int .i64 0, .int .i64 0, .int .i64 0] 30)
  have hv0 := blk_new w (.cells #[.int .i64 0, .int .i64 0, .int .i64 0, .int .i64 0] 30)
  have hsz0 : (w.alloc (.cells #[.int .i64 0, .int .i64 0, .int .i64 0, .int .i64 0] 30)).heap.size = w.heap.size + 1 := by simp
  have HOP := open_yes A c l _ (Kd.C_below hr hb0) hl hw hB
  rw [hsz0] at HOP
  have HOP := Aside0.mk HOP
  have HZ0 := Aside0.mk hsz0
  have HR := Aside0.mk hr
  have HB0 := Aside0.mk hb0
  have HV0 := Aside0.mk hv0
  have hne : (l.length == 0) = false := by rw [beq_eq_false_iff_ne]; omega
  clear hr hw hB hb0 hv0 hsz0
  refine callsIn_of_wp_marks Tryd.func17 rfl trivial ?_ rfl
  simp only [Tryd.ntmps17, List.size_toArray, List.length_cons, List.length_nil, Nat.reduceAdd, Nat.reduceSub, Array.replicate_succ, Array.replicate_zero, List.push_toArray, List.append_toArray, List.nil_append, List.cons_append]
  refine wpIn_wide.2 ?_
  go_wp2_with (first | (go_at_call 33; refine HOP.out.mono ?_; rintro e w2 ⟨rfl, hbk, hb⟩; rw [← HZ0.out] at hb; have HB2 := Aside0.mk (below_then HB0.out HB0.out.size hb); have HV2 := Aside0.mk (blk_below HV0.out hb); have HK2 := Aside0.mk hbk; have hx := at_T39 (Kd.C_below HR.out HB2.out) 0 (by omega) (by omega); clear hb hbk; obtain ⟨ad, ea, hx0, hx1, hx2, hx3, hx4, hx5⟩ := hx; cases ea; have e0 : ad.add (Int.toNat 0 * 6) = ad := (by simp [Addr.add]); rw [e0] at hx2 hx3 hx4 hx5; have y2 : w2.cell? ⟨ad.block, ad.off + 2, none⟩ = some (.int .i64 (rd_T39 l 0).f2.f0) := hx2; have y3 : w2.cell? ⟨ad.block, ad.off + 2 + 1, none⟩ = some (.int .i64 (rd_T39 l 0).f2.f1) := hx3; have y4 : w2.cell? ⟨ad.block, ad.off + 2 + 2, none⟩ = some (.int .i64 (rd_T39 l 0).f2.f2) := hx4; have y5 : w2.cell? ⟨ad.block, ad.off + 2 + 3, none⟩ = some (.int .i64 (rd_T39 l 0).f2.f3) := hx5; clear hx0 hx1 hx2 hx3 hx4 hx5 e0) | (go_at_call 36; refine (that_any _ _ _ _).mono ?_; rintro e w' ⟨rfl, rfl⟩))
  have hb3 : Below w2.heap.size w2 (((w2.alloc (.cells #[.int .i64 (rd_T39 l 0).f2.f0, .int .i64 (rd_T39 l 0).f2.f1, .int .i64 (rd_T39 l 0).f2.f2, .int .i64 (rd_T39 l 0).f2.f3] 30)).alloc (.cells #[.pointer (some ⟨w.heap.size + 1, 0, none⟩)] 62)).alloc (.cells #[.func (.func 37) #[] #[]] 65)) := below_alloc (below_alloc (below_alloc (Below.refl _ _) _) _) _
  have bo := blk_alloc (blk_alloc (blk_new w2 (.cells #[.int .i64 (rd_T39 l 0).f2.f0, .int .i64 (rd_T39 l 0).f2.f1, .int .i64 (rd_T39 l 0).f2.f2, .int .i64 (rd_T39 l 0).f2.f3] 30)) (.cells #[.pointer (some ⟨w.heap.size + 1, 0, none⟩)] 62)) (.cells #[.func (.func 37) #[] #[]] 65)
  have bc := blk_alloc (blk_new (w2.alloc (.cells #[.int .i64 (rd_T39 l 0).f2.f0, .int .i64 (rd_T39 l 0).f2.f1, .int .i64 (rd_T39 l 0).f2.f2, .int .i64 (rd_T39 l 0).f2.f3] 30)) (.cells #[.pointer (some ⟨w.heap.size + 1, 0, none⟩)] 62)) (.cells #[.func (.func 37) #[] #[]] 65)
  have bi := blk_new ((w2.alloc (.cells #[.int .i64 (rd_T39 l 0).f2.f0, .int .i64 (rd_T39 l 0).f2.f1, .int .i64 (rd_T39 l 0).f2.f2, .int .i64 (rd_T39 l 0).f2.f3] 30)).alloc (.cells #[.pointer (some ⟨w.heap.size + 1, 0, none⟩)] 62)) (.cells #[.func (.func 37) #[] #[]] 65)
  have z3 : (((w2.alloc (.cells #[.int .i64 (rd_T39 l 0).f2.f0, .int .i64 (rd_T39 l 0).f2.f1, .int .i64 (rd_T39 l 0).f2.f2, .int .i64 (rd_T39 l 0).f2.f3] 30)).alloc (.cells #[.pointer (some ⟨w.heap.size + 1, 0, none⟩)] 62)).alloc (.cells #[.func (.func 37) #[] #[]] 65)).heap.size = w2.heap.size + 1 + 1 + 1 := by simp
  simp only [World.size_alloc] at bc bi
  have B3 := Aside0.mk (below_then HB2.out HB2.out.size hb3)
  have HV3 := Aside0.mk (blk_below HV2.out hb3)
  have HK3 := Aside0.mk (blk_below HK2.out hb3)
  have BO := Aside0.mk bo
  have BC := Aside0.mk bc
  have BI := Aside0.mk bi
  have hlo : w.heap.size + 2 ≤ w2.heap.size := by have := blk_lt HK2.out; omega
  clear hb3 bo bc bi HB2 HV2 HK2 y2 y3 y4 y5
  generalize (((w2.alloc (.cells #[.int .i64 (rd_T39 l 0).f2.f0, .int .i64 (rd_T39 l 0).f2.f1, .int .i64 (rd_T39 l 0).f2.f2, .int .i64 (rd_T39 l 0).f2.f3] 30)).alloc (.cells #[.pointer (some ⟨w.heap.size + 1, 0, none⟩)] 62)).alloc (.cells #[.func (.func 37) #[] #[]] 65)) = W0 at *
  have BO : Aside0 (W0.heap[w2.heap.size]? = some (.cells (cs30 (rd_T39 l 0).f2) 30 (0, 0))) := ⟨BO.out⟩
  generalize hxx : (rd_T39 l 0).f2 = x at *
  have HXX := Aside0.mk hxx
  clear hxx
  refine (wpIn_wide (n := 8)).1 ?_
  refine range_any (F := Fence.wide) rfl (by omega) (gf := 58) (lb := #[.pointer (some ⟨w2.heap.size + 1, 0, none⟩), .pointer (some ⟨w2.heap.size + 1 + 1, 0, none⟩)]) rfl trivial (enters_of Tryd.func58 (by kernel_rfl) rfl)
    (fun W2 => W2.heap[w2.heap.size]? = some (.cells (cs30 (boundF x l)) 30 (0, 0)) ∧ W2.heap[w.heap.size]? = some (.cells (cs30 z30) 30 (0, 0)) ∧ Below w.heap.size w W2) (fun _ => False) ?hcall ?hdone ?hstop
  case hstop => exact fun _ _ h => h.elim
  case hcall =>
    intro fn r hfn hrec
    have hst : r.state = .ready := by rw [hrec]
    have hpe : r.pending = none := by rw [hrec]
    have hrf : Fence.wide.fn r.fn := trivial
    have ready0 : ReadyAt r (w2.heap.size + 1 + 1 + 1) ((W0.alloc (.deferred (some []))).alloc (.loop r)) := by
      rw [← z3]
      refine ⟨?_, blk_alloc (blk_new W0 _) _⟩
      have := blk_new (W0.alloc (.deferred (some []))) (.loop r)
      simpa using this
    have below0 : Below W0.heap.size W0 ((W0.alloc (.deferred (some []))).alloc (.loop r)) := below_alloc (below_alloc (Below.refl _ _) _) _
    have below1 := below_then B3.out B3.out.size below0
    rw [z3]
    refine (that_in 7 (by omega) (w2.heap.size + 1 + 1 + 1 + 1) (w2.heap.size + 1) (w2.heap.size + 1 + 1) (w.heap.size + 1) 37 #[] (fun _ => true) _ c l w (fun _ => True) (enters_of Tryd.func37 (by kernel_rfl) rfl) (fun _ _ _ _ => trivial) (fun x W _ => all_any x W) HR.out hl
      (Bnd w r (w2.heap.size + 1 + 1 + 1) w2.heap.size x) (fun _ _ => False) (fun s W W' h hb => h.below hb) ?hY _
      ⟨below1, blk_below BC.out below0, blk_below BI.out below0, blk_below HK3.out below0, trivial⟩ ⟨ready0, blk_below BO.out below0, blk_below HV3.out below0, below1⟩).mono ?_
    case hY =>
      rintro pre ⟨x0, x1, ⟨r0, r1, r2, r3⟩⟩ W hJ hlen
      obtain ⟨h1, h2, h3, h4⟩ := hJ
      have hsz := h4.size
      refine (yield_round (R := fun W' => Bnd w r (w2.heap.size + 1 + 1 + 1) w2.heap.size x (pre ++ [⟨x0, x1, ⟨r0, r1, r2, r3⟩⟩]) W' ∧ ∀ k o, W.heap[k]? = some o → k ≠ w2.heap.size + 1 + 1 + 1 + 1 → k ≠ w2.heap.size → W'.heap[k]? = some o) (Rx := fun _ => False) h1.1 hst hpe hrf (by rw [hrec]; rfl) ?_).mono ?_
      case _ =>
        have e1 := congrArg Loop.assign hrec
        have e2 := congrArg Loop.params hrec
        have e3 := congrArg Loop.body hrec
        have e4 := congrArg Loop.tmps hrec
        dsimp only at e1 e2 e3 e4
        clear hrec
        generalize hbz : ({ r with state := LoopState.busy } : Loop) = rb
        rw [e1, e2, e3, e4]
        clear e1 e2 e3 e4
        have H1 := Aside0.mk h1
        have H2 := Aside0.mk h2
        have H3 := Aside0.mk h3
        have H4 := Aside0.mk h4
        have hlt := blk_lt h1.1
        clear h1 h2 h3 h4 ready0 below0 below1
        unfold vS39
        gi_wp2
        refine And.intro (blk_alloc H1.out.1 _) ?_
        have hl1 := blk_alloc H1.out.1 (.cells #[.bool x0, .int .i64 x1, .int .i64 r0, .int .i64 r1, .int .i64 r2, .int .i64 r3] 39)
        have hp0 := blk_new W (.cells #[.bool x0, .int .i64 x1, .int .i64 r0, .int .i64 r1, .int .i64 r2, .int .i64 r3] 39)
        have hk0 : Aside0 (∀ k o, W.heap[k]? = some o → (W.alloc (.cells #[.bool x0, .int .i64 x1, .int .i64 r0, .int .i64 r1, .int .i64 r2, .int .i64 r3] 39)).heap[k]? = some o) := ⟨fun k o h => blk_alloc h _⟩
        have hB := below_alloc H4.out (.cells #[.bool x0, .int .i64 x1, .int .i64 r0, .int .i64 r1, .int .i64 r2, .int .i64 r3] 39)
        generalize W.alloc (.cells #[.bool x0, .int .i64 x1, .int .i64 r0, .int .i64 r1, .int .i64 r2, .int .i64 r3] 39) = Wa1 at *
        have hl2 : (Wa1.putObj (w2.heap.size + 1 + 1 + 1 + 1) (.loop rb)).heap[w2.heap.size + 1 + 1 + 1 + 1]? = some (.loop rb) := World.putObj_heap_same (blk_lt hl1)
        have hk1 : Aside0 (∀ k o, W.heap[k]? = some o → k ≠ w2.heap.size + 1 + 1 + 1 + 1 → (Wa1.putObj (w2.heap.size + 1 + 1 + 1 + 1) (.loop rb)).heap[k]? = some o) := ⟨fun k o h hk => (World.putObj_heap_other hk).trans (hk0.out k o h)⟩
        have hp2 := (World.putObj_heap_other (w := Wa1) (o := .loop rb) (show W.heap.size ≠ w2.heap.size + 1 + 1 + 1 + 1 by omega)).trans hp0
        have hB2 := hB.trans (belowK_b (w := w) (Nat.le_refl _) Wa1 (w2.heap.size + 1 + 1 + 1 + 1) _ (.loop rb) (by omega) hl1 rfl rfl)
        clear hp0 hB hl1 hk0
        generalize Wa1.putObj (w2.heap.size + 1 + 1 + 1 + 1) (.loop rb) = Wb at *
        have bo2 := hk1.out _ _ H2.out (by omega)
        have o0 : Wb.cell? ⟨w2.heap.size, 0, none⟩ = some (.int .i64 (boundF x pre).f0) := (blk_cell bo2 0).trans rfl
        have o1 : Wb.cell? ⟨w2.heap.size, 1, none⟩ = some (.int .i64 (boundF x pre).f1) := (blk_cell bo2 1).trans rfl
        have o2 : Wb.cell? ⟨w2.heap.size, 2, none⟩ = some (.int .i64 (boundF x pre).f2) := (blk_cell bo2 2).trans rfl
        have o3 : Wb.cell? ⟨w2.heap.size, 3, none⟩ = some (.int .i64 (boundF x pre).f3) := (blk_cell bo2 3).trans rfl
        have k2 : Wb.cell? ⟨W.heap.size, 2, none⟩ = some (.int .i64 r0) := (blk_cell hp2 2).trans rfl
        have k3 : Wb.cell? ⟨W.heap.size, 3, none⟩ = some (.int .i64 r1) := (blk_cell hp2 3).trans rfl
        have k4 : Wb.cell? ⟨W.heap.size, 4, none⟩ = some (.int .i64 r2) := (blk_cell hp2 4).trans rfl
        have k5 : Wb.cell? ⟨W.heap.size, 5, none⟩ = some (.int .i64 r3) := (blk_cell hp2 5).trans rfl
        have HF := Aside0.mk (boundF_snoc x pre ⟨x0, x1, ⟨r0, r1, r2, r3⟩⟩)
        have HH := Aside0.mk (hull_any (boundF x pre).f0 (boundF x pre).f1 (boundF x pre).f2 (boundF x pre).f3 r0 r1 r2 r3 Wb)
        obtain ⟨y, hy⟩ : ∃ y, hullS ⟨(boundF x pre).f0, (boundF x pre).f1, (boundF x pre).f2, (boundF x pre).f3⟩ ⟨r0, r1, r2, r3⟩ = y := ⟨_, rfl⟩
        have HY := Aside0.mk (show boundF x (pre ++ [⟨x0, x1, ⟨r0, r1, r2, r3⟩⟩]) = y from HF.out.trans hy)
        rw [hy] at HH
        clear hy HF
        obtain ⟨y0, y1, y2, y3⟩ := y
        unfold vS30 at HH
        dsimp only at HH
        have F1 := Aside0.mk hl2
        have F2 := Aside0.mk bo2
        have F5 := Aside0.mk hB2
        have hsz2 := hB2.size
        clear hl2 hp2 bo2 hB2
        gi_wp2_with fail
        refine ⟨trivial, ?_⟩
        refine (CallsIn.inRound _ (callsIn_wide.2 HH.out)).mono ?_
        rintro e W3 ⟨rfl, hb⟩
        have G1 := Aside0.mk (blk_below F1.out hb)
        have G2 := Aside0.mk (blk_below F2.out hb)
        have G5 := Aside0.mk (below_then F5.out hsz2 hb)
        have GK : Aside0 (∀ k o, W.heap[k]? = some o → k ≠ w2.heap.size + 1 + 1 + 1 + 1 → W3.heap[k]? = some o) := ⟨fun k o h hk => blk_below (hk1.out k o h hk) hb⟩
        have p0 := (blk_cell G2.out 0).trans (show _ = some (Value.int .i64 (boundF x pre).f0) from rfl)
        have p1 := (blk_cell G2.out 1).trans (show _ = some (Value.int .i64 (boundF x pre).f1) from rfl)
        have p2 := (blk_cell G2.out 2).trans (show _ = some (Value.int .i64 (boundF x pre).f2) from rfl)
        have p3 := (blk_cell G2.out 3).trans (show _ = some (Value.int .i64 (boundF x pre).f3) from rfl)
        have q0 := blk_frozen G2.out 0
        have q1 := blk_frozen G2.out 1
        have q2 := blk_frozen G2.out 2
        have q3 := blk_frozen G2.out 3
        clear hb o0 o1 o2 o3 k2 k3 k4 k5 hk1
        gi_wp2
        have gk : ∀ k o, W.heap[k]? = some o → k ≠ w2.heap.size + 1 + 1 + 1 + 1 → k ≠ w2.heap.size → ((((W3.setCell ⟨w2.heap.size, 0, none⟩ (.int .i64 y0)).setCell ⟨w2.heap.size, 1, none⟩ (.int .i64 y1)).setCell ⟨w2.heap.size, 2, none⟩ (.int .i64 y2)).setCell ⟨w2.heap.size, 3, none⟩ (.int .i64 y3)).heap[k]? = some o := fun k o h hk hk' => set_other (set_other (set_other (set_other (GK.out k o h hk) hk') hk') hk') hk'
        have g1 : ((((W3.setCell ⟨w2.heap.size, 0, none⟩ (.int .i64 y0)).setCell ⟨w2.heap.size, 1, none⟩ (.int .i64 y1)).setCell ⟨w2.heap.size, 2, none⟩ (.int .i64 y2)).setCell ⟨w2.heap.size, 3, none⟩ (.int .i64 y3)).heap[w2.heap.size + 1 + 1 + 1 + 1]? = some (.loop rb) := set_other (set_other (set_other (set_other G1.out (by omega)) (by omega)) (by omega)) (by omega)
        have g2 := blk_put (blk_put (blk_put (blk_put G2.out 0 (.int .i64 y0) rfl) 1 (.int .i64 y1) rfl) 2 (.int .i64 y2) rfl) 3 (.int .i64 y3) rfl
        have g5 := (((G5.out.setCell (p := ⟨w2.heap.size, 0, none⟩) (show w.heap.size ≤ w2.heap.size by omega) (.int .i64 y0)).setCell (p := ⟨w2.heap.size, 1, none⟩) (show w.heap.size ≤ w2.heap.size by omega) (.int .i64 y1)).setCell (p := ⟨w2.heap.size, 2, none⟩) (show w.heap.size ≤ w2.heap.size by omega) (.int .i64 y2)).setCell (p := ⟨w2.heap.size, 3, none⟩) (show w.heap.size ≤ w2.heap.size by omega) (.int .i64 y3)
        refine ⟨g1, ⟨⟨World.putObj_heap_same (blk_lt g1), (World.putObj_heap_other (by omega)).trans (gk _ _ H1.out.2 (by omega) (by omega))⟩, ?_, (World.putObj_heap_other (by omega)).trans (gk _ _ H3.out (by omega) (by omega)), g5.trans (belowK_b (w := w) (Nat.le_refl _) _ (w2.heap.size + 1 + 1 + 1 + 1) _ (.loop r) (by omega) g1 rfl rfl)⟩, fun k o h hk hk' => (World.putObj_heap_other hk).trans (gk k o h hk hk')⟩
        rw [HY.out]
        exact (World.putObj_heap_other (by omega)).trans g2
      case _ =>
        rintro e W' (⟨rfl, h, hk⟩ | ⟨_, h⟩)
        · exact .inl ⟨rfl, h, fun ⟨_, c2, c3, c4, _⟩ => ⟨h.2.2.2, hk (w2.heap.size + 1) _ c2 (by omega) (by omega), hk (w2.heap.size + 1 + 1) _ c3 (by omega) (by omega), hk (w.heap.size + 1) _ c4 (by omega) (by omega), trivial⟩⟩
        · exact h.elim
    · rintro e W' ⟨⟨v, rfl⟩, (⟨ys, rfl, h1, h2, h3, h4⟩ | ⟨_, _, h⟩)⟩
      · rw [show l.filter (fun _ => true) = l from List.filter_eq_self.2 (fun _ _ => rfl)] at h2
        exact ⟨⟨v, rfl⟩, .inl ⟨⟨h2, h3, h4⟩, h1⟩⟩
      · exact h.elim
  case hdone =>
    rintro o W2 ⟨hv, hz, hB⟩ ⟨r, hr⟩ hD
    rw [z3] at hr hD ⊢
    have v3 := (World.putObj_heap_other (w := W2) (o := o) (show w2.heap.size ≠ w2.heap.size + 1 + 1 + 1 + 1 by omega)).trans hv
    have z4 := (World.putObj_heap_other (w := W2) (o := o) (show w.heap.size ≠ w2.heap.size + 1 + 1 + 1 + 1 by omega)).trans hz
    have d3 := (World.putObj_heap_other (w := W2) (o := o) (show w2.heap.size + 1 + 1 + 1 ≠ w2.heap.size + 1 + 1 + 1 + 1 by omega)).trans hD
    have b3 := hB.trans (belowK_b (w := w) (Nat.le_refl _) W2 (w2.heap.size + 1 + 1 + 1 + 1) _ o (by omega) hr rfl rfl)
    clear hv hz hB hr hD
    generalize W2.putObj (w2.heap.size + 1 + 1 + 1 + 1) o = W3 at *
    have HYY : Aside0 (∃ y, boundF (rd_T39 l 0).f2 l = y ∧ boundF x l = y) := ⟨_, by rw [HXX.out], rfl⟩
    obtain ⟨y, hy1, hy2⟩ := HYY.out
    rw [hy2] at v3
    have HY1 := Aside0.mk hy1
    clear hy1 hy2 HYY
    obtain ⟨y0, y1, y2, y3⟩ := y
    have p0 := (blk_cell v3 0).trans (show _ = some (Value.int .i64 y0) from rfl)
    have p1 := (blk_cell v3 1).trans (show _ = some (Value.int .i64 y1) from rfl)
    have p2 := (blk_cell v3 2).trans (show _ = some (Value.int .i64 y2) from rfl)
    have p3 := (blk_cell v3 3).trans (show _ = some (Value.int .i64 y3) from rfl)
    have s0 := (blk_cell z4 0).trans (show _ = some (Value.int .i64 0) from rfl)
    have s1 := (blk_cell z4 1).trans (show _ = some (Value.int .i64 0) from rfl)
    have s2 := (blk_cell z4 2).trans (show _ = some (Value.int .i64 0) from rfl)
    have s3 := (blk_cell z4 3).trans (show _ = some (Value.int .i64 0) from rfl)
    have q0 := blk_frozen z4 0
    have q1 := blk_frozen z4 1
    have q2 := blk_frozen z4 2
    have q3 := blk_frozen z4 3
    have Z4 := Aside0.mk z4
    have D3 := Aside0.mk d3
    have B4 := Aside0.mk b3
    clear v3 z4 d3 b3
    go_wp2
    have f0 := blk_put (blk_put (blk_put (blk_put Z4.out 0 (.int .i64 y0) rfl) 1 (.int .i64 y1) rfl) 2 (.int .i64 y2) rfl) 3 (.int .i64 y3) rfl
    have d4 := set_other (b := w.heap.size) (i := 3) (v := .int .i64 y3) (set_other (b := w.heap.size) (i := 2) (v := .int .i64 y2) (set_other (b := w.heap.size) (i := 1) (v := .int .i64 y1) (set_other (b := w.heap.size) (i := 0) (v := .int .i64 y0) D3.out (by omega)) (by omega)) (by omega)) (by omega)
    have b4 := (((B4.out.setCell (p := ⟨w.heap.size, 0, none⟩) (Nat.le_refl _) (.int .i64 y0)).setCell (p := ⟨w.heap.size, 1, none⟩) (Nat.le_refl _) (.int .i64 y1)).setCell (p := ⟨w.heap.size, 2, none⟩) (Nat.le_refl _) (.int .i64 y2)).setCell (p := ⟨w.heap.size, 3, none⟩) (Nat.le_refl _) (.int .i64 y3)
    clear p0 p1 p2 p3 s0 s1 s2 s3 q0 q1 q2 q3 Z4 B4 D3
    generalize (((W3.setCell ⟨w.heap.size, 0, none⟩ (.int .i64 y0)).setCell ⟨w.heap.size, 1, none⟩ (.int .i64 y1)).setCell ⟨w.heap.size, 2, none⟩ (.int .i64 y2)).setCell ⟨w.heap.size, 3, none⟩ (.int .i64 y3) = W5 at *
    refine ⟨by simp, .inl ⟨_, _, rfl, run_takeDeferred d4, ?_⟩⟩
    have f1 := (World.putObj_heap_other (w := W5) (o := .deferred none) (show w.heap.size ≠ w2.heap.size + 1 + 1 + 1 by omega)).trans f0
    have b5 := b4.trans (belowK_b (w := w) (Nat.le_refl _) W5 (w2.heap.size + 1 + 1 + 1) _ (.deferred none) (by omega) d4 rfl rfl)
    generalize W5.putObj (w2.heap.size + 1 + 1 + 1) (.deferred none) = W6 at *
    have c0 : W6.cell? ⟨w.heap.size, 0, none⟩ = some (.int .i64 y0) := (blk_cell f1 0).trans rfl
    have c1 : W6.cell? ⟨w.heap.size, 1, none⟩ = some (.int .i64 y1) := (blk_cell f1 1).trans rfl
    have c2 : W6.cell? ⟨w.heap.size, 2, none⟩ = some (.int .i64 y2) := (blk_cell f1 2).trans rfl
    have c3 : W6.cell? ⟨w.heap.size, 3, none⟩ = some (.int .i64 y3) := (blk_cell f1 3).trans rfl
    refine ⟨.tuple #[.agg #[.int .i64 y0, .int .i64 y1, .int .i64 y2, .int .i64 y3], .int .i64 0], ?_, by rw [HY1.out]; rfl, b5⟩
    simp [results, Tryd.results17, go_sem, c0, c1, c2, c3]
set_option maxRecDepth 1000000 in
set_option maxHeartbeats 2000000 in
theorem bounds_no (A : Option Addr) (c : Nat) (l : List S39) (w : World) (hr : Kd.C k39 w A l.length l) (hl : l.length ≤ 1000) (hw : ∀ x ∈ l, wfR x.f2 = true) (hB : areB l = false) (a : Addr) (hs : w.cell? ⟨0, 0, none⟩ = some (.iface 136 (.pointer (some a)))) :
    Calls Tryd.prog 17 #[.slice A l.length c] w fun e w' => e = .returned (.tuple #[.agg #[.int .i64 0, .int .i64 0, .int .i64 0, .int .i64 0], .int .i64 170]) ∧ Below w.heap.size w w' := by
  have hb0 := below_alloc (Below.refl w.heap.size w) (.cells #[.int .i64 0, .int .i64 0, .int .i64 0, .int .i64 0] 30)
  have hv0 := blk_new w (.cells #[.int .i64 0, .int .i64 0, .int .i64 0, .int .i64 0] 30)
  have HOP := Aside0.mk (open_no A c l _ (Kd.C_below hr hb0) hl hw hB a (pw_cell_below hb0 hs))
  have HB0 := Aside0.mk hb0
  have HV0 := Aside0.mk hv0
  have HS := Aside0.mk hs
  clear hr hw hB hb0 hv0 hs
  go_enter Tryd.func17, Tryd.ntmps17
  go_wp2_with (first | (go_at_call 33; refine HOP.out.mono ?_; rintro e w2 ⟨rfl, hb⟩; have HB2 := Aside0.mk (below_then HB0.out HB0.out.size hb); have HV2 := Aside0.mk (blk_below HV0.out hb); have g0 := pw_cell_below HB2.out HS.out; have k0 := (blk_cell HV2.out 0).trans (show _ = some (Value.int .i64 0) from rfl); have k1 := (blk_cell HV2.out 1).trans (show _ = some (Value.int .i64 0) from rfl); have k2 := (blk_cell HV2.out 2).trans (show _ = some (Value.int .i64 0) from rfl); have k3 := (blk_cell HV2.out 3).trans (show _ = some (Value.int .i64 0) from rfl); have f0 := blk_frozen HV2.out 0; have f1 := blk_frozen HV2.out 1; have f2 := blk_frozen HV2.out 2; have f3 := blk_frozen HV2.out 3; clear hb) | (go_at_call 29; refine (told_paint a _ (pw_cell_below HB2.out HS.out)).mono ?_; rintro e w' ⟨rfl, rfl⟩))
  have g2 := blk_put (blk_put (blk_put (blk_put HV2.out 0 (.int .i64 0) rfl) 1 (.int .i64 0) rfl) 2 (.int .i64 0) rfl) 3 (.int .i64 0) rfl
  have g5 := (((HB2.out.setCell (p := ⟨w.heap.size, 0, none⟩) (Nat.le_refl _) (.int .i64 0)).setCell (p := ⟨w.heap.size, 1, none⟩) (Nat.le_refl _) (.int .i64 0)).setCell (p := ⟨w.heap.size, 2, none⟩) (Nat.le_refl _) (.int .i64 0)).setCell (p := ⟨w.heap.size, 3, none⟩) (Nat.le_refl _) (.int .i64 0)
  generalize (((w2.setCell ⟨w.heap.size, 0, none⟩ (.int .i64 0)).setCell ⟨w.heap.size, 1, none⟩ (.int .i64 0)).setCell ⟨w.heap.size, 2, none⟩ (.int .i64 0)).setCell ⟨w.heap.size, 3, none⟩ (.int .i64 0) = W5 at *
  have c0 : W5.cell? ⟨w.heap.size, 0, none⟩ = some (.int .i64 0) := (blk_cell g2 0).trans rfl
  have c1 : W5.cell? ⟨w.heap.size, 1, none⟩ = some (.int .i64 0) := (blk_cell g2 1).trans rfl
  have c2 : W5.cell? ⟨w.heap.size, 2, none⟩ = some (.int .i64 0) := (blk_cell g2 2).trans rfl
  have c3 : W5.cell? ⟨w.heap.size, 3, none⟩ = some (.int .i64 0) := (blk_cell g2 3).trans rfl
  exact bodyPost_ret (v := .tuple #[.agg #[.int .i64 0, .int .i64 0, .int .i64 0, .int .i64 0], .int .i64 170]) (by simp [results, Tryd.results17, go_sem, c0, c1, c2, c3]) rfl ⟨rfl, g5⟩
set_option maxRecDepth 1000000 in
set_option maxHeartbeats 2000000 in
theorem bounds_nil (A : Option Addr) (c : Nat) (w : World) (a : Addr) (hs : w.cell? ⟨0, 0, none⟩ = some (.iface 136 (.pointer (some a)))) :
    Calls Tryd.prog 17 #[.slice A 0 c] w fun e w' => e = .returned (.tuple #[.agg #[.int .i64 0, .int .i64 0, .int .i64 0, .int .i64 0], .int .i64 170]) ∧ Below w.heap.size w w' := by
  have hb0 := below_alloc (Below.refl w.heap.size w) (.cells #[.int .i64 0, .int .i64 0, .int .i64 0, .int .i64 0] 30)
  have hv0 := blk_new w (.cells #[.int .i64 0, .int .i64 0, .int .i64 0, .int .i64 0] 30)
  have HOP := Aside0.mk (open_yes A c [] (w.alloc (.cells #[.int .i64 0, .int .i64 0, .int .i64 0, .int .i64 0] 30)) ⟨rfl, by simp, fun h => absurd h (by simp)⟩ (by simp) (by simp) rfl)
  have HB0 := Aside0.mk hb0
  have HV0 := Aside0.mk hv0
  have HS := Aside0.mk hs
  clear hb0 hv0 hs
  go_enter Tryd.func17, Tryd.ntmps17
  go_wp2_with (first | (go_at_call 33; refine HOP.out.mono ?_; rintro e w2 ⟨rfl, _, hb⟩; have HB2 := Aside0.mk (below_then HB0.out HB0.out.size hb); have HV2 := Aside0.mk (blk_below HV0.out hb); have g0 := pw_cell_below HB2.out HS.out; have k0 := (blk_cell HV2.out 0).trans (show _ = some (Value.int .i64 0) from rfl); have k1 := (blk_cell HV2.out 1).trans (show _ = some (Value.int .i64 0) from rfl); have k2 := (blk_cell HV2.out 2).trans (show _ = some (Value.int .i64 0) from rfl); have k3 := (blk_cell HV2.out 3).trans (show _ = some (Value.int .i64 0) from rfl); have f0 := blk_frozen HV2.out 0; have f1 := blk_frozen HV2.out 1; have f2 := blk_frozen HV2.out 2; have f3 := blk_frozen HV2.out 3; clear hb) | (go_at_call 29; refine (told_paint a _ (pw_cell_below HB2.out HS.out)).mono ?_; rintro e w' ⟨rfl, rfl⟩))
  have g2 := blk_put (blk_put (blk_put (blk_put HV2.out 0 (.int .i64 0) rfl) 1 (.int .i64 0) rfl) 2 (.int .i64 0) rfl) 3 (.int .i64 0) rfl
  have g5 := (((HB2.out.setCell (p := ⟨w.heap.size, 0, none⟩) (Nat.le_refl _) (.int .i64 0)).setCell (p := ⟨w.heap.size, 1, none⟩) (Nat.le_refl _) (.int .i64 0)).setCell (p := ⟨w.heap.size, 2, none⟩) (Nat.le_refl _) (.int .i64 0)).setCell (p := ⟨w.heap.size, 3, none⟩) (Nat.le_refl _) (.int .i64 0)
  generalize (((w2.setCell ⟨w.heap.size, 0, none⟩ (.int .i64 0)).setCell ⟨w.heap.size, 1, none⟩ (.int .i64 0)).setCell ⟨w.heap.size, 2, none⟩ (.int .i64 0)).setCell ⟨w.heap.size, 3, none⟩ (.int .i64 0) = W5 at *
  have c0 : W5.cell? ⟨w.heap.size, 0, none⟩ = some (.int .i64 0) := (blk_cell g2 0).trans rfl
  have c1 : W5.cell? ⟨w.heap.size, 1, none⟩ = some (.int .i64 0) := (blk_cell g2 1).trans rfl
  have c2 : W5.cell? ⟨w.heap.size, 2, none⟩ = some (.int .i64 0) := (blk_cell g2 2).trans rfl
  have c3 : W5.cell? ⟨w.heap.size, 3, none⟩ = some (.int .i64 0) := (blk_cell g2 3).trans rfl
  exact bodyPost_ret (v := .tuple #[.agg #[.int .i64 0, .int .i64 0, .int .i64 0, .int .i64 0], .int .i64 170]) (by simp [results, Tryd.results17, go_sem, c0, c1, c2, c3]) rfl ⟨rfl, g5⟩
def boundsL (l : List S39) : S30 := boundF (rd_T39 l 0).f2 l
def paint_Bounds.f (l0 : List (S39)) : Option (Int × Int × Int × Int × Int) := if l0.length ≤ 200 ∧ wfD l0 = true then some (if areB l0 = true ∧ 0 < l0.length then ((boundsL l0).f0, (boundsL l0).f1, (boundsL l0).f2, (boundsL l0).f3, 0) else (0, 0, 0, 0, 170)) else none
theorem paint_Bounds.calls (A0 : Option Addr) (c0 : Nat) (l0 : List (S39)) (r1 : Int) (r2 : Int) (r3 : Int) (r4 : Int) (r5 : Int) (w : World) (hr0 : Kd.C k39 w A0 l0.length l0) (hc0 : l0.length ≤ c0) (h : paint_Bounds.f l0 = some (r1, r2, r3, r4, r5)) (hG : GOK w) :
    Calls Tryd.prog 17 #[.slice A0 l0.length c0] w fun e w' => e = .returned (.tuple #[.agg #[.int .i64 r1, .int .i64 r2, .int .i64 r3, .int .i64 r4], .int .i64 r5]) ∧ Below w.heap.size w w' := by
  have _h0 := hc0
  obtain ⟨⟨a, ha⟩, _⟩ := hG
  unfold paint_Bounds.f at h
  split at h
  · rename_i hq
    obtain ⟨q0, q2⟩ := hq
    by_cases hB : areB l0 = true
    · by_cases hp : 0 < l0.length
      · rw [if_pos ⟨hB, hp⟩] at h
        simp only [Option.some.injEq, Prod.mk.injEq] at h
        obtain ⟨rfl, rfl, rfl, rfl, rfl⟩ := h
        exact callsIn_wide.1 (bounds_yes A0 c0 l0 w hr0 (by omega) (wfD_mem q2) hB hp)
      · rw [if_neg (fun h => hp h.2)] at h
        simp only [Option.some.injEq, Prod.mk.injEq] at h
        obtain ⟨rfl, rfl, rfl, rfl, rfl⟩ := h
        have e : l0 = [] := List.eq_nil_of_length_eq_zero (by omega)
        subst e
        exact bounds_nil A0 c0 w a ha
    · rw [if_neg (fun h => hB h.1)] at h
      simp only [Option.some.injEq, Prod.mk.injEq] at h
      obtain ⟨rfl, rfl, rfl, rfl, rfl⟩ := h
      exact bounds_no A0 c0 l0 w hr0 (by omega) (wfD_mem q2) (Bool.eq_false_iff.mpr hB) a ha
  · cases h
end Go.Proofs.YtkmddhljfjjglaaDoor.G
/- Chapter 18: the iterator from the back. Written by mkF12.py. -/
namespace Go.Proofs.YtkmddhljfjjglaaDoor.G
open Go.RowKit Go.Shelf Go.Proofs.YtkmddhljfjjglaaDoorW.PrintWords Go.Proofs.YtkmddhljfjjglaaDoorW.PrintLast Go.Proofs.YtkmddhljfjjglaaDoorW.PrintMore

theorem drop_rev (l : List S39) (j : Nat) (h : j < l.length) : (l.drop j).reverse = (l.drop (j + 1)).reverse ++ [rd_T39 l j] := by
  rw [List.drop_eq_getElem_cons h, List.reverse_cons]
  simp [rd_T39, h]
theorem drop_pre (l : List S39) (j : Nat) : ∃ t, (l.drop j).reverse ++ t = l.reverse := ⟨(l.take j).reverse, by rw [← List.reverse_append, List.take_append_drop]⟩
/-- What the iterator reads. -/
def Bk (w0 : World) (Bs : Nat) (A : Option Addr) (n : Nat) (W : World) : Prop := Below w0.heap.size w0 W ∧ Boxed W Bs 35 (.slice A n n)
set_option maxRecDepth 100000 in
set_option maxHeartbeats 4000000 in
theorem back_in (m : Nat) (hm : 3 ≤ m) (yl Bs : Nat) (A : Option Addr) (l : List S39) (w0 : World) (hr : Kd.C k39 w0 A l.length l) (hl : l.length ≤ 1000) (J Jx : List S39 → World → Prop)
    (hY : ∀ pre x (i : Int) W, J pre W → YieldAt Fence.wide (m - 1) Tryd.prog yl #[.int .i64 i, vS39 x] W fun e W' =>
      (e = .returned (.bool true) ∧ J (pre ++ [x]) W' ∧ (Bk w0 Bs A l.length W → Bk w0 Bs A l.length W')) ∨ (e = .returned (.bool false) ∧ Jx (pre ++ [x]) W'))
    (W : World) (hI : Bk w0 Bs A l.length W) (h0 : J [] W) :
    CallsIn Fence.wide m Tryd.prog 59 #[.func (.yield yl) #[] #[], .pointer (some ⟨Bs, 0, none⟩)] W fun e W' => (∃ v, e = .returned v) ∧
      ((∃ ys, ys = l.reverse ∧ J ys W') ∨ (∃ pre, (∃ t, pre ++ t = l.reverse) ∧ Jx pre W')) := by
  refine callsIn_of_wp Tryd.func59 rfl trivial ?_ rfl
  simp only [Tryd.ntmps59, List.size_toArray, List.length_cons, List.length_nil, Nat.reduceAdd, Nat.reduceSub, Array.replicate_succ, Array.replicate_zero, List.push_toArray, List.append_toArray, List.nil_append, List.cons_append]
  have c1 := hI.2.cell
  have HI := Aside0.mk hI
  have HR := Aside0.mk hr
  clear hI hr
  gi_wp2
  gi_loopw [3] (fun i wr => ((∃ j : Nat, j < l.length ∧ i = .int .i64 j ∧ Aside0 (J ((l.drop (j + 1)).reverse) wr)) ∨ (i = .int .i64 (-1) ∧ Aside0 (J l.reverse wr))) ∧ Aside0 (Bk w0 Bs A l.length wr)) (fun i _ => (intOf i + 1).toNat)
  case atStart =>
    refine ⟨?_, HI⟩
    cases hn : l.length with
    | zero =>
      obtain rfl : l = [] := List.eq_nil_of_length_eq_zero hn
      exact .inr ⟨rfl, ⟨h0⟩⟩
    | succ n =>
      refine .inl ⟨n, by omega, ?_, ⟨by rw [← hn, List.drop_length]; exact h0⟩⟩
      rw [show (((n + 1 : Nat) : Int) - 1) = (n : Int) by omega]
  case round =>
    clear HI h0 c1
    obtain ⟨hj, hIk⟩ := hrel
    rcases hj with ⟨j, hlt, rfl, hJk⟩ | ⟨rfl, hJk⟩
    · obtain ⟨ad, ea, hx0, hx1, hx2, hx3, hx4, hx5⟩ := at_T39 (Kd.C_below HR.out hIk.out.1) (j : Int) (by omega) (by omega)
      cases ea
      simp only [Int.toNat_natCast] at hx0 hx1 hx2 hx3 hx4 hx5
      have c1 := hIk.out.2.cell
      have ht := Aside0.mk (drop_rev l j hlt)
      generalize rd_T39 l j = x at *
      obtain ⟨x0, x1, ⟨r0, r1, r2, r3⟩⟩ := x
      dsimp only at hx0 hx1 hx2 hx3 hx4 hx5
      obtain ⟨fn, tmps, assign, body, hy, hR⟩ := hY _ ⟨x0, x1, ⟨r0, r1, r2, r3⟩⟩ (j : Int) wr hJk.out
      unfold vS39 at hy
      gi_wp2
      refine ⟨fun _ => by omega, hR.mono ?_⟩
      clear hy hR hx0 hx1 hx2 hx3 hx4 hx5 c1
      rintro ev W3 (⟨rfl, hJ3, hk3⟩ | ⟨rfl, hJx3⟩)
      · rw [← ht.out] at hJ3
        have HJ3 := Aside0.mk hJ3
        have HI3 := Aside0.mk (hk3 hIk.out)
        clear hJ3 hk3
        gi_wp2
        go_roundw
        case rel =>
          refine ⟨?_, HI3⟩
          cases j with
          | zero => exact .inr ⟨rfl, HJ3⟩
          | succ n =>
            refine .inl ⟨n, by omega, ?_, HJ3⟩
            rw [show (((n + 1 : Nat) : Int) - 1) = (n : Int) by omega]
        case measure =>
          simp only [intOf]
          omega
      · rw [← ht.out] at hJx3
        gi_wp2
        (try simp only [Exit.inBlock, Exit.then])
        refine bodyPost_ret (results_none rfl _ _ _) rfl ?_
        exact ⟨⟨_, rfl⟩, .inr ⟨_, drop_pre l j, hJx3⟩⟩
    · gi_wp2
      go_end0
      exact ⟨⟨_, rfl⟩, .inl ⟨_, rfl, hJk.out⟩⟩
theorem back_any (A : Option Addr) (n c : Nat) (w : World) : Calls Tryd.prog 40 #[.slice A n c] w fun e w' => e = .returned (.func (.func 59) #[] #[.pointer (some ⟨w.heap.size, 0, none⟩)]) ∧ w' = w.alloc (.cells #[.slice A n c] 35) := by
  go_enter Tryd.func40, Tryd.ntmps40
  go_wp2
  go_ret
  exact ⟨rfl, rfl⟩
end Go.Proofs.YtkmddhljfjjglaaDoor.G
/- Chapter 18: what a point hits. Written by mkF13.py. -/
namespace Go.Proofs.YtkmddhljfjjglaaDoor.G
open Go.RowKit Go.Shelf Go.Proofs.YtkmddhljfjjglaaDoorW.PrintWords Go.Proofs.YtkmddhljfjjglaaDoorW.PrintLast Go.Proofs.YtkmddhljfjjglaaDoorW.PrintMore

theorem cut_all (A : Option Addr) (n c : Nat) (hc : n ≤ c) (W : World) : (Instr.slice 35 (.slice A n c) none (some (.int .i64 n)) (some (.int .i64 n))).run Tryd.prog W = .ok (.slice A n n) W := by
  obtain ⟨i0, hi, _, _, _⟩ := info_parts infoD
  have hel : Tryd.prog.elem 35 = 39 := by simp [Program.elem, Tryd.underlying35]
  have ha : (A.map fun x => x.add 0) = A := by cases A <;> simp [Addr.add]
  rw [run_slice_any W 35 A n c (by rw [hel]; exact Tryd.underlying35), hel]
  have e1 : (Instr.sliceBounds true n c none (some (.int .i64 n)) (some (.int .i64 n))).run Tryd.prog W = .ok (0, n, n) W := by
    simp [Instr.sliceBounds, run_sliceBound W .i64 n c _ (by omega) (by omega), run_sliceBound W .i64 n n _ (by omega) (by omega), Result.andThen]
  rw [e1]
  simp [Result.andThen, sizeOf, typeInfo, hi, sliced, ha]
/-- Does a point hit it? -/
def hitB (px py : Int) (d : S39) : Bool := !d.f0 && (isB d.f2 && (decide (d.f2.f0 ≤ px) && (decide (d.f2.f1 ≤ py) && (decide (px < wrap64 (d.f2.f0 + d.f2.f2)) && decide (py < wrap64 (d.f2.f1 + d.f2.f3))))))
def hitL (px py : Int) (l : List S39) : Option S39 := l.reverse.find? (hitB px py)
theorem find_none_snoc {p : S39 → Bool} {l : List S39} {x : S39} (h : l.find? p = none) (hx : p x = false) : (l ++ [x]).find? p = none := by
  rw [List.find?_append, h]
  simp [hx]
theorem find_some_pre {p : S39 → Bool} {l t m : List S39} {x : S39} (h : l.find? p = none) (hx : p x = true) (e : (l ++ [x]) ++ t = m) : m.find? p = some x := by
  subst e
  rw [List.append_assoc, List.find?_append, h]
  simp [hx]
/-- What is laid between two rounds. -/
def HJ (w : World) (r : Loop) (px py : Int) (pre : List S39) (W : World) : Prop :=
  ReadyAt r (w.heap.size + 1 + 1 + 1 + 1 + 1) W ∧ W.heap[w.heap.size]? = some (.cells #[.int .i64 px] 2 (0, 0)) ∧ W.heap[w.heap.size + 1]? = some (.cells #[.int .i64 py] 2 (0, 0)) ∧ W.heap[w.heap.size + 1 + 1]? = some (.cells #[.int .i64 0] 3 (0, 0)) ∧ W.heap[w.heap.size + 1 + 1 + 1]? = some (.cells #[.bool false] 4 (0, 0)) ∧ Below w.heap.size w W ∧ pre.find? (hitB px py) = none
/-- .. and where it is left. -/
def HX (w : World) (r : Loop) (px py : Int) (pre : List S39) (W : World) : Prop :=
  ∃ p d, pre = p ++ [d] ∧ p.find? (hitB px py) = none ∧ hitB px py d = true ∧ ReadyAt { r with state := .done, pending := some .ret } (w.heap.size + 1 + 1 + 1 + 1 + 1) W ∧ W.heap[w.heap.size + 1 + 1]? = some (.cells #[.int .i64 d.f1] 3 (0, 0)) ∧ W.heap[w.heap.size + 1 + 1 + 1]? = some (.cells #[.bool true] 4 (0, 0)) ∧ Below w.heap.size w W
def KeepF (w W W' : World) : Prop := ∀ k o, W.heap[k]? = some o → k ≠ w.heap.size + 1 + 1 + 1 + 1 + 1 + 1 → k ≠ w.heap.size + 1 + 1 → k ≠ w.heap.size + 1 + 1 + 1 → W'.heap[k]? = some o
attribute [local go_sem] Oper.semAt_some
set_option maxRecDepth 1000000 in
set_option maxHeartbeats 8000000 in
theorem hit_core (A : Option Addr) (c : Nat) (l : List S39) (px py : Int) (w : World) (hr : Kd.C k39 w A l.length l) (hl : l.length ≤ 1000) (hc : l.length ≤ c) (n : Int) (ok : Bool) (hres : (hitL px py l = none ∧ n = 0 ∧ ok = false) ∨ (∃ d, hitL px py l = some d ∧ n = d.f1 ∧ ok = true)) :
    CallsIn Fence.wide 8 Tryd.prog 19 #[.slice A l.length c, .int .i64 px, .int .i64 py] w fun e w' => e = .returned (.tuple #[.int .i64 n, .bool ok]) ∧ Below w.heap.size w w' := by
  have hcut := cut_all A l.length c hc
  have HR := Aside0.mk hr
  have HRES := Aside0.mk hres
  clear hr hres
  refine callsIn_of_wp_marks Tryd.func19 rfl trivial ?_ rfl
  simp only [Tryd.ntmps19, List.size_toArray, List.length_cons, List.length_nil, Nat.reduceAdd, Nat.reduceSub, Array.replicate_succ, Array.replicate_zero, List.push_toArray, List.append_toArray, List.nil_append, List.cons_append]
  refine wpIn_wide.2 ?_
  go_wp2_with (go_at_call 40; refine (back_any _ _ _ _).mono ?_; rintro e w' ⟨rfl, rfl⟩)
  have hb0 : Below w.heap.size w (((((w.alloc (.cells #[.int .i64 px] 2)).alloc (.cells #[.int .i64 py] 2)).alloc (.cells #[.int .i64 0] 3)).alloc (.cells #[.bool false] 4)).alloc (.cells #[.slice A l.length l.length] 35)) := below_alloc (below_alloc (below_alloc (below_alloc (below_alloc (Below.refl _ _) _) _) _) _) _
  have b0 := blk_alloc (blk_alloc (blk_alloc (blk_alloc (blk_new w (.cells #[.int .i64 px] 2)) (.cells #[.int .i64 py] 2)) (.cells #[.int .i64 0] 3)) (.cells #[.bool false] 4)) (.cells #[.slice A l.length l.length] 35)
  have b1 := blk_alloc (blk_alloc (blk_alloc (blk_new (w.alloc (.cells #[.int .i64 px] 2)) (.cells #[.int .i64 py] 2)) (.cells #[.int .i64 0] 3)) (.cells #[.bool false] 4)) (.cells #[.slice A l.length l.length] 35)
  have b2 := blk_alloc (blk_alloc (blk_new ((w.alloc (.cells #[.int .i64 px] 2)).alloc (.cells #[.int .i64 py] 2)) (.cells #[.int .i64 0] 3)) (.cells #[.bool false] 4)) (.cells #[.slice A l.length l.length] 35)
  have b3 := blk_alloc (blk_new (((w.alloc (.cells #[.int .i64 px] 2)).alloc (.cells #[.int .i64 py] 2)).alloc (.cells #[.int .i64 0] 3)) (.cells #[.bool false] 4)) (.cells #[.slice A l.length l.length] 35)
  have b4 := blk_new ((((w.alloc (.cells #[.int .i64 px] 2)).alloc (.cells #[.int .i64 py] 2)).alloc (.cells #[.int .i64 0] 3)).alloc (.cells #[.bool false] 4)) (.cells #[.slice A l.length l.length] 35)
  have z3 : (((((w.alloc (.cells #[.int .i64 px] 2)).alloc (.cells #[.int .i64 py] 2)).alloc (.cells #[.int .i64 0] 3)).alloc (.cells #[.bool false] 4)).alloc (.cells #[.slice A l.length l.length] 35)).heap.size = w.heap.size + 1 + 1 + 1 + 1 + 1 := by simp
  simp only [World.size_alloc] at b1 b2 b3 b4
  have B := Aside0.mk hb0
  have C0 := Aside0.mk b0
  have C1 := Aside0.mk b1
  have C2 := Aside0.mk b2
  have C3 := Aside0.mk b3
  have C4 := Aside0.mk b4
  clear hb0 b0 b1 b2 b3 b4 hcut
  generalize ((((w.alloc (.cells #[.int .i64 px] 2)).alloc (.cells #[.int .i64 py] 2)).alloc (.cells #[.int .i64 0] 3)).alloc (.cells #[.bool false] 4)).alloc (.cells #[.slice A l.length l.length] 35) = W0 at *
  refine (wpIn_wide (n := 8)).1 ?_
  refine range_any (F := Fence.wide) rfl (by omega) (gf := 59) (lb := #[.pointer (some ⟨w.heap.size + 1 + 1 + 1 + 1, 0, none⟩)]) rfl trivial (enters_of Tryd.func59 (by kernel_rfl) rfl)
    (fun W2 => hitL px py l = none ∧ W2.heap[w.heap.size + 1 + 1]? = some (.cells #[.int .i64 0] 3 (0, 0)) ∧ W2.heap[w.heap.size + 1 + 1 + 1]? = some (.cells #[.bool false] 4 (0, 0)) ∧ Below w.heap.size w W2)
    (fun W2 => ∃ d, hitL px py l = some d ∧ W2.heap[w.heap.size + 1 + 1]? = some (.cells #[.int .i64 d.f1] 3 (0, 0)) ∧ W2.heap[w.heap.size + 1 + 1 + 1]? = some (.cells #[.bool true] 4 (0, 0)) ∧ Below w.heap.size w W2) ?hcall ?hdone ?hstop
  case hcall =>
    intro fn r hfn hrec
    have hst : r.state = .ready := by rw [hrec]
    have hpe : r.pending = none := by rw [hrec]
    have hrf : Fence.wide.fn r.fn := trivial
    have ready0 : ReadyAt r (w.heap.size + 1 + 1 + 1 + 1 + 1) ((W0.alloc (.deferred (some []))).alloc (.loop r)) := by
      rw [← z3]
      refine ⟨?_, blk_alloc (blk_new W0 _) _⟩
      have := blk_new (W0.alloc (.deferred (some []))) (.loop r)
      simpa using this
    have below0 : Below W0.heap.size W0 ((W0.alloc (.deferred (some []))).alloc (.loop r)) := below_alloc (below_alloc (Below.refl _ _) _) _
    have below1 := below_then B.out B.out.size below0
    rw [z3]
    refine (back_in 7 (by omega) (w.heap.size + 1 + 1 + 1 + 1 + 1 + 1) (w.heap.size + 1 + 1 + 1 + 1) A l w HR.out hl (HJ w r px py) (HX w r px py) ?hY _ ⟨below1, blk_below C4.out below0⟩
      ⟨ready0, blk_below C0.out below0, blk_below C1.out below0, blk_below C2.out below0, blk_below C3.out below0, below1, rfl⟩).mono ?_
    case hY =>
      rintro pre ⟨x0, x1, ⟨r0, r1, r2, r3⟩⟩ i W ⟨h1, h2, h3, h4, h5, h6, h7⟩
      have hsz := h6.size
      refine (yield_round (R := fun W' => HJ w r px py (pre ++ [⟨x0, x1, ⟨r0, r1, r2, r3⟩⟩]) W' ∧ KeepF w W W') (Rx := HX w r px py (pre ++ [⟨x0, x1, ⟨r0, r1, r2, r3⟩⟩])) h1.1 hst hpe hrf (by rw [hrec]; rfl) ?_).mono ?_
      case _ =>
        have e1 := congrArg Loop.assign hrec
        have e2 := congrArg Loop.params hrec
        have e3 := congrArg Loop.body hrec
        have e4 := congrArg Loop.tmps hrec
        dsimp only at e1 e2 e3 e4
        clear hrec
        generalize hbz : ({ r with state := LoopState.busy } : Loop) = rb
        generalize hdz : ({ r with state := LoopState.done, pending := some Code.ret } : Loop) = rd
        have HDZ := Aside0.mk hdz
        clear hdz
        rw [e1, e2, e3, e4]
        clear e1 e2 e3 e4
        have H1 := Aside0.mk h1
        have H2 := Aside0.mk h2
        have H3 := Aside0.mk h3
        have H4 := Aside0.mk h4
        have H5 := Aside0.mk h5
        have H6 := Aside0.mk h6
        have H7 := Aside0.mk h7
        have hlt := blk_lt h1.1
        clear h1 h2 h3 h4 h5 h6 h7 ready0 below0 below1
        unfold vS39
        gi_wp2
        refine And.intro (blk_alloc H1.out.1 _) ?_
        have hl1 := blk_alloc H1.out.1 (.cells #[.bool x0, .int .i64 x1, .int .i64 r0, .int .i64 r1, .int .i64 r2, .int .i64 r3] 39)
        have hp0 := blk_new W (.cells #[.bool x0, .int .i64 x1, .int .i64 r0, .int .i64 r1, .int .i64 r2, .int .i64 r3] 39)
        have hk0 : Aside0 (∀ k o, W.heap[k]? = some o → (W.alloc (.cells #[.bool x0, .int .i64 x1, .int .i64 r0, .int .i64 r1, .int .i64 r2, .int .i64 r3] 39)).heap[k]? = some o) := ⟨fun k o h => blk_alloc h _⟩
        have hB := below_alloc H6.out (.cells #[.bool x0, .int .i64 x1, .int .i64 r0, .int .i64 r1, .int .i64 r2, .int .i64 r3] 39)
        generalize W.alloc (.cells #[.bool x0, .int .i64 x1, .int .i64 r0, .int .i64 r1, .int .i64 r2, .int .i64 r3] 39) = Wa1 at *
        have hl2 : (Wa1.putObj (w.heap.size + 1 + 1 + 1 + 1 + 1 + 1) (.loop rb)).heap[w.heap.size + 1 + 1 + 1 + 1 + 1 + 1]? = some (.loop rb) := World.putObj_heap_same (blk_lt hl1)
        have hk1 : Aside0 (∀ k o, W.heap[k]? = some o → k ≠ w.heap.size + 1 + 1 + 1 + 1 + 1 + 1 → (Wa1.putObj (w.heap.size + 1 + 1 + 1 + 1 + 1 + 1) (.loop rb)).heap[k]? = some o) := ⟨fun k o h hk => (World.putObj_heap_other hk).trans (hk0.out k o h)⟩
        have hp2 := (World.putObj_heap_other (w := Wa1) (o := .loop rb) (show W.heap.size ≠ w.heap.size + 1 + 1 + 1 + 1 + 1 + 1 by omega)).trans hp0
        have hB2 := hB.trans (belowK_b (w := w) (Nat.le_refl _) Wa1 (w.heap.size + 1 + 1 + 1 + 1 + 1 + 1) _ (.loop rb) (by omega) hl1 rfl rfl)
        clear hp0 hB hl1 hk0
        generalize Wa1.putObj (w.heap.size + 1 + 1 + 1 + 1 + 1 + 1) (.loop rb) = Wb at *
        have k0 := (blk_cell hp2 0).trans (show _ = some (Value.bool x0) from rfl)
        have k1 := (blk_cell hp2 1).trans (show _ = some (Value.int .i64 x1) from rfl)
        have k2 := (blk_cell hp2 2).trans (show _ = some (Value.int .i64 r0) from rfl)
        have k3 := (blk_cell hp2 3).trans (show _ = some (Value.int .i64 r1) from rfl)
        have k4 := (blk_cell hp2 4).trans (show _ = some (Value.int .i64 r2) from rfl)
        have k5 := (blk_cell hp2 5).trans (show _ = some (Value.int .i64 r3) from rfl)
        have F1 := Aside0.mk hl2
        have F3 := Aside0.mk hp2
        have F5 := Aside0.mk hB2
        have hsz2 := hB2.size
        have HH := Aside0.mk (show hitB px py ⟨x0, x1, ⟨r0, r1, r2, r3⟩⟩ = (!x0 && (isB ⟨r0, r1, r2, r3⟩ && (decide (r0 ≤ px) && (decide (r1 ≤ py) && (decide (px < wrap64 (r0 + r2)) && decide (py < wrap64 (r1 + r3))))))) from rfl)
        clear hl2 hp2 hB2
        have fin : Aside0 (∀ W4 : World, Below Wb.heap.size Wb W4 → hitB px py ⟨x0, x1, ⟨r0, r1, r2, r3⟩⟩ = false → W4.heap[w.heap.size + 1 + 1 + 1 + 1 + 1 + 1]? = some (.loop rb) ∧ HJ w r px py (pre ++ [⟨x0, x1, ⟨r0, r1, r2, r3⟩⟩]) (W4.putObj (w.heap.size + 1 + 1 + 1 + 1 + 1 + 1) (.loop r)) ∧ KeepF w W (W4.putObj (w.heap.size + 1 + 1 + 1 + 1 + 1 + 1) (.loop r))) := ⟨fun W4 hb hh => by
          have g1 := blk_below F1.out hb
          have gk : ∀ k o, W.heap[k]? = some o → k ≠ w.heap.size + 1 + 1 + 1 + 1 + 1 + 1 → (W4.putObj (w.heap.size + 1 + 1 + 1 + 1 + 1 + 1) (.loop r)).heap[k]? = some o := fun k o h hk => (World.putObj_heap_other hk).trans (blk_below (hk1.out k o h hk) hb)
          exact ⟨g1, ⟨⟨World.putObj_heap_same (blk_lt g1), gk _ _ H1.out.2 (by omega)⟩, gk _ _ H2.out (by omega), gk _ _ H3.out (by omega), gk _ _ H4.out (by omega), gk _ _ H5.out (by omega), (below_then F5.out hsz2 hb).trans (belowK_b (w := w) (Nat.le_refl _) _ (w.heap.size + 1 + 1 + 1 + 1 + 1 + 1) _ (.loop r) (by omega) g1 rfl rfl), find_none_snoc H7.out hh⟩, fun k o h hk _ _ => gk k o h hk⟩⟩
        have hrb := below_alloc (Below.refl Wb.heap.size Wb) (.cells #[.int .i64 r0, .int .i64 r1, .int .i64 r2, .int .i64 r3] 30)
        have hx1 := blk_below F3.out hrb
        have j0 : (Wb.alloc (.cells #[.int .i64 r0, .int .i64 r1, .int .i64 r2, .int .i64 r3] 30)).cell? ⟨W.heap.size, 0, none⟩ = some (.bool x0) := (blk_cell hx1 0).trans rfl
        have HRB := Aside0.mk hrb
        have HV := Aside0.mk (blk_new Wb (.cells #[.int .i64 r0, .int .i64 r1, .int .i64 r2, .int .i64 r3] 30))
        have HX1 := Aside0.mk hx1
        have HZ0 := Aside0.mk (blk_below (hk1.out _ _ H2.out (by omega)) hrb)
        have HZ1 := Aside0.mk (blk_below (hk1.out _ _ H3.out (by omega)) hrb)
        have HZ2 := Aside0.mk (blk_below (hk1.out _ _ H4.out (by omega)) hrb)
        have HZ3 := Aside0.mk (blk_below (hk1.out _ _ H5.out (by omega)) hrb)
        have HD := Aside0.mk (blk_below (hk1.out _ _ H1.out.2 (by omega)) hrb)
        clear hrb hx1
        cases x0
        · have HC := Aside0.mk (fun W => isRect_any r0 r1 r2 r3 W)
          have HH2 := Aside0.mk (show hitB px py ⟨false, x1, ⟨r0, r1, r2, r3⟩⟩ = (isB ⟨r0, r1, r2, r3⟩ && (decide (r0 ≤ px) && (decide (r1 ≤ py) && (decide (px < wrap64 (r0 + r2)) && decide (py < wrap64 (r1 + r3)))))) from HH.out.trans (by simp))
          clear HH
          generalize hib : isB ⟨r0, r1, r2, r3⟩ = ib at *
          have HIB := Aside0.mk hib
          clear hib
          gi_wp2_with fail
          refine ⟨trivial, ?_⟩
          refine (CallsIn.inRound _ (callsIn_wide.2 (HC.out _))).mono ?_
          rintro e W3 ⟨rfl, hb⟩
          have hv3 := blk_below HV.out hb
          have v0 : W3.cell? ⟨Wb.heap.size, 0, none⟩ = some (.int .i64 r0) := (blk_cell hv3 0).trans rfl
          have v1 : W3.cell? ⟨Wb.heap.size, 1, none⟩ = some (.int .i64 r1) := (blk_cell hv3 1).trans rfl
          have v2 : W3.cell? ⟨Wb.heap.size, 2, none⟩ = some (.int .i64 r2) := (blk_cell hv3 2).trans rfl
          have v3 : W3.cell? ⟨Wb.heap.size, 3, none⟩ = some (.int .i64 r3) := (blk_cell hv3 3).trans rfl
          have d1 : W3.cell? ⟨W.heap.size, 1, none⟩ = some (.int .i64 x1) := (blk_cell (blk_below HX1.out hb) 1).trans rfl
          have y0 : W3.cell? ⟨w.heap.size, 0, none⟩ = some (.int .i64 px) := (blk_cell (blk_below HZ0.out hb) 0).trans rfl
          have y1 : W3.cell? ⟨w.heap.size + 1, 0, none⟩ = some (.int .i64 py) := (blk_cell (blk_below HZ1.out hb) 0).trans rfl
          have HB3 := Aside0.mk (below_then HRB.out HRB.out.size hb)
          have G2 := Aside0.mk (blk_below HZ2.out hb)
          have G3 := Aside0.mk (blk_below HZ3.out hb)
          have GD := Aside0.mk (blk_below HD.out hb)
          have G1 := Aside0.mk (blk_below F1.out HB3.out)
          have c2 : W3.cell? ⟨w.heap.size + 1 + 1, 0, none⟩ = some (.int .i64 0) := (blk_cell G2.out 0).trans rfl
          have c3 : W3.cell? ⟨w.heap.size + 1 + 1 + 1, 0, none⟩ = some (.bool false) := (blk_cell G3.out 0).trans rfl
          have f2 := blk_frozen G2.out 0
          have f3 := blk_frozen G3.out 0
          have B3 := Aside0.mk (below_then F5.out hsz2 HB3.out)
          clear hb hv3 j0 k0 k1 k2 k3 k4 k5 HV HX1 HZ0 HZ1 HZ2 HZ3 HD hk1 HC
          cases ib
          · gi_wp2
            exact fin.out _ HB3.out (HH2.out.trans (by simp))
          by_cases q2 : r0 ≤ px
          case neg =>
            have HQ := Aside0.mk (HH2.out.trans (show _ = false by rw [decide_eq_false q2]; simp))
            gi_wp2
            exact fin.out _ HB3.out HQ.out
          by_cases q3 : r1 ≤ py
          case neg =>
            have HQ := Aside0.mk (HH2.out.trans (show _ = false by rw [decide_eq_false q3]; simp))
            gi_wp2
            exact fin.out _ HB3.out HQ.out
          by_cases q4 : px < wrap64 (r0 + r2)
          case neg =>
            have HQ := Aside0.mk (HH2.out.trans (show _ = false by rw [decide_eq_false q4]; simp))
            gi_wp2
            exact fin.out _ HB3.out HQ.out
          by_cases q5 : py < wrap64 (r1 + r3)
          case neg =>
            have HQ := Aside0.mk (HH2.out.trans (show _ = false by rw [decide_eq_false q5]; simp))
            gi_wp2
            exact fin.out _ HB3.out HQ.out
          have HHT := Aside0.mk (HH2.out.trans (show _ = true by rw [decide_eq_true q2, decide_eq_true q3, decide_eq_true q4, decide_eq_true q5]; rfl))
          gi_wp2
          have g1 := set_other (b := w.heap.size + 1 + 1 + 1) (i := 0) (v := .bool true) (set_other (b := w.heap.size + 1 + 1) (i := 0) (v := .int .i64 x1) G1.out (by omega)) (by omega)
          have gd := set_other (b := w.heap.size + 1 + 1 + 1) (i := 0) (v := .bool true) (set_other (b := w.heap.size + 1 + 1) (i := 0) (v := .int .i64 x1) GD.out (by omega)) (by omega)
          have g2 := set_other (b := w.heap.size + 1 + 1 + 1) (i := 0) (v := .bool true) (blk_put G2.out 0 (.int .i64 x1) rfl) (by omega)
          have g3 := blk_put (set_other (b := w.heap.size + 1 + 1) (i := 0) (v := .int .i64 x1) G3.out (by omega)) 0 (.bool true) rfl
          have g5 := (B3.out.setCell (p := ⟨w.heap.size + 1 + 1, 0, none⟩) (show w.heap.size ≤ w.heap.size + 1 + 1 by omega) (.int .i64 x1)).setCell (p := ⟨w.heap.size + 1 + 1 + 1, 0, none⟩) (show w.heap.size ≤ w.heap.size + 1 + 1 + 1 by omega) (.bool true)
          exact ⟨g1, pre, _, rfl, H7.out, HHT.out, ⟨by rw [HDZ.out]; exact World.putObj_heap_same (blk_lt g1), (World.putObj_heap_other (by omega)).trans gd⟩, (World.putObj_heap_other (by omega)).trans g2, (World.putObj_heap_other (by omega)).trans g3, g5.trans (belowK_b (w := w) (Nat.le_refl _) _ (w.heap.size + 1 + 1 + 1 + 1 + 1 + 1) _ _ (by omega) g1 rfl rfl)⟩
        · gi_wp2_with fail
          refine ⟨trivial, ?_⟩
          gi_wp2
          exact fin.out _ HRB.out (HH.out.trans (by simp))
      case _ =>
        rintro e W' (⟨rfl, h, hk⟩ | ⟨rfl, h⟩)
        · exact .inl ⟨rfl, h, fun ⟨_, c4⟩ => ⟨h.2.2.2.2.2.1, hk _ _ c4 (by omega) (by omega) (by omega)⟩⟩
        · exact .inr ⟨rfl, h⟩
    · rintro e W' ⟨⟨v, rfl⟩, (⟨ys, rfl, h1, h2, h3, h4, h5, h6, h7⟩ | ⟨pre, ⟨t, ht⟩, p, d, rfl, h1, h2, h3, h4, h5, h6⟩)⟩
      · exact ⟨⟨v, rfl⟩, .inl ⟨⟨h7, h4, h5, h6⟩, h1⟩⟩
      · exact ⟨⟨v, rfl⟩, .inr ⟨⟨d, find_some_pre h1 h2 ht, h4, h5, h6⟩, h3⟩⟩
  case hdone =>
    rintro o W2 ⟨hn, hv, hz, hB⟩ ⟨r, hr⟩ hD
    rw [z3] at hr hD ⊢
    obtain ⟨_, rfl, rfl⟩ : hitL px py l = none ∧ n = 0 ∧ ok = false := by
      rcases HRES.out with h | ⟨d, h, _⟩
      · exact h
      · rw [hn] at h; cases h
    have v3 := (World.putObj_heap_other (w := W2) (o := o) (show w.heap.size + 1 + 1 ≠ w.heap.size + 1 + 1 + 1 + 1 + 1 + 1 by omega)).trans hv
    have u3 := (World.putObj_heap_other (w := W2) (o := o) (show w.heap.size + 1 + 1 + 1 ≠ w.heap.size + 1 + 1 + 1 + 1 + 1 + 1 by omega)).trans hz
    have d3 := (World.putObj_heap_other (w := W2) (o := o) (show w.heap.size + 1 + 1 + 1 + 1 + 1 ≠ w.heap.size + 1 + 1 + 1 + 1 + 1 + 1 by omega)).trans hD
    have b3 := hB.trans (belowK_b (w := w) (Nat.le_refl _) W2 (w.heap.size + 1 + 1 + 1 + 1 + 1 + 1) _ o (by omega) hr rfl rfl)
    clear hn hv hz hB hr hD HRES
    generalize W2.putObj (w.heap.size + 1 + 1 + 1 + 1 + 1 + 1) o = W3 at *
    have p2 : W3.cell? ⟨w.heap.size + 1 + 1, 0, none⟩ = some (.int .i64 0) := (blk_cell v3 0).trans rfl
    have p3 : W3.cell? ⟨w.heap.size + 1 + 1 + 1, 0, none⟩ = some (.bool false) := (blk_cell u3 0).trans rfl
    have q2 := blk_frozen v3 0
    have q3 := blk_frozen u3 0
    have V3 := Aside0.mk v3
    have U3 := Aside0.mk u3
    have D3 := Aside0.mk d3
    have B3 := Aside0.mk b3
    clear v3 u3 d3 b3
    go_wp2
    have g2 := set_other (b := w.heap.size + 1 + 1 + 1) (i := 0) (v := .bool false) (blk_put V3.out 0 (.int .i64 0) rfl) (by omega)
    have g3 := blk_put (set_other (b := w.heap.size + 1 + 1) (i := 0) (v := .int .i64 0) U3.out (by omega)) 0 (.bool false) rfl
    have gd := set_other (b := w.heap.size + 1 + 1 + 1) (i := 0) (v := .bool false) (set_other (b := w.heap.size + 1 + 1) (i := 0) (v := .int .i64 0) D3.out (by omega)) (by omega)
    have g5 := (B3.out.setCell (p := ⟨w.heap.size + 1 + 1, 0, none⟩) (show w.heap.size ≤ w.heap.size + 1 + 1 by omega) (.int .i64 0)).setCell (p := ⟨w.heap.size + 1 + 1 + 1, 0, none⟩) (show w.heap.size ≤ w.heap.size + 1 + 1 + 1 by omega) (.bool false)
    clear p2 p3 q2 q3 V3 U3 D3 B3
    generalize (W3.setCell ⟨w.heap.size + 1 + 1, 0, none⟩ (.int .i64 0)).setCell ⟨w.heap.size + 1 + 1 + 1, 0, none⟩ (.bool false) = W5 at *
    refine ⟨by simp, .inl ⟨_, _, rfl, run_takeDeferred gd, ?_⟩⟩
    have e2 := (World.putObj_heap_other (w := W5) (o := .deferred none) (show w.heap.size + 1 + 1 ≠ w.heap.size + 1 + 1 + 1 + 1 + 1 by omega)).trans g2
    have e3 := (World.putObj_heap_other (w := W5) (o := .deferred none) (show w.heap.size + 1 + 1 + 1 ≠ w.heap.size + 1 + 1 + 1 + 1 + 1 by omega)).trans g3
    have b5 := g5.trans (belowK_b (w := w) (Nat.le_refl _) W5 (w.heap.size + 1 + 1 + 1 + 1 + 1) _ (.deferred none) (by omega) gd rfl rfl)
    generalize W5.putObj (w.heap.size + 1 + 1 + 1 + 1 + 1) (.deferred none) = W6 at *
    have c2 : W6.cell? ⟨w.heap.size + 1 + 1, 0, none⟩ = some (.int .i64 0) := (blk_cell e2 0).trans rfl
    have c3 : W6.cell? ⟨w.heap.size + 1 + 1 + 1, 0, none⟩ = some (.bool false) := (blk_cell e3 0).trans rfl
    refine ⟨.tuple #[.int .i64 0, .bool false], ?_, rfl, b5⟩
    simp [results, Tryd.results19, go_sem, c2, c3]
  case hstop =>
    rintro o W2 ⟨d, hn, hv, hz, hB⟩ ⟨r, hr⟩ hD
    rw [z3] at hr hD ⊢
    obtain ⟨rfl, rfl⟩ : n = d.f1 ∧ ok = true := by
      rcases HRES.out with ⟨h, _⟩ | ⟨d', h, h1, h2⟩
      · rw [hn] at h; cases h
      · rw [hn] at h
        cases h
        exact ⟨h1, h2⟩
    have v3 := (World.putObj_heap_other (w := W2) (o := o) (show w.heap.size + 1 + 1 ≠ w.heap.size + 1 + 1 + 1 + 1 + 1 + 1 by omega)).trans hv
    have u3 := (World.putObj_heap_other (w := W2) (o := o) (show w.heap.size + 1 + 1 + 1 ≠ w.heap.size + 1 + 1 + 1 + 1 + 1 + 1 by omega)).trans hz
    have gd := (World.putObj_heap_other (w := W2) (o := o) (show w.heap.size + 1 + 1 + 1 + 1 + 1 ≠ w.heap.size + 1 + 1 + 1 + 1 + 1 + 1 by omega)).trans hD
    have b3 := hB.trans (belowK_b (w := w) (Nat.le_refl _) W2 (w.heap.size + 1 + 1 + 1 + 1 + 1 + 1) _ o (by omega) hr rfl rfl)
    clear hn hv hz hB hr hD HRES
    generalize W2.putObj (w.heap.size + 1 + 1 + 1 + 1 + 1 + 1) o = W5 at *
    gi_wp2
    refine ⟨by simp, .inl ⟨_, _, rfl, run_takeDeferred gd, ?_⟩⟩
    have e2 := (World.putObj_heap_other (w := W5) (o := .deferred none) (show w.heap.size + 1 + 1 ≠ w.heap.size + 1 + 1 + 1 + 1 + 1 by omega)).trans v3
    have e3 := (World.putObj_heap_other (w := W5) (o := .deferred none) (show w.heap.size + 1 + 1 + 1 ≠ w.heap.size + 1 + 1 + 1 + 1 + 1 by omega)).trans u3
    have b5 := b3.trans (belowK_b (w := w) (Nat.le_refl _) W5 (w.heap.size + 1 + 1 + 1 + 1 + 1) _ (.deferred none) (by omega) gd rfl rfl)
    generalize W5.putObj (w.heap.size + 1 + 1 + 1 + 1 + 1) (.deferred none) = W6 at *
    have c2 : W6.cell? ⟨w.heap.size + 1 + 1, 0, none⟩ = some (.int .i64 d.f1) := (blk_cell e2 0).trans rfl
    have c3 : W6.cell? ⟨w.heap.size + 1 + 1 + 1, 0, none⟩ = some (.bool true) := (blk_cell e3 0).trans rfl
    refine ⟨.tuple #[.int .i64 d.f1, .bool true], ?_, rfl, b5⟩
    simp [results, Tryd.results19, go_sem, c2, c3]
def hitP (o : Option S39) : Int × Bool := match o with
  | none => (0, false)
  | some d => (d.f1, true)
def paint_Hit.f (l0 : List (S39)) (a1 : Int) (a2 : Int) : Option (Int × Bool) := if l0.length ≤ 200 then some (hitP (hitL a1 a2 l0)) else none
theorem paint_Hit.calls (A0 : Option Addr) (c0 : Nat) (l0 : List (S39)) (a1 : Int) (a2 : Int) (r1 : Int) (r2 : Bool) (w : World) (hr0 : Kd.C k39 w A0 l0.length l0) (hc0 : l0.length ≤ c0) (h : paint_Hit.f l0 a1 a2 = some (r1, r2)) (hG : GOK w) :
    Calls Tryd.prog 19 #[.slice A0 l0.length c0, .int .i64 a1, .int .i64 a2] w fun e w' => e = .returned (.tuple #[.int .i64 r1, .bool r2]) ∧ Below w.heap.size w w' := by
  have _hG := hG
  unfold paint_Hit.f at h
  split at h
  · refine callsIn_wide.1 (hit_core A0 c0 l0 a1 a2 w hr0 (by omega) hc0 r1 r2 ?_)
    have h := Option.some.inj h
    cases hh : hitL a1 a2 l0 with
    | none =>
      rw [hh, hitP, Prod.mk.injEq] at h
      exact .inl ⟨rfl, h.1.symm, h.2.symm⟩
    | some d =>
      rw [hh, hitP, Prod.mk.injEq] at h
      exact .inr ⟨d, rfl, h.1.symm, h.2.symm⟩
  · cases h
end Go.Proofs.YtkmddhljfjjglaaDoor.G
/- Chapter 18: the print. Written by mkF14.py. -/
namespace Go.Proofs.YtkmddhljfjjglaaDoor.G
open Go.RowKit Go.Shelf Go.Proofs.YtkmddhljfjjglaaDoorW.PrintWords Go.Proofs.YtkmddhljfjjglaaDoorW.PrintLast Go.Proofs.YtkmddhljfjjglaaDoorW.PrintMore

/-- A builder of the call's own, and what is written. -/
def Bd (w0 : World) (b : Nat) (bs : List UInt8) (W : World) : Prop := Lib.IsBuilder 80 5 w0.heap.size b (Lib.byteCells bs) W ∧ Below w0.heap.size w0 W
theorem isB_below {B b : Nat} {bs : List Value} {W W' : World} (h : Lib.IsBuilder 80 5 B b bs W) (hb : Below W.heap.size W W') : Lib.IsBuilder 80 5 B b bs W' := by
  rcases h with ⟨h0, v, h1, h2, h3⟩ | ⟨h0, v, h1, h2, h3⟩
  · exact .inl ⟨h0, v, blk_below h1 hb, pw_own_below h2 hb, h3⟩
  · exact .inr ⟨h0, v, blk_below h1 hb, pw_own_below h2 hb, h3⟩
theorem Bd.below {w0 W W' : World} {b : Nat} {bs : List UInt8} (h : Bd w0 b bs W) (hb : Below W.heap.size W W') : Bd w0 b bs W' := ⟨isB_below h.1 hb, below_then h.2 h.2.size hb⟩
theorem writeS (w0 : World) (b : Nat) (bs : List UInt8) (s : ByteArray) (w : World) (h : Bd w0 b bs w) (hlen : bs.length + s.size ≤ 1000000) :
    Calls Tryd.prog 47 #[.pointer (some ⟨b, 0, none⟩), .string s] w fun e w' => (∃ v, e = .returned v) ∧ Bd w0 b (bs ++ s.data.toList) w' ∧ KT b w w' := by
  refine (writeString_any w0.heap.size b (Lib.byteCells bs) s w h.1 (by rw [Lib.byteCells_length]; omega) h.2.size).mono ?_
  rintro e w' ⟨rfl, h1, h2, h3⟩
  exact ⟨⟨_, rfl⟩, ⟨by simpa [Lib.byteCells, Lib.strCells] using h1, h.2.trans h2⟩, h3⟩
theorem writeB (w0 : World) (b : Nat) (bs : List UInt8) (w : World) (h : Bd w0 b bs w) (hlen : bs.length ≤ 1000000) :
    Calls Tryd.prog 49 #[.pointer (some ⟨b, 0, none⟩), .int .u8 10] w fun e w' => (∃ v, e = .returned v) ∧ Bd w0 b (bs ++ [10]) w' ∧ KT b w w' := by
  refine (writeByte_any w0.heap.size b (Lib.byteCells bs) 10 w h.1 (by rw [Lib.byteCells_length]; omega) h.2.size).mono ?_
  rintro e w' ⟨rfl, h1, h2, h3⟩
  exact ⟨⟨_, rfl⟩, ⟨by simpa [Lib.byteCells] using h1, h.2.trans h2⟩, h3⟩
theorem itoa_any (n : Int) (hn : r64B n = true) (w : World) (hG : GOK w) : Calls Tryd.prog 46 #[.int .i64 n] w fun e w' => e = .returned (.string ⟨(Lib.itoa n).toArray⟩) ∧ Below w.heap.size w w' := by
  simp only [r64B, Bool.and_eq_true, decide_eq_true_eq] at hn
  refine (Tryd.strconv_Itoa n hn.1 hn.2 w hG.2).mono ?_
  rintro e w' ⟨rfl, k, os, rfl⟩
  exact ⟨rfl, Lib.below_grow _ _ (Nat.le_refl _) _ _⟩
theorem format_any (n : Int) (hn : r64B n = true) (w : World) (hG : GOK w) : Calls Tryd.prog 48 #[.int .i64 n, .int .i64 10] w fun e w' => e = .returned (.string ⟨(Lib.itoa n).toArray⟩) ∧ Below w.heap.size w w' := by
  simp only [r64B, Bool.and_eq_true, decide_eq_true_eq] at hn
  refine (Tryd.strconv_FormatInt_10 n hn.1 hn.2 w hG.2).mono ?_
  rintro e w' ⟨rfl, k, os, rfl⟩
  exact ⟨rfl, Lib.below_grow _ _ (Nat.le_refl _) _ _⟩
theorem itoa_len {n : Int} (hn : r64B n = true) : (Lib.itoa n).length ≤ 21 := by
  simp only [r64B, Bool.and_eq_true, decide_eq_true_eq] at hn
  exact Lib.itoa_length_le n hn.1 hn.2
/-- What is printed of some numbers, of one that is drawn, of all. -/
def spL (l : List Int) : List UInt8 := l.flatMap fun n => 32 :: Lib.itoa n
def wordL (x : S39) : List UInt8 := if x.f0 then [114, 117, 108, 101] else [110, 111, 100, 101, 32] ++ Lib.itoa x.f1
def numsL (x : S39) : List Int := [x.f2.f0, x.f2.f1, x.f2.f2, x.f2.f3]
def lineL (x : S39) : List UInt8 := wordL x ++ spL (numsL x) ++ [10]
def printL (l : List S39) : List UInt8 := l.flatMap lineL
theorem spL_snoc (l : List Int) (n : Int) : spL (l ++ [n]) = spL l ++ 32 :: Lib.itoa n := by simp [spL]
theorem printL_snoc (l : List S39) (x : S39) : printL (l ++ [x]) = printL l ++ lineL x := by simp [printL]
def wfX (x : S39) : Bool := r64B x.f1 && wfR x.f2
theorem spL_len (l : List Int) (h : ∀ n ∈ l, r64B n = true) : (spL l).length ≤ 22 * l.length := by
  induction l using snoc_ind with
  | h0 => simp [spL]
  | h1 l n ih =>
    rw [spL_snoc]
    have h1 := ih (fun m hm => h m (by simp [hm]))
    have h2 := itoa_len (h n (by simp))
    simp only [List.length_append, List.length_cons, List.length_nil]
    omega
theorem nums_wf {x : S39} (h : wfX x = true) : ∀ n ∈ numsL x, r64B n = true := by
  simp only [wfX, wfR, Bool.and_eq_true] at h
  intro n hn
  simp only [numsL, List.mem_cons, List.not_mem_nil, or_false] at hn
  rcases hn with rfl | rfl | rfl | rfl
  · exact h.2.1
  · exact h.2.2.1
  · exact h.2.2.2.1
  · exact h.2.2.2.2
theorem wordL_len {x : S39} (h : wfX x = true) : (wordL x).length ≤ 26 := by
  simp only [wfX, Bool.and_eq_true] at h
  have h1 := itoa_len h.1
  unfold wordL
  split <;> simp <;> omega
theorem lineL_len {x : S39} (h : wfX x = true) : (lineL x).length ≤ 120 := by
  have h1 := wordL_len h
  have h2 := spL_len _ (nums_wf h)
  simp only [lineL, List.length_append, numsL, List.length_cons, List.length_nil] at *
  omega
theorem printL_len (l : List S39) (h : ∀ x ∈ l, wfX x = true) : (printL l).length ≤ 120 * l.length := by
  induction l using snoc_ind with
  | h0 => simp [printL]
  | h1 l x ih =>
    rw [printL_snoc]
    have h1 := ih (fun m hm => h m (by simp [hm]))
    have h2 := lineL_len (h x (by simp))
    simp only [List.length_append, List.length_cons, List.length_nil]
    omega
theorem size_list (l : List UInt8) : (⟨l.toArray⟩ : ByteArray).size = l.length := by simp [ByteArray.size]
theorem sp_size (n : Int) : ((⟨#[32]⟩ : ByteArray) ++ (⟨(Lib.itoa n).toArray⟩ : ByteArray)).size = 1 + (Lib.itoa n).length := by
  rw [ByteArray.size_append, size_list]; rfl
theorem sp_data (n : Int) : ((⟨#[32]⟩ : ByteArray) ++ (⟨(Lib.itoa n).toArray⟩ : ByteArray)).data.toList = 32 :: Lib.itoa n := by simp
theorem nd_size (n : Int) : ((⟨#[110, 111, 100, 101, 32]⟩ : ByteArray) ++ (⟨(Lib.itoa n).toArray⟩ : ByteArray)).size = 5 + (Lib.itoa n).length := by
  rw [ByteArray.size_append, size_list]; rfl
theorem nd_data (n : Int) : ((⟨#[110, 111, 100, 101, 32]⟩ : ByteArray) ++ (⟨(Lib.itoa n).toArray⟩ : ByteArray)).data.toList = [110, 111, 100, 101, 32] ++ Lib.itoa n := by simp
theorem KT.blk {b k : Nat} {W W' : World} {cs : Array Value} {t : TypeId} {z : Nat × Nat} (h : KT b W W') (hk : W.heap[k]? = some (.cells cs t z)) (hb : k ≠ b) (ht : t ≠ 5) : W'.heap[k]? = some (.cells cs t z) :=
  h k _ hk hb (fun cs' e => ht (by injection e))
theorem bd_block {w0 W : World} {b : Nat} {bs : List UInt8} (h : Bd w0 b bs W) : ∃ v p, W.heap[b]? = some (.cells #[p, v] 80 (0, 0)) := by
  rcases h.1 with ⟨_, v, h1, _⟩ | ⟨_, v, h1, _⟩
  · exact ⟨_, _, h1⟩
  · exact ⟨_, _, h1⟩
set_option maxRecDepth 1000000 in
set_option maxHeartbeats 4000000 in
theorem print_any (A : Option Addr) (c : Nat) (l : List S39) (w : World) (hr : Kd.C k39 w A l.length l) (hl : l.length ≤ 1000) (hw : ∀ x ∈ l, wfX x = true) (hG : GOK w) :
    Calls Tryd.prog 25 #[.slice A l.length c] w fun e w' => e = .returned (.string ⟨(printL l).toArray⟩) ∧ Below w.heap.size w w' := by
  have HR := Aside0.mk hr
  have HW := Aside0.mk hw
  have HG := Aside0.mk hG
  have HB0 : Aside0 (Bd w w.heap.size [] (w.alloc (.cells #[.pointer none, .slice none 0 0] 80))) := ⟨Lib.fresh_isBuilder 80 5 w, below_alloc (Below.refl _ _) _⟩
  clear hr hw hG
  go_enter Tryd.func25, Tryd.ntmps25
  go_wp2
  go_loopw [11] (fun i wr => ∃ k : Nat, k ≤ l.length ∧ i = .int .i64 k ∧ Aside0 (Bd w w.heap.size (printL (l.take k)) wr)) (fun i _ => l.length - (intOf i).toNat)
  case atStart => exact ⟨0, Nat.zero_le _, rfl, HB0⟩
  case round =>
    clear HB0
    obtain ⟨k, hk, rfl, HB⟩ := hrel
    by_cases hlt : k < l.length
    · obtain ⟨ad, ea, hx0, hx1, hx2, hx3, hx4, hx5⟩ := at_T39 (Kd.C_below HR.out HB.out.2) (k : Int) (by omega) (by omega)
      cases ea
      simp only [Int.toNat_natCast] at hx0 hx1 hx2 hx3 hx4 hx5
      have ht := Aside0.mk (takeD_rd l k hlt)
      have hwf := HW.out _ (memD_rd l k hlt)
      have hpl : (printL (l.take k)).length ≤ 120000 := by
        have := printL_len (l.take k) (fun x hx => HW.out x (List.mem_of_mem_take hx))
        rw [List.length_take] at this
        omega
      generalize rd_T39 l k = x at *
      have HWL := Aside0.mk (wordL_len hwf)
      have HNW := Aside0.mk (nums_wf hwf)
      have hwf1 : r64B x.f1 = true := by simp only [wfX, Bool.and_eq_true] at hwf; exact hwf.1
      have HLINE := Aside0.mk (show lineL x = wordL x ++ spL (numsL x) ++ [10] from rfl)
      have HWORD := Aside0.mk (show wordL x = if x.f0 then [114, 117, 108, 101] else [110, 111, 100, 101, 32] ++ Lib.itoa x.f1 from rfl)
      have HNUMS := Aside0.mk (show numsL x = [x.f2.f0, x.f2.f1, x.f2.f2, x.f2.f3] from rfl)
      generalize wordL x = word at *
      generalize numsL x = nums at *
      obtain ⟨x0, x1, ⟨r0, r1, r2, r3⟩⟩ := x
      dsimp only at hx0 hx1 hx2 hx3 hx4 hx5 HWORD HNUMS hwf1
      have HW1 := Aside0.mk hwf1
      have hb1 := below_alloc (Below.refl wr.heap.size wr) (.cells #[.bool x0, .int .i64 x1, .int .i64 r0, .int .i64 r1, .int .i64 r2, .int .i64 r3] 39)
      have HB1 := Aside0.mk (HB.out.below hb1)
      have HX1 := Aside0.mk (blk_new wr (.cells #[.bool x0, .int .i64 x1, .int .i64 r0, .int .i64 r1, .int .i64 r2, .int .i64 r3] 39))
      have hne : wr.heap.size ≠ w.heap.size := by obtain ⟨v, p, h⟩ := bd_block HB.out; have := blk_lt h; omega
      generalize hbs : printL (l.take k) = bs at *
      have HBS := Aside0.mk hbs
      clear hbs hb1 HB hwf hwf1
      cases x0
      · have HWD := Aside0.mk (show word = [110, 111, 100, 101, 32] ++ Lib.itoa x1 from HWORD.out)
        clear HWORD
        have hz : ¬ 9223372036854775807 < 5 + (Lib.itoa x1).length := by have := itoa_len HW1.out; omega
        go_wp2_with (first | (go_at_call 46; refine (itoa_any x1 HW1.out _ (HG.out.below HB1.out.2)).mono ?_; rintro e w2 ⟨rfl, hb⟩; have HB2 := Aside0.mk (HB1.out.below hb); have HX2 := Aside0.mk (blk_below HX1.out hb); clear hb) | (go_at_call 47; refine (writeS w w.heap.size bs _ _ HB2.out (by have := hpl; rw [nd_size]; have := itoa_len HW1.out; omega)).mono ?_; rintro e w3 ⟨⟨v3, rfl⟩, hbd, hkt⟩; have HB3 := Aside0.mk (show Bd w w.heap.size (bs ++ word) w3 by rw [nd_data] at hbd; rw [HWD.out]; exact hbd); have HX3 := Aside0.mk (hkt.blk HX2.out hne (by decide)); clear hbd hkt; have k2 : w3.cell? ⟨wr.heap.size, 2, none⟩ = some (.int .i64 r0) := (blk_cell HX3.out 2).trans rfl; have k3 : w3.cell? ⟨wr.heap.size, 3, none⟩ = some (.int .i64 r1) := (blk_cell HX3.out 3).trans rfl; have k4 : w3.cell? ⟨wr.heap.size, 4, none⟩ = some (.int .i64 r2) := (blk_cell HX3.out 4).trans rfl; have k5 : w3.cell? ⟨wr.heap.size, 5, none⟩ = some (.int .i64 r3) := (blk_cell HX3.out 5).trans rfl))
        have hb4 := below_alloc (Below.refl w3.heap.size w3) (.cells #[.int .i64 r0, .int .i64 r1, .int .i64 r2, .int .i64 r3] 2)
        have HB4 := Aside0.mk (HB3.out.below hb4)
        have HG4 := Aside0.mk (blk_new w3 (.cells #[.int .i64 r0, .int .i64 r1, .int .i64 r2, .int .i64 r3] 2))
        have hg5 : w3.heap.size ≠ w.heap.size := by
          obtain ⟨v, p, h⟩ := bd_block HB3.out
          have := blk_lt h
          omega
        clear hb4 k2 k3 k4 k5 HX3
        go_loopw [38] (fun i wq => ∃ j : Nat, j ≤ 4 ∧ i = .int .i64 j ∧ Aside0 (Bd w w.heap.size (bs ++ word ++ spL (nums.take j)) wq) ∧ Aside0 (wq.heap[w3.heap.size]? = some (.cells #[.int .i64 r0, .int .i64 r1, .int .i64 r2, .int .i64 r3] 2 (0, 0)))) (fun i _ => 4 - (intOf i).toNat)
        case atStart => exact ⟨0, by omega, rfl, ⟨by simpa [spL] using HB4.out⟩, HG4⟩
        case round =>
          clear HB4 HG4
          obtain ⟨j, hj, rfl, HB5, HG5⟩ := hrel
          rename World => w5
          have hlen5 : (bs ++ word ++ spL (nums.take j)).length ≤ 200000 := by
            have h1 := spL_len (nums.take j) (fun n hn => HNW.out n (List.mem_of_mem_take hn))
            have h2 := HWL.out
            have h3 := hpl
            have h4 : (nums.take j).length ≤ 4 := by rw [List.length_take]; omega
            simp only [List.length_append]
            omega
          by_cases hlt4 : j < 4
          · have hjj : j = 0 ∨ j = 1 ∨ j = 2 ∨ j = 3 := by omega
            rcases hjj with rfl | rfl | rfl | rfl
            · have HN0 := Aside0.mk (HNW.out r0 (by rw [HNUMS.out]; simp))
              have hz : ¬ 9223372036854775807 < 1 + (Lib.itoa r0).length := by have := itoa_len HN0.out; omega
              have y0 : w5.cell? ⟨w3.heap.size, 0, none⟩ = some (.int .i64 r0) := (blk_cell HG5.out 0).trans rfl
              go_wp2_with (first | (go_at_call 48; refine (format_any r0 HN0.out _ (HG.out.below HB5.out.2)).mono ?_; rintro e w6 ⟨rfl, hb⟩; have HB6 := Aside0.mk (HB5.out.below hb); have HG6 := Aside0.mk (blk_below HG5.out hb); clear hb) | (go_at_call 47; refine (writeS w w.heap.size _ _ _ HB6.out (by rw [sp_size]; have := hlen5; have := itoa_len HN0.out; omega)).mono ?_; rintro e w7 ⟨⟨v7, rfl⟩, hbd, hkt⟩; have HB7 := Aside0.mk hbd; have HG7 := Aside0.mk (hkt.blk HG6.out hg5 (by decide)); clear hbd hkt))
              go_roundw
              case rel => exact ⟨1, by omega, by go_num, ⟨by have h := HB7.out; rw [sp_data] at h; rw [HNUMS.out] at h ⊢; simpa [spL] using h⟩, HG7⟩
              case measure => simp [intOf]
            · have HN1 := Aside0.mk (HNW.out r1 (by rw [HNUMS.out]; simp))
              have hz : ¬ 9223372036854775807 < 1 + (Lib.itoa r1).length := by have := itoa_len HN1.out; omega
              have y1 : w5.cell? ⟨w3.heap.size, 1, none⟩ = some (.int .i64 r1) := (blk_cell HG5.out 1).trans rfl
              go_wp2_with (first | (go_at_call 48; refine (format_any r1 HN1.out _ (HG.out.below HB5.out.2)).mono ?_; rintro e w6 ⟨rfl, hb⟩; have HB6 := Aside0.mk (HB5.out.below hb); have HG6 := Aside0.mk (blk_below HG5.out hb); clear hb) | (go_at_call 47; refine (writeS w w.heap.size _ _ _ HB6.out (by rw [sp_size]; have := hlen5; have := itoa_len HN1.out; omega)).mono ?_; rintro e w7 ⟨⟨v7, rfl⟩, hbd, hkt⟩; have HB7 := Aside0.mk hbd; have HG7 := Aside0.mk (hkt.blk HG6.out hg5 (by decide)); clear hbd hkt))
              go_roundw
              case rel => exact ⟨2, by omega, by go_num, ⟨by have h := HB7.out; rw [sp_data] at h; rw [HNUMS.out] at h ⊢; simpa [spL] using h⟩, HG7⟩
              case measure => simp [intOf]
            · have HN2 := Aside0.mk (HNW.out r2 (by rw [HNUMS.out]; simp))
              have hz : ¬ 9223372036854775807 < 1 + (Lib.itoa r2).length := by have := itoa_len HN2.out; omega
              have y2 : w5.cell? ⟨w3.heap.size, 2, none⟩ = some (.int .i64 r2) := (blk_cell HG5.out 2).trans rfl
              go_wp2_with (first | (go_at_call 48; refine (format_any r2 HN2.out _ (HG.out.below HB5.out.2)).mono ?_; rintro e w6 ⟨rfl, hb⟩; have HB6 := Aside0.mk (HB5.out.below hb); have HG6 := Aside0.mk (blk_below HG5.out hb); clear hb) | (go_at_call 47; refine (writeS w w.heap.size _ _ _ HB6.out (by rw [sp_size]; have := hlen5; have := itoa_len HN2.out; omega)).mono ?_; rintro e w7 ⟨⟨v7, rfl⟩, hbd, hkt⟩; have HB7 := Aside0.mk hbd; have HG7 := Aside0.mk (hkt.blk HG6.out hg5 (by decide)); clear hbd hkt))
              go_roundw
              case rel => exact ⟨3, by omega, by go_num, ⟨by have h := HB7.out; rw [sp_data] at h; rw [HNUMS.out] at h ⊢; simpa [spL] using h⟩, HG7⟩
              case measure => simp [intOf]
            · have HN3 := Aside0.mk (HNW.out r3 (by rw [HNUMS.out]; simp))
              have hz : ¬ 9223372036854775807 < 1 + (Lib.itoa r3).length := by have := itoa_len HN3.out; omega
              have y3 : w5.cell? ⟨w3.heap.size, 3, none⟩ = some (.int .i64 r3) := (blk_cell HG5.out 3).trans rfl
              go_wp2_with (first | (go_at_call 48; refine (format_any r3 HN3.out _ (HG.out.below HB5.out.2)).mono ?_; rintro e w6 ⟨rfl, hb⟩; have HB6 := Aside0.mk (HB5.out.below hb); have HG6 := Aside0.mk (blk_below HG5.out hb); clear hb) | (go_at_call 47; refine (writeS w w.heap.size _ _ _ HB6.out (by rw [sp_size]; have := hlen5; have := itoa_len HN3.out; omega)).mono ?_; rintro e w7 ⟨⟨v7, rfl⟩, hbd, hkt⟩; have HB7 := Aside0.mk hbd; have HG7 := Aside0.mk (hkt.blk HG6.out hg5 (by decide)); clear hbd hkt))
              go_roundw
              case rel => exact ⟨4, by omega, by go_num, ⟨by have h := HB7.out; rw [sp_data] at h; rw [HNUMS.out] at h ⊢; simpa [spL] using h⟩, HG7⟩
              case measure => simp [intOf]
          · have e : j = 4 := by omega
            subst e
            have HB6 := Aside0.mk (show Bd w w.heap.size (bs ++ word ++ spL nums) w5 by have h := HB5.out; rw [HNUMS.out] at h ⊢; exact h)
            have hlen6 : (bs ++ word ++ spL nums).length ≤ 200000 := by have h := hlen5; rw [HNUMS.out] at h ⊢; exact h
            go_wp2_with (go_at_call 49; refine (writeB w w.heap.size _ _ HB6.out (by have := hlen6; omega)).mono ?_; rintro e w7 ⟨⟨v7, rfl⟩, hbd, _⟩; have HB7 := Aside0.mk hbd; clear hbd)
            go_roundw
            case rel => exact ⟨k + 1, by omega, by go_num, ⟨by rw [ht.out, printL_snoc, HBS.out, HLINE.out]; simpa using HB7.out⟩⟩
            case measure => simp [intOf]; omega
      · have HWD := Aside0.mk (show word = [114, 117, 108, 101] from HWORD.out)
        clear HWORD
        go_wp2_with (go_at_call 47; refine (writeS w w.heap.size bs _ _ HB1.out (by have := hpl; show bs.length + 4 ≤ _; omega)).mono ?_; rintro e w3 ⟨⟨v3, rfl⟩, hbd, hkt⟩; have HB3 := Aside0.mk (show Bd w w.heap.size (bs ++ word) w3 by rw [HWD.out]; exact hbd); have HX3 := Aside0.mk (hkt.blk HX1.out hne (by decide)); clear hbd hkt; have k2 : w3.cell? ⟨wr.heap.size, 2, none⟩ = some (.int .i64 r0) := (blk_cell HX3.out 2).trans rfl; have k3 : w3.cell? ⟨wr.heap.size, 3, none⟩ = some (.int .i64 r1) := (blk_cell HX3.out 3).trans rfl; have k4 : w3.cell? ⟨wr.heap.size, 4, none⟩ = some (.int .i64 r2) := (blk_cell HX3.out 4).trans rfl; have k5 : w3.cell? ⟨wr.heap.size, 5, none⟩ = some (.int .i64 r3) := (blk_cell HX3.out 5).trans rfl)
        have hb4 := below_alloc (Below.refl w3.heap.size w3) (.cells #[.int .i64 r0, .int .i64 r1, .int .i64 r2, .int .i64 r3] 2)
        have HB4 := Aside0.mk (HB3.out.below hb4)
        have HG4 := Aside0.mk (blk_new w3 (.cells #[.int .i64 r0, .int .i64 r1, .int .i64 r2, .int .i64 r3] 2))
        have hg5 : w3.heap.size ≠ w.heap.size := by
          obtain ⟨v, p, h⟩ := bd_block HB3.out
          have := blk_lt h
          omega
        clear hb4 k2 k3 k4 k5 HX3
        go_loopw [38] (fun i wq => ∃ j : Nat, j ≤ 4 ∧ i = .int .i64 j ∧ Aside0 (Bd w w.heap.size (bs ++ word ++ spL (nums.take j)) wq) ∧ Aside0 (wq.heap[w3.heap.size]? = some (.cells #[.int .i64 r0, .int .i64 r1, .int .i64 r2, .int .i64 r3] 2 (0, 0)))) (fun i _ => 4 - (intOf i).toNat)
        case atStart => exact ⟨0, by omega, rfl, ⟨by simpa [spL] using HB4.out⟩, HG4⟩
        case round =>
          clear HB4 HG4
          obtain ⟨j, hj, rfl, HB5, HG5⟩ := hrel
          rename World => w5
          have hlen5 : (bs ++ word ++ spL (nums.take j)).length ≤ 200000 := by
            have h1 := spL_len (nums.take j) (fun n hn => HNW.out n (List.mem_of_mem_take hn))
            have h2 := HWL.out
            have h3 := hpl
            have h4 : (nums.take j).length ≤ 4 := by rw [List.length_take]; omega
            simp only [List.length_append]
            omega
          by_cases hlt4 : j < 4
          · have hjj : j = 0 ∨ j = 1 ∨ j = 2 ∨ j = 3 := by omega
            rcases hjj with rfl | rfl | rfl | rfl
            · have HN0 := Aside0.mk (HNW.out r0 (by rw [HNUMS.out]; simp))
              have hz : ¬ 9223372036854775807 < 1 + (Lib.itoa r0).length := by have := itoa_len HN0.out; omega
              have y0 : w5.cell? ⟨w3.heap.size, 0, none⟩ = some (.int .i64 r0) := (blk_cell HG5.out 0).trans rfl
              go_wp2_with (first | (go_at_call 48; refine (format_any r0 HN0.out _ (HG.out.below HB5.out.2)).mono ?_; rintro e w6 ⟨rfl, hb⟩; have HB6 := Aside0.mk (HB5.out.below hb); have HG6 := Aside0.mk (blk_below HG5.out hb); clear hb) | (go_at_call 47; refine (writeS w w.heap.size _ _ _ HB6.out (by rw [sp_size]; have := hlen5; have := itoa_len HN0.out; omega)).mono ?_; rintro e w7 ⟨⟨v7, rfl⟩, hbd, hkt⟩; have HB7 := Aside0.mk hbd; have HG7 := Aside0.mk (hkt.blk HG6.out hg5 (by decide)); clear hbd hkt))
              go_roundw
              case rel => exact ⟨1, by omega, by go_num, ⟨by have h := HB7.out; rw [sp_data] at h; rw [HNUMS.out] at h ⊢; simpa [spL] using h⟩, HG7⟩
              case measure => simp [intOf]
            · have HN1 := Aside0.mk (HNW.out r1 (by rw [HNUMS.out]; simp))
              have hz : ¬ 9223372036854775807 < 1 + (Lib.itoa r1).length := by have := itoa_len HN1.out; omega
              have y1 : w5.cell? ⟨w3.heap.size, 1, none⟩ = some (.int .i64 r1) := (blk_cell HG5.out 1).trans rfl
              go_wp2_with (first | (go_at_call 48; refine (format_any r1 HN1.out _ (HG.out.below HB5.out.2)).mono ?_; rintro e w6 ⟨rfl, hb⟩; have HB6 := Aside0.mk (HB5.out.below hb); have HG6 := Aside0.mk (blk_below HG5.out hb); clear hb) | (go_at_call 47; refine (writeS w w.heap.size _ _ _ HB6.out (by rw [sp_size]; have := hlen5; have := itoa_len HN1.out; omega)).mono ?_; rintro e w7 ⟨⟨v7, rfl⟩, hbd, hkt⟩; have HB7 := Aside0.mk hbd; have HG7 := Aside0.mk (hkt.blk HG6.out hg5 (by decide)); clear hbd hkt))
              go_roundw
              case rel => exact ⟨2, by omega, by go_num, ⟨by have h := HB7.out; rw [sp_data] at h; rw [HNUMS.out] at h ⊢; simpa [spL] using h⟩, HG7⟩
              case measure => simp [intOf]
            · have HN2 := Aside0.mk (HNW.out r2 (by rw [HNUMS.out]; simp))
              have hz : ¬ 9223372036854775807 < 1 + (Lib.itoa r2).length := by have := itoa_len HN2.out; omega
              have y2 : w5.cell? ⟨w3.heap.size, 2, none⟩ = some (.int .i64 r2) := (blk_cell HG5.out 2).trans rfl
              go_wp2_with (first | (go_at_call 48; refine (format_any r2 HN2.out _ (HG.out.below HB5.out.2)).mono ?_; rintro e w6 ⟨rfl, hb⟩; have HB6 := Aside0.mk (HB5.out.below hb); have HG6 := Aside0.mk (blk_below HG5.out hb); clear hb) | (go_at_call 47; refine (writeS w w.heap.size _ _ _ HB6.out (by rw [sp_size]; have := hlen5; have := itoa_len HN2.out; omega)).mono ?_; rintro e w7 ⟨⟨v7, rfl⟩, hbd, hkt⟩; have HB7 := Aside0.mk hbd; have HG7 := Aside0.mk (hkt.blk HG6.out hg5 (by decide)); clear hbd hkt))
              go_roundw
              case rel => exact ⟨3, by omega, by go_num, ⟨by have h := HB7.out; rw [sp_data] at h; rw [HNUMS.out] at h ⊢; simpa [spL] using h⟩, HG7⟩
              case measure => simp [intOf]
            · have HN3 := Aside0.mk (HNW.out r3 (by rw [HNUMS.out]; simp))
              have hz : ¬ 9223372036854775807 < 1 + (Lib.itoa r3).length := by have := itoa_len HN3.out; omega
              have y3 : w5.cell? ⟨w3.heap.size, 3, none⟩ = some (.int .i64 r3) := (blk_cell HG5.out 3).trans rfl
              go_wp2_with (first | (go_at_call 48; refine (format_any r3 HN3.out _ (HG.out.below HB5.out.2)).mono ?_; rintro e w6 ⟨rfl, hb⟩; have HB6 := Aside0.mk (HB5.out.below hb); have HG6 := Aside0.mk (blk_below HG5.out hb); clear hb) | (go_at_call 47; refine (writeS w w.heap.size _ _ _ HB6.out (by rw [sp_size]; have := hlen5; have := itoa_len HN3.out; omega)).mono ?_; rintro e w7 ⟨⟨v7, rfl⟩, hbd, hkt⟩; have HB7 := Aside0.mk hbd; have HG7 := Aside0.mk (hkt.blk HG6.out hg5 (by decide)); clear hbd hkt))
              go_roundw
              case rel => exact ⟨4, by omega, by go_num, ⟨by have h := HB7.out; rw [sp_data] at h; rw [HNUMS.out] at h ⊢; simpa [spL] using h⟩, HG7⟩
              case measure => simp [intOf]
          · have e : j = 4 := by omega
            subst e
            have HB6 := Aside0.mk (show Bd w w.heap.size (bs ++ word ++ spL nums) w5 by have h := HB5.out; rw [HNUMS.out] at h ⊢; exact h)
            have hlen6 : (bs ++ word ++ spL nums).length ≤ 200000 := by have h := hlen5; rw [HNUMS.out] at h ⊢; exact h
            go_wp2_with (go_at_call 49; refine (writeB w w.heap.size _ _ HB6.out (by have := hlen6; omega)).mono ?_; rintro e w7 ⟨⟨v7, rfl⟩, hbd, _⟩; have HB7 := Aside0.mk hbd; clear hbd)
            go_roundw
            case rel => exact ⟨k + 1, by omega, by go_num, ⟨by rw [ht.out, printL_snoc, HBS.out, HLINE.out]; simpa using HB7.out⟩⟩
            case measure => simp [intOf]; omega
    · have e : k = l.length := by omega
      subst e
      rw [List.take_length] at HB
      have HS := Aside0.mk (Tryd.Builder_String_any w.heap.size w.heap.size (printL l) wr HB.out.1 HB.out.2.size)
      go_wp2_with (go_at_call 50; refine HS.out.mono ?_; rintro e w' ⟨rfl, hb⟩; have HB2 := Aside0.mk (HB.out.2.trans hb); clear hb)
      go_ret
      exact ⟨rfl, HB2.out⟩
def paint_Print.f (l0 : List (S39)) : Option (ByteArray) := if l0.length ≤ 200 ∧ l0.all wfX = true then some ⟨(printL l0).toArray⟩ else none
theorem paint_Print.calls (A0 : Option Addr) (c0 : Nat) (l0 : List (S39)) (r : ByteArray) (w : World) (hr0 : Kd.C k39 w A0 l0.length l0) (hc0 : l0.length ≤ c0) (h : paint_Print.f l0 = some r) (hG : GOK w) :
    Calls Tryd.prog 25 #[.slice A0 l0.length c0] w fun e w' => e = .returned (.string r) ∧ Below w.heap.size w w' := by
  have _h := hc0
  unfold paint_Print.f at h
  split at h
  · rename_i hq
    obtain rfl := Option.some.inj h
    exact print_any A0 c0 l0 w hr0 (by omega) (List.all_eq_true.1 hq.2) hG
  · cases h
end Go.Proofs.YtkmddhljfjjglaaDoor.G
/- Chapter 18: the rules between columns; when two are the same. Written by mkF15.py. -/
namespace Go.Proofs.YtkmddhljfjjglaaDoor.G
open Go.RowKit Go.Shelf Go.Proofs.YtkmddhljfjjglaaDoorW.PrintWords Go.Proofs.YtkmddhljfjjglaaDoorW.PrintLast Go.Proofs.YtkmddhljfjjglaaDoorW.PrintMore

def l30 (r : S30) : List Value := [.int .i64 r.f0, .int .i64 r.f1, .int .i64 r.f2, .int .i64 r.f3]
def row30L (l : List S30) : List Value := l.flatMap l30
theorem row30_snoc (l : List S30) (x : S30) : row30L (l ++ [x]) = row30L l ++ l30 x := by simp [row30L]
theorem reps30 (w : World) (base : Nat) (ok : Nat → Prop) (l : List S30) : Reps (k30.M w base ok) 4 l (row30L l) := by
  induction l using snoc_ind with
  | h0 => exact Reps.none _ _
  | h1 l x ih => rw [row30_snoc]; exact ih.snoc (k30_mkM _ _ _ x) rfl
theorem R30_of_own {W : World} {base : Nat} {v : Value} {l : List S30} (h : W.ownsRow base 30 4 v l.length (row30L l)) : Kd.R k30 30 W base (fun _ => True) v l :=
  ⟨fun _ _ => trivial, row30L l, h, reps30 _ _ _ _⟩
/-- One rule; all. -/
def ruleS (w gap rule y h : Int) (i : Nat) : S30 := ⟨(i : Int) * (w + gap) + w + (gap - rule) / 2, y, rule, h⟩
def rulesL (n : Nat) (w gap rule y h : Int) : List S30 := (List.range n).map (ruleS w gap rule y h)
theorem rulesL_snoc (n : Nat) (w gap rule y h : Int) : rulesL (n + 1) w gap rule y h = rulesL n w gap rule y h ++ [ruleS w gap rule y h n] := by simp [rulesL, List.range_succ]
theorem rulesL_len (n : Nat) (w gap rule y h : Int) : (rulesL n w gap rule y h).length = n := by simp [rulesL]
/-- Are a rule's numbers right? -/
def ruleB (cols w gap rule y h : Int) : Bool := !outB 2000 cols && ((!outB 1048576 w && (!outB 1048576 gap && !outB 1048576 rule)) && (!outB 1099511627776 y && !outB 1099511627776 h))
theorem inZ {most a : Int} (h : outB most a = false) : 0 ≤ a ∧ a ≤ most := by
  simp only [outB, Bool.or_eq_false_iff, decide_eq_false_iff_not] at h
  omega
theorem infoR : (Tryd.prog.info? 30).map (fun i => (i.zero, i.size, i.bytes)) = some (some (.agg #[(.int .i64 0), (.int .i64 0), (.int .i64 0), (.int .i64 0)]), 4, 32) := by kernel_rfl
attribute [local go_sem] max2_int
set_option maxRecDepth 1000000 in
set_option maxHeartbeats 4000000 in
theorem rules_yes (n : Nat) (cols wd gap rule y h : Int) (w : World) (hn : n = cols.toNat - 1) (hc : 0 ≤ cols ∧ cols ≤ 2000) (hw : 0 ≤ wd ∧ wd ≤ 1048576) (hg : 0 ≤ gap ∧ gap ≤ 1048576) (hr : 0 < rule ∧ rule ≤ 1048576) (h1 : outB 2000 cols = false) (h2 : outB 1048576 wd = false) (h3 : outB 1048576 gap = false) (h4 : outB 1048576 rule = false) (h5 : outB 1099511627776 y = false) (h6 : outB 1099511627776 h = false) :
    Calls Tryd.prog 10 #[.int .i64 cols, .int .i64 wd, .int .i64 gap, .int .i64 rule, .int .i64 y, .int .i64 h] w fun e w' => ∃ v0_ : Value, e = .returned (.tuple #[v0_, .int .i64 0]) ∧ Kd.R k30 30 w' w.heap.size (fun _ => True) v0_ (rulesL n wd gap rule y h) ∧ Below w.heap.size w w' := by
  obtain ⟨i0, hi, hz0, hz1, hz2⟩ := info_parts infoR
  have HI := Aside0.mk hi
  have H1 := Aside0.mk (fun W g e => within1 2000 cols 1 g W e)
  have H2 := Aside0.mk (fun W g e => within3 1048576 wd gap rule 3 g W e)
  have H3 := Aside0.mk (fun W g e => within2 1099511627776 y h 2 g W e)
  rw [h1] at H1
  rw [h2, h3, h4] at H2
  rw [h5, h6] at H3
  clear hi h1 h2 h3 h4 h5 h6
  have hrz : (rule == 0) = false := by rw [beq_eq_false_iff_ne]; omega
  go_enter Tryd.func10, Tryd.ntmps10
  go_wp2_with (first | (go_at_call 28; (with_reducible refine (H1.out _ _ (by simp)).mono ?_); rintro e w1 ⟨rfl, hb⟩; have HB1 := Aside0.mk hb; clear hb) | (go_at_call 28; (with_reducible refine (H2.out _ _ (by simp)).mono ?_); rintro e w2 ⟨rfl, hb⟩; have HB2 := Aside0.mk (below_then HB1.out HB1.out.size hb); clear hb) | (go_at_call 28; (with_reducible refine (H3.out _ _ (by simp)).mono ?_); rintro e w3 ⟨rfl, hb⟩; have HB3 := Aside0.mk (below_then HB2.out HB2.out.size hb); clear hb))
  have hm : max cols 1 - 1 = (n : Int) := by omega
  have hn2 : n ≤ 2000 := by omega
  rw [hm]
  clear hn hm
  clear H1 H2 H3
  go_loopw [14, 43] (fun v i wr => ∃ k : Nat, k ≤ n ∧ i = .int .i64 k ∧ Aside0 (wr.ownsRow w.heap.size 30 4 v k (row30L (rulesL k wd gap rule y h))) ∧ Aside0 (Below w.heap.size w wr)) (fun _ i _ => n - (intOf i).toNat)
  case atStart => exact ⟨0, Nat.zero_le _, rfl, ⟨World.ownsRow_nil _ _ _ _⟩, HB3⟩
  case round =>
    obtain ⟨k, hk, rfl, HO, HB⟩ := hrel
    by_cases hlt : k < n
    · have hsz := HB.out.size
      have hkk : (k : Int) ≤ 2000 := by omega
      have hp : 0 ≤ (k : Int) * (wd + gap) := Int.mul_nonneg (by omega) (by omega)
      have hq : (k : Int) * (wd + gap) ≤ 2000 * 2097152 := Int.mul_le_mul (by omega) (by omega) (by omega) (by omega)
      have HX := Aside0.mk (show wrap64 (wrap64 (wrap64 ((k : Int) * (wd + gap)) + wd) + (gap - rule) / 2) = (k : Int) * (wd + gap) + wd + (gap - rule) / 2 by
        generalize (k : Int) * (wd + gap) = p at *
        unfold wrap64
        omega)
      have HS := Aside0.mk (rulesL_snoc k wd gap rule y h)
      have HL : (rulesL k wd gap rule y h).length = k := rulesL_len _ _ _ _ _ _
      clear hp hq
      go_wp2_with (at_builtin; refine wpList_append_own _ rfl _ _ 23 rfl w.heap.size 30 i0 (.agg #[(.int .i64 0), (.int .i64 0), (.int .i64 0), (.int .i64 0)]) 4 32 Tryd.underlying23 HI.out hz0 hz1 hz2 rfl (by decide) _ _ _ rfl (HO.out.alloc _) ⟨wr.heap.size, 0, none⟩ 1 1 [.int .i64 (wrap64 (wrap64 (wrap64 ((k : Int) * (wd + gap)) + wd) + (gap - rule) / 2)), .int .i64 y, .int .i64 rule, .int .i64 h] rfl rfl (fun j u h => cells_at _ _ 30 rfl _ j u h) (by simp [Value.oneCell']) (by unfold maxLen; omega) (by omega) (by simp; omega) ?_; intro v' w4 hown' hgrow _; have HO1 := Aside0.mk hown'; have HG1 := Aside0.mk hgrow; clear hown' hgrow)
      go_roundw
      case rel => exact ⟨k + 1, by omega, by go_num, ⟨by have q := HO1.out; rw [HX.out] at q; rw [HS.out, row30_snoc]; exact q⟩, ⟨(below_alloc HB.out _).grown HG1.out (by simp; omega) (own_ne_any HO.out)⟩⟩
      case measure => simp [intOf]; omega
    · have e : k = n := by omega
      subst e
      have HL := rulesL_len k wd gap rule y h
      go_wp2
      go_ret2
      exact ⟨_, rfl, R30_of_own (by rw [HL]; exact HO.out), HB.out⟩
theorem nil_R (w : World) (base : Nat) : Kd.R k30 30 w base (fun _ => True) (.slice none 0 0) [] := Kd.R_nil _ _ _ _ _
set_option maxRecDepth 1000000 in
set_option maxHeartbeats 4000000 in
theorem rules_zero (cols wd gap rule y h : Int) (w : World) (hr : rule = 0) (h1 : outB 2000 cols = false) (h2 : outB 1048576 wd = false) (h3 : outB 1048576 gap = false) (h4 : outB 1048576 rule = false) (h5 : outB 1099511627776 y = false) (h6 : outB 1099511627776 h = false) :
    Calls Tryd.prog 10 #[.int .i64 cols, .int .i64 wd, .int .i64 gap, .int .i64 rule, .int .i64 y, .int .i64 h] w fun e w' => ∃ v0_ : Value, e = .returned (.tuple #[v0_, .int .i64 0]) ∧ Kd.R k30 30 w' w.heap.size (fun _ => True) v0_ [] ∧ Below w.heap.size w w' := by
  have H1 := Aside0.mk (fun W g e => within1 2000 cols 1 g W e)
  have H2 := Aside0.mk (fun W g e => within3 1048576 wd gap rule 3 g W e)
  have H3 := Aside0.mk (fun W g e => within2 1099511627776 y h 2 g W e)
  rw [h1] at H1
  rw [h2, h3, h4] at H2
  rw [h5, h6] at H3
  clear h1 h2 h3 h4 h5 h6
  subst hr
  go_enter Tryd.func10, Tryd.ntmps10
  go_wp2_with (first | (go_at_call 28; (with_reducible refine (H1.out _ _ (by simp)).mono ?_); rintro e w1 ⟨rfl, hb⟩; have HB1 := Aside0.mk hb; clear hb) | (go_at_call 28; (with_reducible refine (H2.out _ _ (by simp)).mono ?_); rintro e w2 ⟨rfl, hb⟩; have HB2 := Aside0.mk (below_then HB1.out HB1.out.size hb); clear hb) | (go_at_call 28; (with_reducible refine (H3.out _ _ (by simp)).mono ?_); rintro e w3 ⟨rfl, hb⟩; have HB3 := Aside0.mk (below_then HB2.out HB2.out.size hb); clear hb))
  go_ret2
  exact ⟨_, rfl, nil_R _ _, HB3.out⟩
set_option maxRecDepth 1000000 in
set_option maxHeartbeats 4000000 in
theorem rules_no (cols wd gap rule y h : Int) (w : World) (hB : ruleB cols wd gap rule y h = false) (a : Addr) (hs : w.cell? ⟨0, 0, none⟩ = some (.iface 136 (.pointer (some a)))) :
    Calls Tryd.prog 10 #[.int .i64 cols, .int .i64 wd, .int .i64 gap, .int .i64 rule, .int .i64 y, .int .i64 h] w fun e w' => ∃ v0_ : Value, e = .returned (.tuple #[v0_, .int .i64 170]) ∧ Kd.R k30 30 w' w.heap.size (fun _ => True) v0_ [] ∧ Below w.heap.size w w' := by
  have H1 := Aside0.mk (fun W g e => within1 2000 cols 1 g W e)
  have H2 := Aside0.mk (fun W g e => within3 1048576 wd gap rule 3 g W e)
  have H3 := Aside0.mk (fun W g e => within2 1099511627776 y h 2 g W e)
  have HS := Aside0.mk hs
  unfold ruleB at hB
  generalize (!outB 2000 cols) = p1 at *
  generalize (!outB 1048576 wd && (!outB 1048576 gap && !outB 1048576 rule)) = p2 at *
  generalize (!outB 1099511627776 y && !outB 1099511627776 h) = p3 at *
  clear hs
  cases p1
  · clear hB H2 H3
    go_enter Tryd.func10, Tryd.ntmps10
    go_wp2_with (first | (go_at_call 28; (with_reducible refine (H1.out _ _ (by simp)).mono ?_); rintro e w1 ⟨rfl, hb⟩; have HB1 := Aside0.mk hb; have g0 := pw_cell_below hb HS.out; clear hb) | (go_at_call 29; refine (told_paint a _ (pw_cell_below HB1.out HS.out)).mono ?_; rintro e w' ⟨rfl, rfl⟩))
    go_ret2
    exact ⟨_, rfl, nil_R _ _, HB1.out⟩
  cases p2
  · clear hB H3
    go_enter Tryd.func10, Tryd.ntmps10
    go_wp2_with (first | (go_at_call 28; (with_reducible refine (H1.out _ _ (by simp)).mono ?_); rintro e w1 ⟨rfl, hb⟩; have HB1 := Aside0.mk hb; clear hb) | (go_at_call 28; (with_reducible refine (H2.out _ _ (by simp)).mono ?_); rintro e w2 ⟨rfl, hb⟩; have HB2 := Aside0.mk (below_then HB1.out HB1.out.size hb); have g0 := pw_cell_below HB2.out HS.out; clear hb) | (go_at_call 29; refine (told_paint a _ (pw_cell_below HB2.out HS.out)).mono ?_; rintro e w' ⟨rfl, rfl⟩))
    go_ret2
    exact ⟨_, rfl, nil_R _ _, HB2.out⟩
  cases p3
  · clear hB
    go_enter Tryd.func10, Tryd.ntmps10
    go_wp2_with (first | (go_at_call 28; (with_reducible refine (H1.out _ _ (by simp)).mono ?_); rintro e w1 ⟨rfl, hb⟩; have HB1 := Aside0.mk hb; clear hb) | (go_at_call 28; (with_reducible refine (H2.out _ _ (by simp)).mono ?_); rintro e w2 ⟨rfl, hb⟩; have HB2 := Aside0.mk (below_then HB1.out HB1.out.size hb); clear hb) | (go_at_call 28; (with_reducible refine (H3.out _ _ (by simp)).mono ?_); rintro e w3 ⟨rfl, hb⟩; have HB3 := Aside0.mk (below_then HB2.out HB2.out.size hb); have g0 := pw_cell_below HB3.out HS.out; clear hb) | (go_at_call 29; refine (told_paint a _ (pw_cell_below HB3.out HS.out)).mono ?_; rintro e w' ⟨rfl, rfl⟩))
    go_ret2
    exact ⟨_, rfl, nil_R _ _, HB3.out⟩
  cases hB
def paint_Rules.f (a0 : Int) (a1 : Int) (a2 : Int) (a3 : Int) (a4 : Int) (a5 : Int) : Option ((List (S30)) × Int) := some (if ruleB a0 a1 a2 a3 a4 a5 then (if a3 = 0 then [] else rulesL (a0.toNat - 1) a1 a2 a3 a4 a5, 0) else ([], 170))
theorem paint_Rules.calls (a0 : Int) (a1 : Int) (a2 : Int) (a3 : Int) (a4 : Int) (a5 : Int) (r1 : List (S30)) (r2 : Int) (w : World) (h : paint_Rules.f a0 a1 a2 a3 a4 a5 = some (r1, r2)) (hG : GOK w) :
    Calls Tryd.prog 10 #[.int .i64 a0, .int .i64 a1, .int .i64 a2, .int .i64 a3, .int .i64 a4, .int .i64 a5] w fun e w' => ∃ v0_ : Value, e = .returned (.tuple #[v0_, .int .i64 r2]) ∧ Kd.R k30 30 w' w.heap.size (fun _ => True) v0_ r1 ∧ Below w.heap.size w w' := by
  obtain ⟨⟨a, ha⟩, _⟩ := hG
  have h := Option.some.inj h
  by_cases hB : ruleB a0 a1 a2 a3 a4 a5 = true
  · rw [if_pos hB, Prod.mk.injEq] at h
    obtain ⟨h1, rfl⟩ := h
    simp only [ruleB, Bool.and_eq_true, Bool.not_eq_true'] at hB
    obtain ⟨b1, ⟨b2, b3, b4⟩, b5, b6⟩ := hB
    by_cases hz : a3 = 0
    · rw [if_pos hz] at h1
      subst h1
      exact rules_zero a0 a1 a2 a3 a4 a5 w hz b1 b2 b3 b4 b5 b6
    · rw [if_neg hz] at h1
      subst h1
      have c4 := inZ b4
      exact rules_yes _ a0 a1 a2 a3 a4 a5 w rfl (inZ b1) (inZ b2) (inZ b3) (by omega) b1 b2 b3 b4 b5 b6
  · rw [if_neg hB, Prod.mk.injEq] at h
    obtain ⟨rfl, rfl⟩ := h
    exact rules_no a0 a1 a2 a3 a4 a5 w (Bool.eq_false_iff.mpr hB) a ha
end Go.Proofs.YtkmddhljfjjglaaDoor.G
/- Chapter 18: the law's cuts. Written by mkF16.py. -/
namespace Go.Proofs.YtkmddhljfjjglaaDoor.G
open Go.RowKit Go.Shelf Go.Proofs.YtkmddhljfjjglaaDoorW.PrintWords Go.Proofs.YtkmddhljfjjglaaDoorW.PrintLast Go.Proofs.YtkmddhljfjjglaaDoorW.PrintMore
attribute [local go_sem] max2_int min2_int max_two min_two

theorem C_takeN {α : Type} {k : Kd α} {w : World} {A : Option Addr} {xs : List α} (m : Nat) (h : Kd.C k w A xs.length xs) : Kd.C k w A (xs.take m).length (xs.take m) := by
  by_cases hm : m ≤ xs.length
  · exact Kd.C_take h hm
  · rw [List.take_of_length_le (by omega)]; exact h
set_option maxRecDepth 100000 in
theorem cut_13 {α : Type} (A : Option Addr) (c : Nat) (l y : List α) (w : World) (hc : l.length ≤ c) (hy : y = l.take 60) :
    Calls Tryd.prog 13 #[.slice A l.length c] w fun e w' => e = .returned (.slice A y.length c) ∧ w = w' := by
  obtain ⟨i0, hi, _, _, _⟩ := info_parts info30
  have hly : y.length = min 60 l.length := by rw [hy, List.length_take]
  by_cases h : (60 : Int) < l.length
  · have hcut := cut_to (P := Tryd.prog) 23 30 .i64 Tryd.underlying23 hi A l.length c 60 (by omega) (by omega) hc
    have e : y.length = 60 := by omega
    clear hy hly
    go_enter Tryd.func13, Tryd.ntmps13
    go_wp2
    go_ret
    exact ⟨by rw [e]; rfl, rfl⟩
  · have hcut := cut_to (P := Tryd.prog) 23 30 .i64 Tryd.underlying23 hi A l.length c l.length (by omega) (by omega) hc
    have e : y.length = l.length := by omega
    clear hy hly
    go_enter Tryd.func13, Tryd.ntmps13
    go_wp2
    go_ret
    exact ⟨rfl, rfl⟩
set_option maxRecDepth 100000 in
theorem cut_16 {α : Type} (A : Option Addr) (c : Nat) (l y : List α) (w : World) (hc : l.length ≤ c) (hy : y = l.take 60) :
    Calls Tryd.prog 16 #[.slice A l.length c] w fun e w' => e = .returned (.slice A y.length c) ∧ w = w' := by
  obtain ⟨i0, hi, _, _, _⟩ := info_parts info39
  have hly : y.length = min 60 l.length := by rw [hy, List.length_take]
  by_cases h : (60 : Int) < l.length
  · have hcut := cut_to (P := Tryd.prog) 35 39 .i64 Tryd.underlying35 hi A l.length c 60 (by omega) (by omega) hc
    have e : y.length = 60 := by omega
    clear hy hly
    go_enter Tryd.func16, Tryd.ntmps16
    go_wp2
    go_ret
    exact ⟨by rw [e]; rfl, rfl⟩
  · have hcut := cut_to (P := Tryd.prog) 35 39 .i64 Tryd.underlying35 hi A l.length c l.length (by omega) (by omega) hc
    have e : y.length = l.length := by omega
    clear hy hly
    go_enter Tryd.func16, Tryd.ntmps16
    go_wp2
    go_ret
    exact ⟨rfl, rfl⟩
end Go.Proofs.YtkmddhljfjjglaaDoor.G
/- Chapter 18: the reference's rectangles. Written by mkF17.py. -/
namespace Go.Proofs.YtkmddhljfjjglaaDoor.G
open Go.RowKit Go.Shelf Go.Proofs.YtkmddhljfjjglaaDoorW.PrintWords Go.Proofs.YtkmddhljfjjglaaDoorW.PrintLast Go.Proofs.YtkmddhljfjjglaaDoorW.PrintMore

theorem far_any (w : World) : Calls Tryd.prog 31 #[] w fun e w' => e = .returned (.int .i64 1099511627776) ∧ w = w' := by
  go_enter Tryd.func31, Tryd.ntmps31
  go_wp2
  go_ret
  exact ⟨rfl, rfl⟩
def inB (lo n hi : Int) : Bool := decide (lo ≤ n) && decide (n ≤ hi)
theorem in_any (lo n hi : Int) (w : World) : Calls Tryd.prog 30 #[.int .i64 lo, .int .i64 n, .int .i64 hi] w fun e w' => e = .returned (.bool (inB lo n hi)) ∧ w = w' := by
  unfold inB
  by_cases h : lo ≤ n
  · have h' := decide_eq_true h
    rw [h']
    go_enter Tryd.func30, Tryd.ntmps30
    go_wp2
    go_ret
    exact ⟨by simp, rfl⟩
  · have h' := decide_eq_false h
    rw [h']
    go_enter Tryd.func30, Tryd.ntmps30
    go_wp2
    go_ret
    exact ⟨rfl, rfl⟩
def isR (r : S30) : Bool := inB (-1099511627776) r.f0 1099511627776 && (inB (-1099511627776) r.f1 1099511627776 && (inB 0 r.f2 1099511627776 && inB 0 r.f3 1099511627776))
theorem dr0 {w w' : World} (h : w = w') : Drawn0 w w' := by subst h; exact Drawn0.refl _
theorem far_d (w : World) : Calls Tryd.prog 31 #[] w fun e w' => e = .returned (.int .i64 1099511627776) ∧ Drawn0 w w' := (far_any w).mono fun _ _ h => ⟨h.1, dr0 h.2⟩
theorem in_d (lo n hi : Int) (w : World) : Calls Tryd.prog 30 #[.int .i64 lo, .int .i64 n, .int .i64 hi] w fun e w' => e = .returned (.bool (inB lo n hi)) ∧ Drawn0 w w' := (in_any lo n hi w).mono fun _ _ h => ⟨h.1, dr0 h.2⟩
set_option maxRecDepth 100000 in
set_option maxHeartbeats 4000000 in
theorem is_core (a b c d : Int) (w : World) (B : Bool) (p0 p1 p2 p3 : Bool) (h0 : inB (-1099511627776) a 1099511627776 = p0) (h1 : inB (-1099511627776) b 1099511627776 = p1) (h2 : inB 0 c 1099511627776 = p2) (h3 : inB 0 d 1099511627776 = p3) (hB : (p0 && (p1 && (p2 && p3))) = B) :
    Calls Tryd.prog 39 #[.agg #[.int .i64 a, .int .i64 b, .int .i64 c, .int .i64 d]] w fun e w' => e = .returned (.bool B) ∧ Below w.heap.size w w' := by
  have H0 := Aside0.mk (fun W => in_d (-1099511627776) a 1099511627776 W)
  have H1 := Aside0.mk (fun W => in_d (-1099511627776) b 1099511627776 W)
  have H2 := Aside0.mk (fun W => in_d 0 c 1099511627776 W)
  have H3 := Aside0.mk (fun W => in_d 0 d 1099511627776 W)
  rw [h0] at H0
  rw [h1] at H1
  rw [h2] at H2
  rw [h3] at H3
  clear h0 h1 h2 h3
  cases p0
  · subst hB
    go_enter Tryd.func39, Tryd.ntmps39
    go_wp2
    go_quiet (first | (go_at_call 31; refine (far_d _).mono ?_; rintro e w' ⟨rfl, ⟨nd, rfl⟩⟩; (try first | exact ⟨rfl, _, World.drewN_drewN _ _ _⟩ | exact ⟨rfl, _, Eq.trans (World.drewN_drewN _ _ _) (congrArg (World.drewN _) (Nat.add_assoc _ _ _))⟩)) | (go_at_call 30; (with_reducible refine (H0.out _).mono ?_); rintro e w' ⟨rfl, ⟨nd, rfl⟩⟩; (try first | exact ⟨rfl, _, World.drewN_drewN _ _ _⟩ | exact ⟨rfl, _, Eq.trans (World.drewN_drewN _ _ _) (congrArg (World.drewN _) (Nat.add_assoc _ _ _))⟩)) | (go_at_call 30; (with_reducible refine (H1.out _).mono ?_); rintro e w' ⟨rfl, ⟨nd, rfl⟩⟩; (try first | exact ⟨rfl, _, World.drewN_drewN _ _ _⟩ | exact ⟨rfl, _, Eq.trans (World.drewN_drewN _ _ _) (congrArg (World.drewN _) (Nat.add_assoc _ _ _))⟩)) | (go_at_call 30; (with_reducible refine (H2.out _).mono ?_); rintro e w' ⟨rfl, ⟨nd, rfl⟩⟩; (try first | exact ⟨rfl, _, World.drewN_drewN _ _ _⟩ | exact ⟨rfl, _, Eq.trans (World.drewN_drewN _ _ _) (congrArg (World.drewN _) (Nat.add_assoc _ _ _))⟩)) | (go_at_call 30; (with_reducible refine (H3.out _).mono ?_); rintro e w' ⟨rfl, ⟨nd, rfl⟩⟩; (try first | exact ⟨rfl, _, World.drewN_drewN _ _ _⟩ | exact ⟨rfl, _, Eq.trans (World.drewN_drewN _ _ _) (congrArg (World.drewN _) (Nat.add_assoc _ _ _))⟩)))
    all_goals go_wp2
    all_goals
      go_ret
      exact ⟨by first | rfl | simp, by repeat (first | exact Below.refl _ _ | apply below_alloc | apply pw_below_drewN)⟩
  cases p1
  · subst hB
    go_enter Tryd.func39, Tryd.ntmps39
    go_wp2
    go_quiet (first | (go_at_call 31; refine (far_d _).mono ?_; rintro e w' ⟨rfl, ⟨nd, rfl⟩⟩; (try first | exact ⟨rfl, _, World.drewN_drewN _ _ _⟩ | exact ⟨rfl, _, Eq.trans (World.drewN_drewN _ _ _) (congrArg (World.drewN _) (Nat.add_assoc _ _ _))⟩)) | (go_at_call 30; (with_reducible refine (H0.out _).mono ?_); rintro e w' ⟨rfl, ⟨nd, rfl⟩⟩; (try first | exact ⟨rfl, _, World.drewN_drewN _ _ _⟩ | exact ⟨rfl, _, Eq.trans (World.drewN_drewN _ _ _) (congrArg (World.drewN _) (Nat.add_assoc _ _ _))⟩)) | (go_at_call 30; (with_reducible refine (H1.out _).mono ?_); rintro e w' ⟨rfl, ⟨nd, rfl⟩⟩; (try first | exact ⟨rfl, _, World.drewN_drewN _ _ _⟩ | exact ⟨rfl, _, Eq.trans (World.drewN_drewN _ _ _) (congrArg (World.drewN _) (Nat.add_assoc _ _ _))⟩)) | (go_at_call 30; (with_reducible refine (H2.out _).mono ?_); rintro e w' ⟨rfl, ⟨nd, rfl⟩⟩; (try first | exact ⟨rfl, _, World.drewN_drewN _ _ _⟩ | exact ⟨rfl, _, Eq.trans (World.drewN_drewN _ _ _) (congrArg (World.drewN _) (Nat.add_assoc _ _ _))⟩)) | (go_at_call 30; (with_reducible refine (H3.out _).mono ?_); rintro e w' ⟨rfl, ⟨nd, rfl⟩⟩; (try first | exact ⟨rfl, _, World.drewN_drewN _ _ _⟩ | exact ⟨rfl, _, Eq.trans (World.drewN_drewN _ _ _) (congrArg (World.drewN _) (Nat.add_assoc _ _ _))⟩)))
    all_goals go_wp2
    all_goals
      go_ret
      exact ⟨by first | rfl | simp, by repeat (first | exact Below.refl _ _ | apply below_alloc | apply pw_below_drewN)⟩
  cases p2
  · subst hB
    go_enter Tryd.func39, Tryd.ntmps39
    go_wp2
    go_quiet (first | (go_at_call 31; refine (far_d _).mono ?_; rintro e w' ⟨rfl, ⟨nd, rfl⟩⟩; (try first | exact ⟨rfl, _, World.drewN_drewN _ _ _⟩ | exact ⟨rfl, _, Eq.trans (World.drewN_drewN _ _ _) (congrArg (World.drewN _) (Nat.add_assoc _ _ _))⟩)) | (go_at_call 30; (with_reducible refine (H0.out _).mono ?_); rintro e w' ⟨rfl, ⟨nd, rfl⟩⟩; (try first | exact ⟨rfl, _, World.drewN_drewN _ _ _⟩ | exact ⟨rfl, _, Eq.trans (World.drewN_drewN _ _ _) (congrArg (World.drewN _) (Nat.add_assoc _ _ _))⟩)) | (go_at_call 30; (with_reducible refine (H1.out _).mono ?_); rintro e w' ⟨rfl, ⟨nd, rfl⟩⟩; (try first | exact ⟨rfl, _, World.drewN_drewN _ _ _⟩ | exact ⟨rfl, _, Eq.trans (World.drewN_drewN _ _ _) (congrArg (World.drewN _) (Nat.add_assoc _ _ _))⟩)) | (go_at_call 30; (with_reducible refine (H2.out _).mono ?_); rintro e w' ⟨rfl, ⟨nd, rfl⟩⟩; (try first | exact ⟨rfl, _, World.drewN_drewN _ _ _⟩ | exact ⟨rfl, _, Eq.trans (World.drewN_drewN _ _ _) (congrArg (World.drewN _) (Nat.add_assoc _ _ _))⟩)) | (go_at_call 30; (with_reducible refine (H3.out _).mono ?_); rintro e w' ⟨rfl, ⟨nd, rfl⟩⟩; (try first | exact ⟨rfl, _, World.drewN_drewN _ _ _⟩ | exact ⟨rfl, _, Eq.trans (World.drewN_drewN _ _ _) (congrArg (World.drewN _) (Nat.add_assoc _ _ _))⟩)))
    all_goals go_wp2
    all_goals
      go_ret
      exact ⟨by first | rfl | simp, by repeat (first | exact Below.refl _ _ | apply below_alloc | apply pw_below_drewN)⟩
  subst hB
  go_enter Tryd.func39, Tryd.ntmps39
  go_wp2
  go_quiet (first | (go_at_call 31; refine (far_d _).mono ?_; rintro e w' ⟨rfl, ⟨nd, rfl⟩⟩; (try first | exact ⟨rfl, _, World.drewN_drewN _ _ _⟩ | exact ⟨rfl, _, Eq.trans (World.drewN_drewN _ _ _) (congrArg (World.drewN _) (Nat.add_assoc _ _ _))⟩)) | (go_at_call 30; (with_reducible refine (H0.out _).mono ?_); rintro e w' ⟨rfl, ⟨nd, rfl⟩⟩; (try first | exact ⟨rfl, _, World.drewN_drewN _ _ _⟩ | exact ⟨rfl, _, Eq.trans (World.drewN_drewN _ _ _) (congrArg (World.drewN _) (Nat.add_assoc _ _ _))⟩)) | (go_at_call 30; (with_reducible refine (H1.out _).mono ?_); rintro e w' ⟨rfl, ⟨nd, rfl⟩⟩; (try first | exact ⟨rfl, _, World.drewN_drewN _ _ _⟩ | exact ⟨rfl, _, Eq.trans (World.drewN_drewN _ _ _) (congrArg (World.drewN _) (Nat.add_assoc _ _ _))⟩)) | (go_at_call 30; (with_reducible refine (H2.out _).mono ?_); rintro e w' ⟨rfl, ⟨nd, rfl⟩⟩; (try first | exact ⟨rfl, _, World.drewN_drewN _ _ _⟩ | exact ⟨rfl, _, Eq.trans (World.drewN_drewN _ _ _) (congrArg (World.drewN _) (Nat.add_assoc _ _ _))⟩)) | (go_at_call 30; (with_reducible refine (H3.out _).mono ?_); rintro e w' ⟨rfl, ⟨nd, rfl⟩⟩; (try first | exact ⟨rfl, _, World.drewN_drewN _ _ _⟩ | exact ⟨rfl, _, Eq.trans (World.drewN_drewN _ _ _) (congrArg (World.drewN _) (Nat.add_assoc _ _ _))⟩)))
  all_goals go_wp2
  all_goals
    go_ret
    exact ⟨by first | rfl | simp, by repeat (first | exact Below.refl _ _ | apply below_alloc | apply pw_below_drewN)⟩
def gutterref18_Is.f (a0_0 : Int) (a0_1 : Int) (a0_2 : Int) (a0_3 : Int) : Option (Bool) := some (isR ⟨a0_0, a0_1, a0_2, a0_3⟩)
theorem gutterref18_Is.calls (a0_0 : Int) (a0_1 : Int) (a0_2 : Int) (a0_3 : Int) (r : Bool) (w : World) (h : gutterref18_Is.f a0_0 a0_1 a0_2 a0_3 = some r) :
    Calls Tryd.prog 39 #[.agg #[.int .i64 a0_0, .int .i64 a0_1, .int .i64 a0_2, .int .i64 a0_3]] w fun e w' => e = .returned (.bool r) ∧ Below w.heap.size w w' :=
  is_core a0_0 a0_1 a0_2 a0_3 w r _ _ _ _ rfl rfl rfl rfl (Option.some.inj h)
end Go.Proofs.YtkmddhljfjjglaaDoor.G
