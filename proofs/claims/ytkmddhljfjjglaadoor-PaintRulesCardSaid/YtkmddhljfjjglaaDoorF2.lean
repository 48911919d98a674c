/- Chapter 18: a builder of the call's own takes bytes and strings. Written by mkF2.py. -/
import Derived.Test.YtkmddhljfjjglaaDoorF1
import Derived.Test.YtkmddhljfjjglaaDoorS
import Derived.Lib.Builder
import Derived.Lib.AppendStr
import Derived.Lib.UnsafeStr
import Derived.Lib.Strings
import Derived.Lib.Walk
import Derived.Laws.Externs
import Derived.RangeFuncBox
namespace Go.Proofs.YtkmddhljfjjglaaDoor.G
open Go.RowKit Go.Proofs.YtkmddhljfjjglaaDoorW.PrintWords Go.Proofs.YtkmddhljfjjglaaDoorW.PrintLast Go.Proofs.YtkmddhljfjjglaaDoorW.PrintMore

/-- Whatever is neither the builder's block nor a row of bytes lies as it lay. -/
def KT (b : Nat) (W W' : World) : Prop := ∀ k o, W.heap[k]? = some o → k ≠ b → (∀ cs, o ≠ .cells cs 5 (0, 0)) → W'.heap[k]? = some o
theorem KT.refl (b : Nat) (W : World) : KT b W W := fun _ _ h _ _ => h
theorem KT.trans {b : Nat} {A B C : World} (h : KT b A B) (g : KT b B C) : KT b A C := fun k o hk hb ho => g k o (h k o hk hb ho) hb ho
theorem KT.set {b i : Nat} {v : Value} (W : World) : KT b W (W.setCell ⟨b, i, none⟩ v) := fun k o h hb _ => by
  rw [Below.heap_setCell _ _ _ _ (by first | exact hb | exact fun e => hb e.symm)]
  exact h
theorem KT.grown {b B n : Nat} {v : Value} {xs : List Value} {W W' : World} (hg : W.grownBy W' v.ownBlock) (ho : W.ownsRow B 5 1 v n xs) : KT b W W' := fun k o h _ hno => by
  refine (hg.block k (blk_lt h) (fun e => ?_)).trans h
  obtain ⟨cs, hc⟩ := own_typed ho k e.symm
  rw [h] at hc
  exact hno cs (Option.some.inj hc)
theorem KT.alloc {b : Nat} (W : World) (o : Obj) : KT b W (W.alloc o) := fun _ _ h _ _ => blk_alloc h o
theorem bldSize : (Tryd.prog.info? 80).map (·.size) = some 2 := by kernel_rfl
theorem bldLies : liesAt Tryd.prog Tryd.prog.depth 80 (2 / Tryd.prog.cellsOf 80) 0 80 1 = true := by kernel_rfl
set_option maxHeartbeats 1000000 in
set_option maxRecDepth 100000 in
theorem check_any (B b : Nat) (bs : List Value) (w : World) (h : Lib.IsBuilder 80 5 B b bs w) :
    Calls Tryd.prog 61 #[.pointer (some ⟨b, 0, none⟩)] w fun e w' => e = .returned (.tuple #[]) ∧ Lib.BuilderAt 80 5 B b (.pointer (some ⟨b, 0, none⟩)) bs w' ∧ Below B w w' ∧ KT b w w' := by
  obtain ⟨j, hj, hjs⟩ := Option.map_eq_some_iff.1 bldSize
  rcases h with h | h
  · have h0 := h.cell0
    have hsh := h.shape
    have hfz := h.frozen0
    have HU := Aside0.mk (h.used (.pointer (some ⟨b, 0, none⟩)))
    have HB := Aside0.mk ((Below.refl B w).setCell (p := ⟨b, 0, none⟩) h.1 (.pointer (some ⟨b, 0, none⟩)))
    clear h
    go_enter Tryd.func61, Tryd.ntmps61
    go_wp2
    rw [Lib.run_to_unsafe w ⟨b, 0, none⟩ Tryd.underlying77 Tryd.underlying107 hj (by rw [hjs]; decide) hsh (Nat.zero_lt_succ 1)]
    simp only [Result.andThen]
    rw [Oper.upon_value]
    go_wp2
    rw [run_callFunc_extern Tryd.func67 (by kernel_rfl) (by kernel_rfl) (by kernel_rfl) (e := Extern.AbiNoEscape.same) (by kernel_rfl)]
    rw [Lib.run_noEscape]
    simp only [Result.andThen]
    rw [Oper.upon_value]
    go_wp2
    rw [Lib.run_from_unsafe w ⟨b, 0, none⟩ Tryd.underlying107 Tryd.underlying77 hj hsh bldLies]
    simp only [Result.andThen]
    rw [Oper.upon_value]
    go_wp2
    go_end0
    exact ⟨rfl, HU.out, HB.out, KT.set _⟩
  · have h0 := h.cell0
    have HU := Aside0.mk h
    clear h
    go_enter Tryd.func61, Tryd.ntmps61
    go_wp2
    rw [Lib.run_neq_ptr_same w _ Tryd.underlying77 hj]
    go_wp2
    go_end0
    exact ⟨rfl, HU.out, Below.refl B _, KT.refl _ _⟩
/-- The builder's block, behind an append to its row. -/
theorem bld_cells {B b : Nat} {p : Value} {bs : List Value} {w : World} (h : Lib.BuilderAt 80 5 B b p bs w) :
    ∃ v, w.heap[b]? = some (.cells #[p, v] 80 (0, 0)) ∧ w.ownsRow B 5 1 v bs.length bs ∧ B ≤ b ∧ v.ownBlock ≠ some b := by
  obtain ⟨hB, v, hbk, hown, hne⟩ := h
  exact ⟨v, hbk, hown, hB, hne⟩
set_option maxHeartbeats 2000000 in
set_option maxRecDepth 100000 in
theorem writeString_any (B b : Nat) (bs : List Value) (s : ByteArray) (w : World) (h : Lib.IsBuilder 80 5 B b bs w) (hlen : bs.length + s.size ≤ 140737488355328) (hBw : B ≤ w.heap.size) :
    Calls Tryd.prog 47 #[.pointer (some ⟨b, 0, none⟩), .string s] w fun e w' => e = .returned (.tuple #[.int .i64 s.size, .nilIface]) ∧ Lib.IsBuilder 80 5 B b (bs ++ Lib.strCells s) w' ∧ Below B w w' ∧ KT b w w' := by
  obtain ⟨i0, hi, hz0, hz1, hz2⟩ := info_parts info5
  have HC := Aside0.mk (check_any B b bs w h)
  clear h
  go_enter Tryd.func47, Tryd.ntmps47
  go_wp2_with (first | (go_at_call 61; refine HC.out.mono ?_; rintro e w1 ⟨rfl, h1, hb1, hk1⟩; have HB1 := Aside0.mk hb1; have HK1 := Aside0.mk hk1; clear hb1 hk1; obtain ⟨v, hbk, hown, hB, hne⟩ := bld_cells h1; clear h1; have d1 : w1.cell? ⟨b, 1, none⟩ = some v := (blk_cell hbk 1).trans rfl; have hlt := blk_lt hbk; have hsz := HB1.out.size; have HK := Aside0.mk hbk; have HO := Aside0.mk hown; have HN := Aside0.mk hne; clear hbk hown hne) | (at_builtin; refine Lib.wpList_append_own_string _ rfl _ _ 78 9 rfl B 5 i0 Tryd.underlying78 Tryd.underlying9 hi hz0 hz1 hz2 _ _ _ rfl HO.out s rfl (by unfold maxLen; omega) (by omega) (by omega) ?_; intro v' w2 hown' hgrow _; have HO2 := Aside0.mk hown'; have HG2 := Aside0.mk hgrow; have HK2 := Aside0.mk ((hgrow.block b hlt (fun e => HN.out e.symm)).trans HK.out); have e1 : w2.cell? ⟨b, 1, none⟩ = some v := (blk_cell HK2.out 1).trans rfl; have f1 := blk_frozen HK2.out 1; have hv' : ∃ ao n' cap, v' = .slice ao n' cap := (by rcases hown'.2 with ⟨hv, _⟩ | ⟨g, cap, cur, hv, _⟩ <;> exact ⟨_, _, _, hv⟩); clear hown' hgrow; obtain ⟨ao, n', cap, rfl⟩ := hv'))
  go_ret2
  refine ⟨rfl, Or.inr ?_, ?_, ?_⟩
  · exact Lib.BuilderAt.put (T := 80) (e := 5) hB HK2.out (bs' := bs ++ Lib.strCells s) (by simpa [Lib.strCells_length] using HO2.out) (by decide)
  · exact (HB1.out.grown HG2.out (by omega) (fun k hk => (HO.out.lt k hk).1)).setCell (p := ⟨b, 1, none⟩) hB _
  · exact (HK1.out.trans (KT.grown HG2.out HO.out)).trans (KT.set _)
set_option maxHeartbeats 2000000 in
set_option maxRecDepth 100000 in
theorem writeByte_any (B b : Nat) (bs : List Value) (c : Int) (w : World) (h : Lib.IsBuilder 80 5 B b bs w) (hlen : bs.length + 1 ≤ 140737488355328) (hBw : B ≤ w.heap.size) :
    Calls Tryd.prog 49 #[.pointer (some ⟨b, 0, none⟩), .int .u8 c] w fun e w' => e = .returned .nilIface ∧ Lib.IsBuilder 80 5 B b (bs ++ [.int .u8 c]) w' ∧ Below B w w' ∧ KT b w w' := by
  obtain ⟨i0, hi, hz0, hz1, hz2⟩ := info_parts info5
  have HC := Aside0.mk (check_any B b bs w h)
  clear h
  go_enter Tryd.func49, Tryd.ntmps49
  go_wp2_with (first | (go_at_call 61; refine HC.out.mono ?_; rintro e w1 ⟨rfl, h1, hb1, hk1⟩; have HB1 := Aside0.mk hb1; have HK1 := Aside0.mk hk1; clear hb1 hk1; obtain ⟨v, hbk, hown, hB, hne⟩ := bld_cells h1; clear h1; have d1 : w1.cell? ⟨b, 1, none⟩ = some v := (blk_cell hbk 1).trans rfl; have hlt := blk_lt hbk; have hsz := HB1.out.size; have HK := Aside0.mk hbk; have HO := Aside0.mk hown; have HN := Aside0.mk hne; clear hbk hown hne) | (at_builtin; refine wpList_append_own _ rfl _ _ 78 rfl B 5 i0 (.int .u8 0) 1 1 Tryd.underlying78 hi hz0 hz1 hz2 rfl (by decide) _ _ _ rfl (HO.out.alloc _) ⟨_, 0, none⟩ 1 1 [.int .u8 c] rfl rfl (cell_one_new _ _ _) (by simp [Value.oneCell']) (by unfold maxLen; omega) (by omega) (by simp; omega) ?_; intro v' w2 hown' hgrow _; have HO2 := Aside0.mk hown'; have HG2 := Aside0.mk hgrow; have HK2 := Aside0.mk (blk_grown (blk_alloc HK.out _) hgrow (fun e => HN.out e.symm)); have e1 : w2.cell? ⟨b, 1, none⟩ = some v := (blk_cell HK2.out 1).trans rfl; have f1 := blk_frozen HK2.out 1; have hv' : ∃ g cap, v' = .slice (some ⟨g, 0, none⟩) (bs.length + 1) cap := ownsRow_succ hown'; clear hown' hgrow; obtain ⟨g, cap, rfl⟩ := hv'))
  go_ret
  refine ⟨rfl, Or.inr ?_, ?_, ?_⟩
  · exact Lib.BuilderAt.put (T := 80) (e := 5) hB HK2.out (bs' := bs ++ [.int .u8 c]) (by simpa using HO2.out) (by decide)
  · exact ((HB1.out.alloc (by omega) _).grown HG2.out (by simp; omega) (fun k hk => (HO.out.lt k hk).1)).setCell (p := ⟨b, 1, none⟩) hB _
  · exact ((HK1.out.trans (KT.alloc _ _)).trans (KT.grown HG2.out (HO.out.alloc _))).trans (KT.set _)
end Go.Proofs.YtkmddhljfjjglaaDoor.G
