/- Chapter 6: the columns of a measure. Written by mkF5.py. -/
import Derived.Test.YtjaoaakljcnmeaaDoorF4
import Derived.Scope
import Derived.ScopeJumps
import Derived.Deep.MidRow
namespace Go.Proofs.YtjaoaakljcnmeaaDoor.G
open Go.RowKit Go.Maps Go.Proofs.YtjaoaakljcnmeaaDoorW.PrintWords Go.Proofs.YtjaoaakljcnmeaaDoorW.PrintLast Go.Proofs.YtjaoaakljcnmeaaDoorW.PrintMore

theorem cells47 (C : Array Value) (hM : C.size = 17) : (Tryd.prog.info? 47).map (·.size) = some C.size := by rw [hM]; kernel_rfl
theorem load47 (W : World) (b : Nat) (M : Array Value) (hM : M.size = 17) (hb : W.heap[b]? = some (.cells M 47 (0, 0))) : (Instr.loadAt 47 (.pointer (some ⟨b, 0, none⟩))).run Tryd.prog W = .ok (.agg M) W := by
  have h := run_loadAt_mid (P := Tryd.prog) W b 0 47 (M.extract 0 (0 + 17)).toList _ (World.rangeAt_of_block hb 0 17) Tryd.underlying47 rfl (by rw [Array.length_toList, Array.size_extract, hM]; kernel_rfl)
  have e : M.extract 0 17 = M := by rw [← hM]; simp
  simp only [Array.toArray_toList, Nat.zero_add] at h
  rw [h, e]
theorem load23_at {ops : Array Oper} {rest : List Oper} {o : Oper} {a : Act} {W : World} {Q : Exit → Act → World → Prop} (hgd : o.guard = none) (x : Operand) (ho : o.op = .load 23 x) (b : Nat) (hx : a.eval x = .pointer (some ⟨b, 0, none⟩))
    (M S : Array Value) (hM : M.size = 17) (hS : M.extract 0 16 = S) (hb : W.heap[b]? = some (.cells M 47 (0, 0))) (h : wpList Tryd.prog ops Q rest (a.put o.dst (.agg S)) W) : wpList Tryd.prog ops Q (o :: rest) a W := by
  refine wpList_load_mid hgd 23 x ho b 0 hx (M.extract 0 (0 + 16)).toList _ (World.rangeAt_of_block hb 0 16) Tryd.underlying23 rfl (by rw [Array.length_toList, Array.size_extract, hM]; kernel_rfl) ?_
  simp only [Array.toArray_toList, Nat.zero_add]
  rw [hS]
  exact h
theorem load47_at {ops : Array Oper} {rest : List Oper} {o : Oper} {a : Act} {W : World} {Q : Exit → Act → World → Prop} (hgd : o.guard = none) (x : Operand) (ho : o.op = .load 47 x) (b : Nat) (hx : a.eval x = .pointer (some ⟨b, 0, none⟩))
    (M : Array Value) (hM : M.size = 17) (hb : W.heap[b]? = some (.cells M 47 (0, 0))) (h : wpList Tryd.prog ops Q rest (a.put o.dst (.agg M)) W) : wpList Tryd.prog ops Q (o :: rest) a W :=
  wpList_load_row hgd 47 x ho b hx 47 M (0, 0) _ hb Tryd.underlying47 rfl (cells47 M hM) h
def GM (w : World) (M : Array Value) (W : World) : Prop := W.heap[w.heap.size]? = some (.cells M 47 (0, 0)) ∧ W.heap[w.heap.size + 1]? = some (.cells #[.int .i64 0, .int .i64 0] 41 (0, 0)) ∧ Below w.heap.size w W
theorem GM.below {w W W1 : World} {M : Array Value} (h : GM w M W) (hb : Below W.heap.size W W1) : GM w M W1 := ⟨blk_below h.1 hb, blk_below h.2.1 hb, below_step h.2.2 hb⟩
theorem GM.start (w : World) (M : Array Value) : GM w M (((w.alloc (.cells M 47)).alloc (.cells #[.int .i64 0, .int .i64 0] 41)).alloc (.map #[] 0)) := by
  have e : (w.alloc (.cells M 47)).heap.size = w.heap.size + 1 := by simp
  exact ⟨blk_alloc (blk_alloc (blk_new w _) _) _, blk_alloc (e ▸ blk_new (w.alloc (.cells M 47)) (.cells #[.int .i64 0, .int .i64 0] 41)) _, below_alloc (below_alloc (below_alloc (Below.refl _ _) _) _) _⟩
set_option maxRecDepth 1000000 in
set_option maxHeartbeats 4000000 in
theorem used_wrong (M S : Array Value) (w : World) (hM : M.size = 17) (hS : M.extract 0 16 = S) (hR : ∀ w' : World, Calls Tryd.prog 29 #[.agg S] w' fun e w'' => e = .returned (.bool false) ∧ Below w'.heap.size w' w'') :
    Calls Tryd.prog 21 #[.agg M] w fun e w' => e = .returned (.tuple #[.agg #[.int .i64 0, .int .i64 0], .iface 54 (.agg #[.int .i64 40])]) ∧ Below w.heap.size w w' := by
  have hmm := @run_makeMap Tryd.prog
  have G0 := Aside0.mk (GM.start w M)
  have HR := Aside0.mk hR
  have HM := Aside0.mk hM
  have HS := Aside0.mk hS
  clear hR hM hS
  go_enter Tryd.func21, Tryd.ntmps21
  go_wp2_with fail
  refine wp_scope_jumps 0 (fun a' w' => ∃ u0 u1 u3 u4 u6 u7 u8 u9 u10 u11 u12 u13 u14 u15 u16 u17 u18 u19 u20 u21 u22 u23 u24 u25 u26 u27 u28 u29 u30 u31 u32 u33 u34 u35 u36 u37 u38 u39 u40 u41 u42 u43 u44 u45 u46 u47 u48 u49 u50 u51 u52 u53 u54 u55 u56 u57 u58 u59 u60 u61 u62 u63 u64 u65 u66 u67 u68 u69 u70 u71 u72 u73 : Value, a' = { tmps := #[u0, u1, .pointer (some ⟨w.heap.size + 1, 0, none⟩), u3, u4, .iface 54 (.agg #[.int .i64 40]), u6, u7, u8, u9, u10, u11, u12, u13, u14, u15, u16, u17, u18, u19, u20, u21, u22, u23, u24, u25, u26, u27, u28, u29, u30, u31, u32, u33, u34, u35, u36, u37, u38, u39, u40, u41, u42, u43, u44, u45, u46, u47, u48, u49, u50, u51, u52, u53, u54, u55, u56, u57, u58, u59, u60, u61, u62, u63, u64, u65, u66, u67, u68, u69, u70, u71, u72, u73], defers := [] } ∧ Aside0 (w'.heap[w.heap.size + 1]? = some (.cells #[.int .i64 0, .int .i64 0] 41 (0, 0))) ∧ Aside0 (Below w.heap.size w w')) (fun _ _ => 0) rfl ?_ ?_
  · go_wp2_with (first | (refine load23_at rfl _ rfl w.heap.size rfl M S HM.out HS.out G0.out.1 ?_) | (go_at_call 29; refine (HR.out _).mono ?_; rintro e w1 ⟨rfl, hb⟩; have G1 := Aside0.mk (G0.out.below hb); clear hb))
    go_step3
    exact ⟨rfl, _, _, _, _, _, _, _, _, _, _, _, _, _, _, _, _, _, _, _, _, _, _, _, _, _, _, _, _, _, _, _, _, _, _, _, _, _, _, _, _, _, _, _, _, _, _, _, _, _, _, _, _, _, _, _, _, _, _, _, _, _, _, _, _, _, _, _, _, _, _, _, _, rfl, ⟨G1.out.2.1⟩, ⟨G1.out.2.2⟩⟩
  · rintro a1 w1 ⟨u0, u1, u3, u4, u6, u7, u8, u9, u10, u11, u12, u13, u14, u15, u16, u17, u18, u19, u20, u21, u22, u23, u24, u25, u26, u27, u28, u29, u30, u31, u32, u33, u34, u35, u36, u37, u38, u39, u40, u41, u42, u43, u44, u45, u46, u47, u48, u49, u50, u51, u52, u53, u54, u55, u56, u57, u58, u59, u60, u61, u62, u63, u64, u65, u66, u67, u68, u69, u70, u71, u72, u73, rfl, hK, hB⟩
    have c0 : w1.cell? ⟨w.heap.size + 1, 0, none⟩ = some (.int .i64 0) := (blk_cell hK.out 0).trans rfl
    have c1 : w1.cell? ⟨w.heap.size + 1, 1, none⟩ = some (.int .i64 0) := (blk_cell hK.out 1).trans rfl
    have f0 := blk_frozen hK.out 0
    have f1 := blk_frozen hK.out 1
    clear hmm
    go_wp2
    dsimp only [Exit.jump]
    have k1 := blk_put hK.out 0 (.int .i64 0) (cs' := #[.int .i64 0, .int .i64 0]) rfl
    have k2 := blk_put k1 1 (.int .i64 0) (cs' := #[.int .i64 0, .int .i64 0]) rfl
    refine bodyPost_ret (results_ct rfl _ _ (w.heap.size + 1) 41 #[.int .i64 0, .int .i64 0] (0, 0) _ rfl k2 Tryd.underlying41 rfl (by kernel_rfl)) rfl ?_
    exact ⟨rfl, (hB.out.setCell (p := ⟨w.heap.size + 1, 0, none⟩) (by show w.heap.size ≤ w.heap.size + 1; omega) _).setCell (p := ⟨w.heap.size + 1, 1, none⟩) (by show w.heap.size ≤ w.heap.size + 1; omega) _⟩
set_option maxRecDepth 1000000 in
set_option maxHeartbeats 4000000 in
theorem used_plain (M S : Array Value) (w : World) (hM : M.size = 17) (hS : M.extract 0 16 = S) (hR : ∀ w' : World, Calls Tryd.prog 29 #[.agg S] w' fun e w'' => e = .returned (.bool true) ∧ Below w'.heap.size w' w'')
    (hQ : ∀ w' : World, Calls Tryd.prog 30 #[.agg S] w' fun e w'' => e = .returned (.bool false) ∧ Below w'.heap.size w' w'') :
    Calls Tryd.prog 21 #[.agg M] w fun e w' => e = .returned (.tuple #[.agg #[.int .i64 0, .int .i64 0], .iface 54 (.agg #[.int .i64 40])]) ∧ Below w.heap.size w w' := by
  have hmm := @run_makeMap Tryd.prog
  have G0 := Aside0.mk (GM.start w M)
  have HR := Aside0.mk hR
  have HM := Aside0.mk hM
  have HS := Aside0.mk hS
  have HQ := Aside0.mk hQ
  clear hR hM hS hQ
  go_enter Tryd.func21, Tryd.ntmps21
  go_wp2_with fail
  refine wp_scope_jumps 0 (fun a' w' => ∃ u0 u1 u3 u4 u6 u7 u8 u9 u10 u11 u12 u13 u14 u15 u16 u17 u18 u19 u20 u21 u22 u23 u24 u25 u26 u27 u28 u29 u30 u31 u32 u33 u34 u35 u36 u37 u38 u39 u40 u41 u42 u43 u44 u45 u46 u47 u48 u49 u50 u51 u52 u53 u54 u55 u56 u57 u58 u59 u60 u61 u62 u63 u64 u65 u66 u67 u68 u69 u70 u71 u72 u73 : Value, a' = { tmps := #[u0, u1, .pointer (some ⟨w.heap.size + 1, 0, none⟩), u3, u4, .iface 54 (.agg #[.int .i64 40]), u6, u7, u8, u9, u10, u11, u12, u13, u14, u15, u16, u17, u18, u19, u20, u21, u22, u23, u24, u25, u26, u27, u28, u29, u30, u31, u32, u33, u34, u35, u36, u37, u38, u39, u40, u41, u42, u43, u44, u45, u46, u47, u48, u49, u50, u51, u52, u53, u54, u55, u56, u57, u58, u59, u60, u61, u62, u63, u64, u65, u66, u67, u68, u69, u70, u71, u72, u73], defers := [] } ∧ Aside0 (w'.heap[w.heap.size + 1]? = some (.cells #[.int .i64 0, .int .i64 0] 41 (0, 0))) ∧ Aside0 (Below w.heap.size w w')) (fun _ _ => 0) rfl ?_ ?_
  · go_wp2_with (first | (refine load23_at rfl _ rfl w.heap.size rfl M S HM.out HS.out G0.out.1 ?_) | (refine gate_guard (by rfl) ?_; refine load23_at rfl _ rfl w.heap.size rfl M S HM.out HS.out G1.out.1 ?_) | (go_at_call 29; refine (HR.out _).mono ?_; rintro e w1 ⟨rfl, hb⟩; have G1 := Aside0.mk (G0.out.below hb); clear hb) | (go_at_call 30; refine (HQ.out _).mono ?_; rintro e w2 ⟨rfl, hb⟩; have G2 := Aside0.mk (G1.out.below hb); clear hb))
    go_step3
    exact ⟨rfl, _, _, _, _, _, _, _, _, _, _, _, _, _, _, _, _, _, _, _, _, _, _, _, _, _, _, _, _, _, _, _, _, _, _, _, _, _, _, _, _, _, _, _, _, _, _, _, _, _, _, _, _, _, _, _, _, _, _, _, _, _, _, _, _, _, _, _, _, _, _, _, _, rfl, ⟨G2.out.2.1⟩, ⟨G2.out.2.2⟩⟩
  · rintro a1 w1 ⟨u0, u1, u3, u4, u6, u7, u8, u9, u10, u11, u12, u13, u14, u15, u16, u17, u18, u19, u20, u21, u22, u23, u24, u25, u26, u27, u28, u29, u30, u31, u32, u33, u34, u35, u36, u37, u38, u39, u40, u41, u42, u43, u44, u45, u46, u47, u48, u49, u50, u51, u52, u53, u54, u55, u56, u57, u58, u59, u60, u61, u62, u63, u64, u65, u66, u67, u68, u69, u70, u71, u72, u73, rfl, hK, hB⟩
    have c0 : w1.cell? ⟨w.heap.size + 1, 0, none⟩ = some (.int .i64 0) := (blk_cell hK.out 0).trans rfl
    have c1 : w1.cell? ⟨w.heap.size + 1, 1, none⟩ = some (.int .i64 0) := (blk_cell hK.out 1).trans rfl
    have f0 := blk_frozen hK.out 0
    have f1 := blk_frozen hK.out 1
    clear hmm
    go_wp2
    dsimp only [Exit.jump]
    have k1 := blk_put hK.out 0 (.int .i64 0) (cs' := #[.int .i64 0, .int .i64 0]) rfl
    have k2 := blk_put k1 1 (.int .i64 0) (cs' := #[.int .i64 0, .int .i64 0]) rfl
    refine bodyPost_ret (results_ct rfl _ _ (w.heap.size + 1) 41 #[.int .i64 0, .int .i64 0] (0, 0) _ rfl k2 Tryd.underlying41 rfl (by kernel_rfl)) rfl ?_
    exact ⟨rfl, (hB.out.setCell (p := ⟨w.heap.size + 1, 0, none⟩) (by show w.heap.size ≤ w.heap.size + 1; omega) _).setCell (p := ⟨w.heap.size + 1, 1, none⟩) (by show w.heap.size ≤ w.heap.size + 1; omega) _⟩
set_option maxRecDepth 1000000 in
set_option maxHeartbeats 4000000 in
theorem used_wide (M S : Array Value) (av : Int) (w : World) (hM : M.size = 17) (hS : M.extract 0 16 = S) (hR : ∀ w' : World, Calls Tryd.prog 29 #[.agg S] w' fun e w'' => e = .returned (.bool true) ∧ Below w'.heap.size w' w'')
    (hQ : ∀ w' : World, Calls Tryd.prog 30 #[.agg S] w' fun e w'' => e = .returned (.bool true) ∧ Below w'.heap.size w' w'') (hav : M[16]? = some (.int .i64 av)) (hz : sizB av = false) :
    Calls Tryd.prog 21 #[.agg M] w fun e w' => e = .returned (.tuple #[.agg #[.int .i64 0, .int .i64 0], .iface 54 (.agg #[.int .i64 60])]) ∧ Below w.heap.size w w' := by
  have hmm := @run_makeMap Tryd.prog
  have G0 := Aside0.mk (GM.start w M)
  have HR := Aside0.mk hR
  have HM := Aside0.mk hM
  have HS := Aside0.mk hS
  have HQ := Aside0.mk hQ
  have HZ := Aside0.mk (show [av].all sizB = false by simp [hz])
  have HAV := Aside0.mk hav
  clear hR hM hS hQ hz hav
  go_enter Tryd.func21, Tryd.ntmps21
  go_wp2_with fail
  refine wp_scope_jumps 0 (fun a' w' => ∃ u0 u1 u3 u4 u6 u7 u8 u9 u10 u11 u12 u13 u14 u15 u16 u17 u18 u19 u20 u21 u22 u23 u24 u25 u26 u27 u28 u29 u30 u31 u32 u33 u34 u35 u36 u37 u38 u39 u40 u41 u42 u43 u44 u45 u46 u47 u48 u49 u50 u51 u52 u53 u54 u55 u56 u57 u58 u59 u60 u61 u62 u63 u64 u65 u66 u67 u68 u69 u70 u71 u72 u73 : Value, a' = { tmps := #[u0, u1, .pointer (some ⟨w.heap.size + 1, 0, none⟩), u3, u4, .iface 54 (.agg #[.int .i64 60]), u6, u7, u8, u9, u10, u11, u12, u13, u14, u15, u16, u17, u18, u19, u20, u21, u22, u23, u24, u25, u26, u27, u28, u29, u30, u31, u32, u33, u34, u35, u36, u37, u38, u39, u40, u41, u42, u43, u44, u45, u46, u47, u48, u49, u50, u51, u52, u53, u54, u55, u56, u57, u58, u59, u60, u61, u62, u63, u64, u65, u66, u67, u68, u69, u70, u71, u72, u73], defers := [] } ∧ Aside0 (w'.heap[w.heap.size + 1]? = some (.cells #[.int .i64 0, .int .i64 0] 41 (0, 0))) ∧ Aside0 (Below w.heap.size w w')) (fun _ _ => 0) rfl ?_ ?_
  · go_wp2_with (first | (refine load23_at rfl _ rfl w.heap.size rfl M S HM.out HS.out G0.out.1 ?_) | (refine gate_guard (by rfl) ?_; refine load23_at rfl _ rfl w.heap.size rfl M S HM.out HS.out G1.out.1 ?_) | (go_at_call 29; refine (HR.out _).mono ?_; rintro e w1 ⟨rfl, hb⟩; have G1 := Aside0.mk (G0.out.below hb); clear hb) | (go_at_call 30; refine (HQ.out _).mono ?_; rintro e w2 ⟨rfl, hb⟩; have G2 := Aside0.mk (G1.out.below hb); have cav := Aside0.mk ((blk_cell G2.out.1 16).trans HAV.out); have c16 := cav.out; clear hb) | (go_at_call 24; refine (sizes_any _ 1 [av] _ (fresh_C w2 2 [av] (by simp)) (Nat.le_refl _) (by simp)).mono ?_; rintro e w3 ⟨rfl, hb⟩; rw [HZ.out]; have G3 := Aside0.mk ((G2.out.below (below_alloc (Below.refl _ _) _)).below hb); clear hb c16))
    go_step3
    exact ⟨rfl, _, _, _, _, _, _, _, _, _, _, _, _, _, _, _, _, _, _, _, _, _, _, _, _, _, _, _, _, _, _, _, _, _, _, _, _, _, _, _, _, _, _, _, _, _, _, _, _, _, _, _, _, _, _, _, _, _, _, _, _, _, _, _, _, _, _, _, _, _, _, _, _, rfl, ⟨G3.out.2.1⟩, ⟨G3.out.2.2⟩⟩
  · rintro a1 w1 ⟨u0, u1, u3, u4, u6, u7, u8, u9, u10, u11, u12, u13, u14, u15, u16, u17, u18, u19, u20, u21, u22, u23, u24, u25, u26, u27, u28, u29, u30, u31, u32, u33, u34, u35, u36, u37, u38, u39, u40, u41, u42, u43, u44, u45, u46, u47, u48, u49, u50, u51, u52, u53, u54, u55, u56, u57, u58, u59, u60, u61, u62, u63, u64, u65, u66, u67, u68, u69, u70, u71, u72, u73, rfl, hK, hB⟩
    have c0 : w1.cell? ⟨w.heap.size + 1, 0, none⟩ = some (.int .i64 0) := (blk_cell hK.out 0).trans rfl
    have c1 : w1.cell? ⟨w.heap.size + 1, 1, none⟩ = some (.int .i64 0) := (blk_cell hK.out 1).trans rfl
    have f0 := blk_frozen hK.out 0
    have f1 := blk_frozen hK.out 1
    clear hmm
    go_wp2
    dsimp only [Exit.jump]
    have k1 := blk_put hK.out 0 (.int .i64 0) (cs' := #[.int .i64 0, .int .i64 0]) rfl
    have k2 := blk_put k1 1 (.int .i64 0) (cs' := #[.int .i64 0, .int .i64 0]) rfl
    refine bodyPost_ret (results_ct rfl _ _ (w.heap.size + 1) 41 #[.int .i64 0, .int .i64 0] (0, 0) _ rfl k2 Tryd.underlying41 rfl (by kernel_rfl)) rfl ?_
    exact ⟨rfl, (hB.out.setCell (p := ⟨w.heap.size + 1, 0, none⟩) (by show w.heap.size ≤ w.heap.size + 1; omega) _).setCell (p := ⟨w.heap.size + 1, 1, none⟩) (by show w.heap.size ≤ w.heap.size + 1; omega) _⟩
end Go.Proofs.YtjaoaakljcnmeaaDoor.G
