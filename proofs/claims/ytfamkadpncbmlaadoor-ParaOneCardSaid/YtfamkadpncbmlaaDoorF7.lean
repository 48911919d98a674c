/- Chapter 9: Breaks. -/
import Derived.Test.YtfamkadpncbmlaaDoorF6
namespace Go.Proofs.YtfamkadpncbmlaaDoor.G
open Go.RowKit Go.Shelf Go.Proofs.YtfamkadpncbmlaaDoorW.PrintWords Go.Proofs.YtfamkadpncbmlaaDoorW.PrintLast Go.Proofs.YtfamkadpncbmlaaDoorW.PrintMore
attribute [local go_sem] max2_int min2_int

theorem row_ne {w : World} {base : Nat} {e : TypeId} {size n g : Nat} {v : Value} {xs : List Value} {o : Obj} (h : w.ownsRow base e size v n xs) (hb : w.heap[g]? = some o) (hno : ∀ cs, o ≠ .cells cs e (0, 0)) : some g ≠ v.ownBlock := by
  intro hk
  obtain ⟨cs, hc⟩ := own_typed h g hk.symm
  rw [hb] at hc
  exact hno cs (Option.some.inj hc)
/-- What an append leaves of another block, and of what lay ahead. -/
theorem app_blk {w w4 : World} {base : Nat} {e : TypeId} {size n g : Nat} {v : Value} {xs : List Value} {o tmp : Obj} (h : w.ownsRow base e size v n xs) (hgrow : (w.alloc tmp).grownBy w4 v.ownBlock) (hb : w.heap[g]? = some o) (hno : ∀ cs, o ≠ .cells cs e (0, 0)) : w4.heap[g]? = some o :=
  blk_grown (blk_alloc hb tmp) hgrow (row_ne h hb hno)
theorem app_below {B : Nat} {w0 w w4 : World} {base : Nat} {e : TypeId} {size n : Nat} {v : Value} {xs : List Value} {tmp : Obj} (h : w.ownsRow base e size v n xs) (hgrow : (w.alloc tmp).grownBy w4 v.ownBlock) (hB : Below B w0 w) (h1 : B ≤ w.heap.size) (h2 : B ≤ base) : Below B w0 w4 :=
  (hB.alloc h1 tmp).grown hgrow (by simp; omega) (fun k hk => Nat.le_trans h2 (own_base h k hk))
theorem update_new {P : Program} {w : World} {t k e : TypeId} {d : TypeDesc} (ht : P.underlying t = some (.map k e)) (hd : P.underlying k = some d) {b : Nat} {es : Array MapEntry} {clock : Nat} (hb : w.heap[b]? = some (.map es clock)) {key val : Value} (hk : MapKept.IsKey d key) (hf : Instr.findNow d key es.toList 0 = some none) :
    (Instr.mapUpdate t (.map (some b)) key val).run P w = .ok () (w.putObj b (.map (es.push { key, val, born := clock }) (clock + 1))) := by
  simp [Instr.mapUpdate, run_underlying ht, MapKept.run_getObj_map hb, MapKept.run_checkKey hd hk, MapKept.run_findKey hd hf, MapKept.run_setObj_map _ hb, Result.andThen, World.putObj]
theorem lookup_hit {P : Program} {w : World} {t k e : TypeId} {d : TypeDesc} (ht : P.underlying t = some (.map k e)) (hd : P.underlying k = some d) {b : Nat} {es : Array MapEntry} {clock : Nat} (hb : w.heap[b]? = some (.map es clock)) {key val : Value} {i : Nat} (hk : MapKept.IsKey d key) (hf : Instr.findNow d key es.toList 0 = some (some (i, val))) :
    (Instr.lookup t (.map (some b)) key false).run P w = .ok val w := by
  simp [Instr.lookup, run_underlying ht, MapKept.run_getObj_map hb, MapKept.run_checkKey hd hk, MapKept.run_findKey hd hf, Result.andThen]
theorem put_new (w : World) (o o' : Obj) : (w.alloc o).putObj w.heap.size o' = w.alloc o' := by
  have h : (w.heap.push o).setIfInBounds w.heap.size o' = w.heap.push o' := by
    apply Array.ext_getElem?
    intro i
    simp only [Array.getElem?_setIfInBounds, Array.getElem?_push, Array.size_push]
    split
    · rename_i e; subst e; simp
    · rename_i e; rw [if_neg (fun h => e h.symm), if_neg (fun h => e h.symm)]
  unfold World.putObj World.alloc
  simp only [h]

def brk (n o d : Int) (keep : Bool) (k : Nat) : List Int := (List.range k).map (fun i : Nat => if (mayB n o d ((i : Int) + 1) && !keep) = true then 0 else 1)
theorem brk_len (n o d : Int) (keep : Bool) (k : Nat) : (brk n o d keep k).length = k := by simp [brk]
theorem brk_succ (n o d : Int) (keep : Bool) (k : Nat) : brk n o d keep (k + 1) = brk n o d keep k ++ [if (mayB n o d ((k : Int) + 1) && !keep) = true then 0 else 1] := by simp [brk, List.range_succ]
def para_Breaks.f (a0 a1 a2 : Int) (a3 : Bool) : Option (List Int × Int) := some (if isB a0 a1 a2 then (brk a0 a1 a2 a3 (a0.toNat - 1), 0) else ([], 90))

def mapE : Array MapEntry := #[{ key := .bool true, val := .int .i64 0, born := 0 }, { key := .bool false, val := .int .i64 1, born := 1 }]
theorem map1 (W : World) : (Instr.mapUpdate 59 (.map (some W.heap.size)) (.bool true) (.int .i64 0)).run Tryd.prog (W.alloc (.map #[] 0)) = .ok () (W.alloc (.map #[{ key := .bool true, val := .int .i64 0, born := 0 }] 1)) := by
  rw [update_new Tryd.underlying59 Tryd.underlying4 (blk_new W (.map #[] 0)) (by simp [MapKept.IsKey]) rfl, put_new]; rfl
theorem map2 (W : World) : (Instr.mapUpdate 59 (.map (some W.heap.size)) (.bool false) (.int .i64 1)).run Tryd.prog (W.alloc (.map #[{ key := .bool true, val := .int .i64 0, born := 0 }] 1)) = .ok () (W.alloc (.map mapE 2)) := by
  rw [update_new Tryd.underlying59 Tryd.underlying4 (blk_new W (.map #[{ key := .bool true, val := .int .i64 0, born := 0 }] 1)) (by simp [MapKept.IsKey]) rfl, put_new]; rfl
theorem look (W : World) (b : Nat) (h : W.heap[b]? = some (.map mapE 2)) (x : Bool) : (Instr.lookup 59 (.map (some b)) (.bool x) false).run Tryd.prog W = .ok (.int .i64 (if x = true then 0 else 1)) W := by
  cases x
  · exact lookup_hit Tryd.underlying59 Tryd.underlying4 (i := 1) h (by simp [MapKept.IsKey]) rfl
  · exact lookup_hit Tryd.underlying59 Tryd.underlying4 (i := 0) h (by simp [MapKept.IsKey]) rfl

set_option maxRecDepth 100000 in
set_option maxHeartbeats 2000000 in
theorem breaks_yes (a0 : Int) (a1 : Int) (a2 : Int) (a3 : Bool) (w : World) (hok : isB a0 a1 a2 = true) (h1 : 1 ≤ a0) (hn2 : a0 ≤ 500) :
    Calls Tryd.prog 20 #[.int .i64 a0, .int .i64 a1, .int .i64 a2, .bool a3] w fun e w' => ∃ v0_ : Value, e = .returned (.tuple #[v0_, .int .i64 0]) ∧ Kd.R (Kd.int .i64) 3 w' w.heap.size (fun _ => True) v0_ (brk a0 a1 a2 a3 (a0.toNat - 1)) ∧ Below w.heap.size w w' := by
  have hB0 := Aside0.mk (below_alloc (Below.refl w.heap.size w) (.cells #[.int .i64 a0, .int .i64 a1, .int .i64 a2] 43))
  obtain ⟨i0, hi, hz0, hz1, hz2⟩ := info_parts infoE3
  have HO := Aside0.mk hok
  clear hok
  have hmm := @run_makeMap Tryd.prog
  have hm1 := map1
  have hm2 := map2
  go_enter Tryd.func20, Tryd.ntmps20
  go_wp2_with (first | (go_at_call 22; refine (checked_yes a0 a1 a2 none 0 [] _ (nil_C _) (by simp) (by rw [chk_nil]; exact HO.out)).mono ?_; rintro e w1 ⟨rfl, hb⟩; have hc := Aside0.mk (blk_alloc (blk_below (blk_new _ _) hb) (.map mapE 2)); have hB1 := Aside0.mk (below_alloc (below_then hB0.out hB0.out.size hb) (.map mapE 2)); have hM := Aside0.mk (blk_new w1 (.map mapE 2)); clear hb))
  generalize w1.alloc (.map mapE 2) = W1 at hc hB1 hM ⊢
  generalize w1.heap.size = mb at hM ⊢
  clear hm1 hm2 hmm hB0 HO
  go_loopw [13, 30] (fun v i wr => ∃ k : Nat, k ≤ a0.toNat - 1 ∧ i = .int .i64 k ∧ Aside0 (wr.ownsRow w.heap.size 3 1 v k ((brk a0 a1 a2 a3 k).map (Value.int .i64))) ∧ Aside0 (wr.heap[w.heap.size]? = some (.cells #[.int .i64 a0, .int .i64 a1, .int .i64 a2] 43 (0, 0))) ∧ Aside0 (wr.heap[mb]? = some (.map mapE 2)) ∧ Aside0 (Below w.heap.size w wr)) (fun _ i _ => a0.toNat - 1 - (intOf i).toNat)
  case atStart => exact ⟨0, Nat.zero_le _, rfl, ⟨World.ownsRow_nil _ _ _ _⟩, hc, hM, hB1⟩
  case round =>
    clear hc hM hB1
    obtain ⟨k, hk, rfl, hrow, hc, hM, hB⟩ := hrel
    obtain ⟨c0, c1, c2⟩ := blk3 hc.out
    by_cases hlt : (k : Int) < a0 - 1
    · have HS := Aside0.mk (brk_succ a0 a1 a2 a3 k)
      have hsz := hB.out.size
      have hq : ∃ b, mayB a0 a1 a2 ((k : Int) + 1) = b := ⟨_, rfl⟩
      obtain ⟨b, hq⟩ := hq
      have HQ := Aside0.mk hq
      clear hq
      rw [HQ.out] at HS
      cases b <;> cases a3
      all_goals
        go_wp2_with (first | (go_at_call 29; refine (may_any _ _ _ _ _).mono ?_; rintro e w2 ⟨rfl, hb⟩; rw [HQ.out]; have hc2 := Aside0.mk (blk_below hc.out hb); have hM2 := Aside0.mk (blk_below hM.out hb); have hl1 := look w2 mb hM2.out true; have hl2 := look w2 mb hM2.out false; have hB2 := Aside0.mk (below_then hB.out hsz hb); have hr2 := Aside0.mk (pw_own_below hrow.out hb); have hsz2 := hB2.out.size; clear hb) | (at_builtin; refine wpList_append_own _ rfl _ _ 22 rfl w.heap.size 3 i0 (.int .i64 0) 1 8 Tryd.underlying22 hi hz0 hz1 hz2 rfl (by decide) _ _ _ rfl (hr2.out.alloc _) ⟨_, 0, none⟩ 1 1 [_] rfl rfl (cell_one_new _ _ _) (by simp [Value.oneCell']) (by unfold maxLen; omega) (by omega) (by simp; omega) ?_; intro v' w4 hown' hgrow _))
        have e := HS.out
        simp only [Bool.false_and, Bool.true_and, Bool.not_true, Bool.not_false, Bool.false_eq_true, if_true, if_false] at e
        refine ⟨⟨k + 1, by omega, by go_num, ⟨?_⟩, ⟨app_blk hr2.out hgrow hc2.out (by intro cs e; cases e)⟩, ⟨app_blk hr2.out hgrow hM2.out (by intro cs e; cases e)⟩, ⟨app_below hr2.out hgrow hB2.out hsz2 (Nat.le_refl _)⟩⟩, by simp [intOf]; omega⟩
        rw [e, List.map_append]
        exact hown'
    · go_wp2
      go_ret2
      have e : k = a0.toNat - 1 := by omega
      subst e
      refine ⟨_, rfl, R_of_row (by rw [brk_len]; exact hrow.out), hB.out⟩

set_option maxRecDepth 100000 in
set_option maxHeartbeats 2000000 in
theorem breaks_zero (a1 : Int) (a2 : Int) (a3 : Bool) (w : World) (hok : isB 0 a1 a2 = true) :
    Calls Tryd.prog 20 #[.int .i64 0, .int .i64 a1, .int .i64 a2, .bool a3] w fun e w' => e = .returned (.tuple #[.slice none 0 0, .int .i64 0]) ∧ Below w.heap.size w w' := by
  have hB0 := Aside0.mk (below_alloc (Below.refl w.heap.size w) (.cells #[.int .i64 0, .int .i64 a1, .int .i64 a2] 43))
  have HO := Aside0.mk hok
  clear hok
  have hmm := @run_makeMap Tryd.prog
  have hm1 := map1
  have hm2 := map2
  go_enter Tryd.func20, Tryd.ntmps20
  go_wp2_with (first | (go_at_call 22; refine (checked_yes 0 a1 a2 none 0 [] _ (nil_C _) (by simp) (by rw [chk_nil]; exact HO.out)).mono ?_; rintro e w1 ⟨rfl, hb⟩; have hB1 := Aside0.mk (below_alloc (below_then hB0.out hB0.out.size hb) (.map mapE 2)); clear hb))
  refine wp_loop_rounds 1 ?_
  rw [rounds_succ]
  go_wp2
  go_ret2
  exact ⟨rfl, hB1.out⟩

set_option maxRecDepth 100000 in
set_option maxHeartbeats 1000000 in
theorem para_Breaks.calls (a0 : Int) (a1 : Int) (a2 : Int) (a3 : Bool) (r1 : List Int) (r2 : Int) (w : World) (h : para_Breaks.f a0 a1 a2 a3 = some (r1, r2)) (hG : GOK w) :
    Calls Tryd.prog 20 #[.int .i64 a0, .int .i64 a1, .int .i64 a2, .bool a3] w fun e w' => ∃ v0_ : Value, e = .returned (.tuple #[v0_, .int .i64 r2]) ∧ Kd.R (Kd.int .i64) 3 w' w.heap.size (fun _ => True) v0_ r1 ∧ Below w.heap.size w w' := by
  obtain ⟨a, hg⟩ := hG
  have hB0 := Aside0.mk (below_alloc (Below.refl w.heap.size w) (.cells #[.int .i64 a0, .int .i64 a1, .int .i64 a2] 43))
  by_cases hok : isB a0 a1 a2 = true
  · have hr := Option.some.inj h
    rw [if_pos hok, Prod.mk.injEq] at hr
    obtain ⟨rfl, rfl⟩ := hr
    obtain ⟨hn1, hn2⟩ := isB_n hok
    by_cases h1 : 1 ≤ a0
    · exact breaks_yes a0 a1 a2 a3 w hok h1 hn2
    · obtain rfl : a0 = 0 := by omega
      refine (breaks_zero a1 a2 a3 w hok).mono ?_
      rintro e w' ⟨rfl, hb⟩
      exact ⟨_, rfl, Kd.R_nil _ _ _ _ _, hb⟩
  · have hr := Option.some.inj h
    rw [if_neg hok, Prod.mk.injEq] at hr
    obtain ⟨rfl, rfl⟩ := hr
    clear h
    have HO := Aside0.mk (Bool.eq_false_iff.mpr hok)
    have hg0 := Aside0.mk (pw_cell_below hB0.out hg)
    clear hok hg
    go_enter Tryd.func20, Tryd.ntmps20
    go_wp2_with (first | (go_at_call 22; refine (checked_no a0 a1 a2 none 0 [] _ a (nil_C _) (by simp) (by rw [chk_nil]; exact HO.out) hg0.out).mono ?_; rintro e w1 ⟨rfl, hb⟩; have hg1 := Aside0.mk (pw_cell_below hb hg0.out); have hB1 := Aside0.mk (below_then hB0.out hB0.out.size hb); clear hb) | (go_at_call 23; refine (told_some a _ hg1.out).mono ?_; rintro e w2 ⟨rfl, rfl⟩))
    go_ret2
    exact ⟨_, rfl, Kd.R_nil _ _ _ _ _, hB1.out⟩
end Go.Proofs.YtfamkadpncbmlaaDoor.G
