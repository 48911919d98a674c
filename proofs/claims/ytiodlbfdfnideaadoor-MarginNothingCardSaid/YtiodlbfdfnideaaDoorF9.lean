/- Chapter 10: Tops. -/
import Derived.Test.YtiodlbfdfnideaaDoorF8
import Derived.Deep.RegionHeld3
namespace Go.Proofs.YtiodlbfdfnideaaDoor.G
open Go.RowKit Go.Shelf Go.Proofs.YtiodlbfdfnideaaDoorW.PrintWords Go.Proofs.YtiodlbfdfnideaaDoorW.PrintLast Go.Proofs.YtiodlbfdfnideaaDoorW.PrintMore

theorem R_of_row {w : World} {base : Nat} {v : Value} {l : List Int} (h : w.ownsRow base 2 1 v l.length (l.map (Value.int .i64))) : Kd.R (Kd.int .i64) 2 w base (fun _ => True) v l :=
  Kd.R_of_own (enc := Value.int .i64) (h1 := fun _ => rfl) h (fun _ _ => trivial)
theorem row_ne {w : World} {base : Nat} {e : TypeId} {size n g : Nat} {v : Value} {xs : List Value} {o : Obj} (h : w.ownsRow base e size v n xs) (hb : w.heap[g]? = some o) (hno : ∀ cs, o ≠ .cells cs e (0, 0)) : some g ≠ v.ownBlock := by
  intro hk
  obtain ⟨cs, hc⟩ := own_typed h g hk.symm
  rw [hb] at hc
  exact hno cs (Option.some.inj hc)

set_option maxRecDepth 100000 in
set_option maxHeartbeats 2000000 in
theorem tops1_any (Bo : Nat) (i at' ah : Int) (pre : List Int) (v : Value) (W : World) (hx : pre.length ≤ 1000) (hb : Boxed W Bo 22 v) (ho : W.ownsRow Bo 2 1 v pre.length (pre.map (Value.int .i64))) :
    Calls Tryd.prog 32 #[.int .i64 i, .agg #[.int .i64 at', .int .i64 ah], .pointer (some ⟨Bo, 0, none⟩)] W fun e W' => e = .returned (.tuple #[]) ∧
      (∃ v', Boxed W' Bo 22 v' ∧ W'.ownsRow Bo 2 1 v' (pre.length + 1) ((pre ++ [at']).map (Value.int .i64))) ∧ KeepL (Bo + 1) W W' ∧ Below Bo W W' := by
  obtain ⟨i0, hi, hz0, hz1, hz2⟩ := info_parts info2
  have c0 := hb.cell
  have hlt := hb.lt
  have hnew : W.heap.size ≠ Bo := by omega
  go_enter Tryd.func32, Tryd.ntmps32
  go_upto_region 1 with fail
  have hG1 : Aside0 (W.grownBy (W.alloc (.cells #[.int .i64 at', .int .i64 ah] 60)) none) := ⟨World.grownBy_alloc _ _ _⟩
  have hL1 := Aside0.mk (Below.refl Bo W |>.alloc (by omega) (.cells #[.int .i64 at', .int .i64 ah] 60))
  have p0 : (W.alloc (.cells #[.int .i64 at', .int .i64 ah] 60)).cell? ⟨W.heap.size, 0, none⟩ = some (.int .i64 at') := (blk_cell (blk_new W _) 0).trans rfl
  have hb1 := blk_alloc hb (.cells #[.int .i64 at', .int .i64 ah] 60)
  have ho1 := ho.alloc (.cells #[.int .i64 at', .int .i64 ah] 60)
  have c1 := (show Boxed _ Bo 22 v from hb1).cell
  clear hb ho c0
  generalize W.alloc (.cells #[.int .i64 at', .int .i64 ah] 60) = W1 at *
  have hlt1 := (show Boxed _ Bo 22 v from hb1).lt
  have HB := Aside0.mk hb1
  have HO := Aside0.mk ho1
  clear hb1 ho1
  go_wp2_with (at_builtin; refine wpList_append_own _ rfl _ _ 22 rfl Bo 2 i0 (.int .i64 0) 1 8 Tryd.underlying22 hi hz0 hz1 hz2 rfl (by decide) _ _ _ rfl (HO.out.alloc _) ⟨_, 0, none⟩ 1 1 [_] rfl rfl (cell_one_new _ _ _) (by simp [Value.oneCell']) (by unfold maxLen; omega) (by omega) (by simp; omega) ?_; intro v' w4 hown' hgrow _; obtain ⟨g', cap', rfl⟩ := ownsRow_succ hown'; have HB4 := Aside0.mk (blk_grown (blk_alloc HB.out _) hgrow (row_ne HO.out HB.out (by intro cs e; cases e))); have e0 : w4.cell? ⟨Bo, 0, none⟩ = some v := (blk_cell HB4.out 0).trans rfl; have f0 := blk_frozen HB4.out 0; have HG := Aside0.mk hgrow; have HW := Aside0.mk hown'; clear hgrow hown')
  go_end0
  have hne := own_ne HW.out HB4.out (by decide)
  refine ⟨rfl, ⟨.slice (some ⟨g', 0, none⟩) (pre.length + 1) cap', blk_put HB4.out 0 _ rfl, by rw [List.map_append]; exact own_setCell HW.out hne _⟩, ⟨?_, ?_⟩, ?_⟩
  · have := HG.out.size
    have h2 := hG1.out.size
    simp [World.setCell] at this ⊢
    omega
  · intro k o hk ho hno
    have ho1 := blk_grown ho hG1.out (by simp)
    rw [Below.heap_setCell _ _ _ _ (by simp; omega)]
    exact blk_grown (blk_alloc ho1 _) HG.out (row_ne HO.out ho1 hno)
  · exact (((hL1.out.alloc (by omega) _).grown HG.out (by simp; omega) (fun k hk => own_base HO.out k hk)).setCell (p := ⟨Bo, 0, none⟩) (Nat.le_refl _) _)

/-- Tops' own invariant. -/
def KT (w : World) (pre : List (Int × Int)) (W : World) : Prop :=
  (∃ v, Boxed W w.heap.size 22 v ∧ W.ownsRow w.heap.size 2 1 v pre.length ((pre.map (·.1)).map (Value.int .i64))) ∧ Below w.heap.size w W
theorem KT_ab (w : World) : AbL (w.heap.size + 1) (KT w) := by
  rintro s W W' row ⟨⟨v, hb, ho⟩, hB⟩ hg hr
  refine ⟨⟨v, hb.kept hg (fun e => by have := (hr _ e.symm).1; omega), ho.kept hg ?_⟩, hB.grown hg hB.size (fun k e => by have := (hr k e).1; omega)⟩
  rcases ho.2 with ⟨rfl, _⟩ | ⟨g, cap, cur, rfl, _, hgb, _⟩
  · exact .inl rfl
  · refine .inr fun e => ?_
    obtain ⟨o, ho', hno⟩ := (hr g (by simpa [Value.ownBlock] using e.symm)).2
    rw [hgb] at ho'
    exact hno _ (Option.some.inj ho').symm

set_option maxRecDepth 100000 in
set_option maxHeartbeats 2000000 in
theorem tops_yes (A : Option Addr) (c : Nat) (its : List S42) (w : World) (hr : Kd.C k42 w A its.length its) (hc : its.length ≤ c) (hok : stackB its = true) :
    Calls Tryd.prog 15 #[.slice A its.length c] w fun e w' => ∃ v0_ : Value, e = .returned (.tuple #[v0_, .int .i64 0]) ∧ Kd.R (Kd.int .i64) 2 w' w.heap.size (fun _ => True) v0_ ((runL its).2.map (·.1)) ∧ Below w.heap.size w w' := by
  have hB0 := below_alloc (Below.refl w.heap.size w) (.cells #[.slice none 0 0] 22)
  have hk0 : KT w [] (w.alloc (.cells #[.slice none 0 0] 22)) := ⟨⟨_, blk_new _ _, World.ownsRow_nil _ _ _ _⟩, hB0⟩
  have hsz : (w.alloc (.cells #[.slice none 0 0] 22)).heap.size = w.heap.size + 1 := by simp
  have hL := lay_yes w A c its 32 #[.pointer (some ⟨w.heap.size, 0, none⟩)] (KT w) (w.alloc (.cells #[.slice none 0 0] 22)) hr hc hok hk0 (fun _ _ h => h.2) (by rw [hsz]; exact KT_ab w) (enters_of Tryd.func32 (by kernel_rfl) rfl)
    (by
      rintro pre x W ⟨⟨v, hb, ho⟩, hB⟩ hlen
      refine (tops1_any w.heap.size _ x.1 x.2 (pre.map (·.1)) v W (by simp; omega) hb (by simpa using ho)).mono ?_
      rintro e W' ⟨rfl, ⟨v', hb', ho'⟩, hk, hbel⟩
      exact ⟨rfl, ⟨⟨v', hb', by simpa using ho'⟩, hB.trans hbel⟩, by rw [hsz]; exact hk⟩)
  have HL := Aside0.mk (callsIn_wide.1 hL)
  clear hL hk0 hB0 hr hok
  go_enter Tryd.func15, Tryd.ntmps15
  go_wp2_with (go_at_call 31; refine HL.out.mono ?_; rintro e w2 ⟨Bs, rfl, ⟨⟨v, hb, ho⟩, hB⟩, _⟩; have HB2 := Aside0.mk hB; have HO2 := Aside0.mk ho; have c1 := hb.cell; clear hb hB ho)
  go_region_held3 (fun w' => w'.cell? ⟨w.heap.size, 0, none⟩ = some v) (first | exact k1 | go_keep) (first | (go_at_call 25; refine (told_nil _).mono ?_; rintro e w3 ⟨rfl, hb⟩; have k1 := pw_cell_below hb (show w2.drew.cell? ⟨w.heap.size, 0, none⟩ = some v from c1); have HB3 := Aside0.mk (below_then HB2.out.drew HB2.out.size hb); have HO3 := Aside0.mk (pw_own_below (own_drew HO2.out) hb); clear hb))
  all_goals
    go_wp2_with fail
    go_ret2
    exact ⟨v, rfl, R_of_row (by simpa using HO3.out), HB3.out⟩

set_option maxRecDepth 100000 in
set_option maxHeartbeats 2000000 in
theorem tops_no (A : Option Addr) (c : Nat) (its : List S42) (w : World) (hr : Kd.C k42 w A its.length its) (hc : its.length ≤ c) (hl : its.length ≤ 1000) (hok : stackB its = false) (hG : GOK w) :
    Calls Tryd.prog 15 #[.slice A its.length c] w fun e w' => ∃ v0_ : Value, e = .returned (.tuple #[v0_, .int .i64 100]) ∧ Kd.R (Kd.int .i64) 2 w' w.heap.size (fun _ => True) v0_ [] ∧ Below w.heap.size w w' := by
  have HB0 := Aside0.mk (below_alloc (Below.refl w.heap.size w) (.cells #[.slice none 0 0] 22))
  have hb0 : Boxed (w.alloc (.cells #[.slice none 0 0] 22)) w.heap.size 22 (.slice none 0 0) := blk_new _ _
  have HL := Aside0.mk (lay_no A c its 32 #[.pointer (some ⟨w.heap.size, 0, none⟩)] (w.alloc (.cells #[.slice none 0 0] 22)) (Kd.C_below hr HB0.out) hc hl hok)
  have HBX := Aside0.mk hb0
  have HG := Aside0.mk hG
  clear hr hok hb0 hG
  go_enter Tryd.func15, Tryd.ntmps15
  go_wp2_with (go_at_call 31; refine HL.out.mono ?_; rintro e w2 ⟨rfl, hb⟩; have HB2 := Aside0.mk (below_then HB0.out HB0.out.size hb); have c1 := (show Boxed w2 w.heap.size 22 (.slice none 0 0) from blk_below HBX.out hb).cell; clear hb)
  have HG2 := Aside0.mk (GOK.below HG.out HB2.out)
  go_region_held3 (fun w' => w'.cell? ⟨w.heap.size, 0, none⟩ = some (.slice none 0 0)) (first | exact k1 | go_keep) (first | (go_at_call 25; refine (told_none w2.drew (show GOK w2.drew from HG2.out)).mono ?_; rintro e w3 ⟨rfl, hb⟩; have k1 := pw_cell_below hb (show w2.drew.cell? ⟨w.heap.size, 0, none⟩ = some (.slice none 0 0) from c1); have HB3 := Aside0.mk (below_then HB2.out.drew HB2.out.size hb); clear hb))
  all_goals
    go_wp2_with fail
    go_ret2
    exact ⟨_, rfl, Kd.R_nil _ _ _ _ _, HB3.out⟩

def margin_Tops.f (l0 : List (S42)) : Option (List Int × Int) := if l0.length ≤ 1000 then some (if stackB l0 then ((runL l0).2.map (·.1), 0) else ([], 100)) else none
theorem margin_Tops.calls (A0 : Option Addr) (c0 : Nat) (l0 : List (S42)) (r1 : List Int) (r2 : Int) (w : World) (hr0 : Kd.C k42 w A0 l0.length l0) (hc0 : l0.length ≤ c0) (h : margin_Tops.f l0 = some (r1, r2)) (hG : GOK w) :
    Calls Tryd.prog 15 #[.slice A0 l0.length c0] w fun e w' => ∃ v0_ : Value, e = .returned (.tuple #[v0_, .int .i64 r2]) ∧ Kd.R (Kd.int .i64) 2 w' w.heap.size (fun _ => True) v0_ r1 ∧ Below w.heap.size w w' := by
  unfold margin_Tops.f at h
  by_cases hl : l0.length ≤ 1000
  · rw [if_pos hl] at h
    have hr := Option.some.inj h
    by_cases hok : stackB l0 = true
    · rw [if_pos hok, Prod.mk.injEq] at hr
      obtain ⟨rfl, rfl⟩ := hr
      exact tops_yes A0 c0 l0 w hr0 hc0 hok
    · rw [if_neg hok, Prod.mk.injEq] at hr
      obtain ⟨rfl, rfl⟩ := hr
      exact tops_no A0 c0 l0 w hr0 hc0 hl (Bool.eq_false_iff.mpr hok) hG
  · rw [if_neg hl] at h
    cases h
end Go.Proofs.YtiodlbfdfnideaaDoor.G
