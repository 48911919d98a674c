/- Chapter 10: Between. -/
import Derived.Test.YtiodlbfdfnideaaDoorF10
namespace Go.Proofs.YtiodlbfdfnideaaDoor.G
open Go.RowKit Go.Shelf Go.Proofs.YtiodlbfdfnideaaDoorW.PrintWords Go.Proofs.YtiodlbfdfnideaaDoorW.PrintLast Go.Proofs.YtiodlbfdfnideaaDoorW.PrintMore

/-- What is ahead of item i, of those so far. -/
def btw (i : Int) (pre : List (Int × Int)) : Int := if 0 ≤ i ∧ i < pre.length then (pre.getD i.toNat (0, 0)).2 else 0
theorem btw_snoc (i : Int) (pre : List (Int × Int)) (x : Int × Int) : btw i (pre ++ [x]) = if (pre.length : Int) = i then x.2 else btw i pre := by
  unfold btw
  by_cases h : (pre.length : Int) = i
  · rw [if_pos h, if_pos ⟨by omega, by simp; omega⟩]
    have e : i.toNat = pre.length := by omega
    rw [e]
    simp
  · rw [if_neg h]
    by_cases h2 : 0 ≤ i ∧ i < pre.length
    · rw [if_pos h2, if_pos ⟨h2.1, by simp; omega⟩]
      have : i.toNat < pre.length := by omega
      simp [List.getElem?_append_left this]
    · rw [if_neg h2, if_neg (by simp; omega)]

set_option maxRecDepth 100000 in
theorem btw1_any (Bi Bo : Nat) (k i at' ah o : Int) (W : World) (hbi : Boxed W Bi 3 (.int .i64 i)) (hbo : Boxed W Bo 2 (.int .i64 o)) :
    Calls Tryd.prog 35 #[.int .i64 k, .agg #[.int .i64 at', .int .i64 ah], .pointer (some ⟨Bi, 0, none⟩), .pointer (some ⟨Bo, 0, none⟩)] W fun e W' => e = .returned (.tuple #[]) ∧
      Boxed W' Bi 3 (.int .i64 i) ∧ Boxed W' Bo 2 (.int .i64 (if k = i then ah else o)) ∧ (∀ B, Bi < B → Bo < B → KeepL B W W') ∧ ∀ B, B ≤ Bi → B ≤ Bo → Below B W W' := by
  have hne : Bi ≠ Bo := blk_ne hbi hbo (by decide)
  have hi := hbi.lt
  have ho := hbo.lt
  have b1 := hbi.alloc (.cells #[.int .i64 at', .int .i64 ah] 60)
  have b2 := hbo.alloc (.cells #[.int .i64 at', .int .i64 ah] 60)
  have c1 := b1.cell
  have c2 := b2.cell
  have f2 := b2.frozen
  have hK : Aside0 (∀ B, KeepL B W (W.alloc (.cells #[.int .i64 at', .int .i64 ah] 60))) := ⟨fun B => ⟨by simp, fun _ _ _ h _ => blk_alloc h _⟩⟩
  have hL : Aside0 (∀ B, B ≤ Bi → Below B W (W.alloc (.cells #[.int .i64 at', .int .i64 ah] 60))) := ⟨fun B h => (Below.refl B W).alloc (by omega) _⟩
  have hp : (W.alloc (.cells #[.int .i64 at', .int .i64 ah] 60)).cell? ⟨W.heap.size, 1, none⟩ = some (.int .i64 ah) := (blk_cell (blk_new W _) 1).trans rfl
  have B1 := Aside0.mk b1
  have B2 := Aside0.mk b2
  clear hbi hbo b1 b2
  by_cases h : k = i
  · subst h
    rw [if_pos rfl]
    go_enter Tryd.func35, Tryd.ntmps35
    go_upto_region 1 with fail
    generalize W.alloc (.cells #[.int .i64 at', .int .i64 ah] 60) = W1 at *
    go_wp2
    go_end0
    refine ⟨rfl, (Below.heap_setCell _ _ _ _ hne).trans B1.out, B2.out.set _, ?_, ?_⟩
    · intro B h1 h2
      have := hK.out B
      exact ⟨by simpa [World.setCell] using this.1, fun j o hj ho hno => (Below.heap_setCell _ _ _ _ (by simp; omega)).trans (this.2 j o hj ho hno)⟩
    · intro B h1 h2
      exact (hL.out B h1).setCell (p := ⟨Bo, 0, none⟩) h2 _
  · rw [if_neg h]
    go_enter Tryd.func35, Tryd.ntmps35
    go_upto_region 1 with fail
    generalize W.alloc (.cells #[.int .i64 at', .int .i64 ah] 60) = W1 at *
    go_wp2
    go_end0
    exact ⟨rfl, B1.out, B2.out, fun B _ _ => hK.out B, fun B h1 _ => hL.out B h1⟩

/-- Between's own invariant. -/
def KB (w : World) (i : Int) (pre : List (Int × Int)) (W : World) : Prop :=
  Boxed W w.heap.size 3 (.int .i64 i) ∧ Boxed W (w.heap.size + 1) 2 (.int .i64 (btw i pre)) ∧ Below w.heap.size w W
theorem KB_ab (w : World) (i : Int) : AbL (w.heap.size + 2) (KB w i) := by
  rintro s W W' row ⟨hb, ho, hB⟩ hg hr
  exact ⟨hb.kept hg (fun e => by have := (hr _ e.symm).1; omega), ho.kept hg (fun e => by have := (hr _ e.symm).1; omega), hB.grown hg hB.size (fun k e => by have := (hr k e).1; omega)⟩

def btwF (its : List S42) (i : Int) : Int × Int := if i < 0 ∨ i ≥ its.length ∨ (rd_T42 its i).f1 = 0 then (0, 100) else (btw i (runL its).2, 0)

set_option maxRecDepth 100000 in
set_option maxHeartbeats 4000000 in
theorem btw_yes (A : Option Addr) (c : Nat) (its : List S42) (i : Int) (w : World) (hr : Kd.C k42 w A its.length its) (hc : its.length ≤ c) (hok : stackB its = true) (hG : GOK w) :
    Calls Tryd.prog 19 #[.slice A its.length c, .int .i64 i] w fun e w' => e = .returned (.tuple #[.int .i64 (btwF its i).1, .int .i64 (btwF its i).2]) ∧ Below w.heap.size w w' := by
  have e1 : (w.alloc (.cells #[.int .i64 i] 3)).heap.size = w.heap.size + 1 := by simp
  have hsz : ((w.alloc (.cells #[.int .i64 i] 3)).alloc (.cells #[.int .i64 0] 2)).heap.size = w.heap.size + 2 := by simp
  have hB0 : Below w.heap.size w ((w.alloc (.cells #[.int .i64 i] 3)).alloc (.cells #[.int .i64 0] 2)) := below_alloc (below_alloc (Below.refl _ _) _) _
  have hk0 : KB w i [] ((w.alloc (.cells #[.int .i64 i] 3)).alloc (.cells #[.int .i64 0] 2)) := by
    refine ⟨blk_alloc (blk_new _ _) _, ?_, hB0⟩
    have := blk_new (w.alloc (.cells #[.int .i64 i] 3)) (.cells #[.int .i64 0] 2)
    rw [e1] at this
    have hz : btw i [] = 0 := by unfold btw; rw [if_neg (by simp)]
    rw [hz]
    exact this
  have hL := lay_yes w A c its 35 #[.pointer (some ⟨w.heap.size, 0, none⟩), .pointer (some ⟨w.heap.size + 1, 0, none⟩)] (KB w i) _ hr hc hok hk0 (fun _ _ h => h.2.2) (by rw [hsz]; exact KB_ab w i) (enters_of Tryd.func35 (by kernel_rfl) rfl)
    (by
      rintro pre x W ⟨hb, ho, hB⟩ hlen
      refine (btw1_any w.heap.size (w.heap.size + 1) pre.length i x.1 x.2 _ W hb ho).mono ?_
      rintro e W' ⟨rfl, h1, h2, h3, h4⟩
      exact ⟨rfl, ⟨h1, by rw [btw_snoc]; exact h2, hB.trans (h4 _ (Nat.le_refl _) (by omega))⟩, by rw [hsz]; exact h3 _ (by omega) (by omega)⟩)
  have HL := Aside0.mk (callsIn_wide.1 hL)
  have HR := Aside0.mk hr
  have HG := Aside0.mk hG
  clear hL hk0 hB0 hr hok hsz e1 hG
  unfold btwF
  by_cases h1 : i < 0
  · rw [if_pos (.inl h1)]
    go_enter Tryd.func19, Tryd.ntmps19
    go_wp2_with (first | (go_at_call 31; refine HL.out.mono ?_; rintro e w2 ⟨Bs, rfl, ⟨hb, ho, hB⟩, _⟩; have HB2 := Aside0.mk hB; have c1 := hb.cell; have c2 := ho.cell; clear hb hB ho) | (go_at_call 26; refine (none_any _).mono ?_; rintro e w' ⟨rfl, rfl⟩) | (go_at_call 25; refine (told_none _ (GOK.below HG.out HB2.out)).mono ?_; rintro e w3 ⟨rfl, hb⟩; have HB3 := Aside0.mk (below_then HB2.out HB2.out.size hb); clear hb))
    go_ret2
    exact ⟨rfl, HB3.out⟩
  · by_cases h2 : i ≥ its.length
    · rw [if_pos (.inr (.inl h2))]
      go_enter Tryd.func19, Tryd.ntmps19
      go_wp2_with (first | (go_at_call 31; refine HL.out.mono ?_; rintro e w2 ⟨Bs, rfl, ⟨hb, ho, hB⟩, _⟩; have HB2 := Aside0.mk hB; have c1 := hb.cell; have c2 := ho.cell; clear hb hB ho) | (go_at_call 26; refine (none_any _).mono ?_; rintro e w' ⟨rfl, rfl⟩) | (go_at_call 25; refine (told_none _ (GOK.below HG.out HB2.out)).mono ?_; rintro e w3 ⟨rfl, hb⟩; have HB3 := Aside0.mk (below_then HB2.out HB2.out.size hb); clear hb))
      go_ret2
      exact ⟨rfl, HB3.out⟩
    · have h1' : 0 ≤ i := by omega
      have h2' : i < its.length := by omega
      obtain ⟨ad, ea, hx0, hx1, hx2⟩ := at_T42 HR.out i h1' h2'
      cases ea
      have HX := Aside0.mk hx1
      clear hx0 hx1 hx2 h1 h2
      by_cases h3 : (rd_T42 its i).f1 = 0
      · rw [if_pos (.inr (.inr h3))]
        go_enter Tryd.func19, Tryd.ntmps19
        go_wp2_with (first | (go_at_call 31; refine HL.out.mono ?_; rintro e w2 ⟨Bs, rfl, ⟨hb, ho, hB⟩, _⟩; have HB2 := Aside0.mk hB; have c1 := hb.cell; have c2 := ho.cell; have hx1 := pw_cell_below hB HX.out; clear hb hB ho) | (go_at_call 26; refine (none_any _).mono ?_; rintro e w' ⟨rfl, rfl⟩) | (go_at_call 25; refine (told_none _ (GOK.below HG.out HB2.out)).mono ?_; rintro e w3 ⟨rfl, hb⟩; have HB3 := Aside0.mk (below_then HB2.out HB2.out.size hb); clear hb))
        go_ret2
        exact ⟨rfl, HB3.out⟩
      · rw [if_neg (by omega)]
        have H3 := Aside0.mk h3
        go_enter Tryd.func19, Tryd.ntmps19
        go_wp2_with (first | (go_at_call 31; refine HL.out.mono ?_; rintro e w2 ⟨Bs, rfl, ⟨hb, ho, hB⟩, _⟩; have HB2 := Aside0.mk hB; have c1 := hb.cell; have c2 := ho.cell; have hx1 := pw_cell_below hB HX.out; clear hb hB ho))
        · have hh : (i < 0 ∨ (its.length : Int) ≤ i) ∨ ((rd_T42 its i).f1 == 0) = true := by assumption
          rcases hh with (hh | hh) | hh
          · omega
          · omega
          · exact absurd (by simpa using hh) H3.out
        go_region_held3 (fun w' => w'.cell? ⟨w.heap.size + 1, 0, none⟩ = some (.int .i64 (btw i (runL its).2))) (first | exact k1 | go_keep) (first | (go_at_call 25; refine (told_nil _).mono ?_; rintro e w3 ⟨rfl, hb⟩; have k1 := pw_cell_below hb (show w2.drew.cell? ⟨w.heap.size + 1, 0, none⟩ = some (.int .i64 (btw i (runL its).2)) from c2); have HB3 := Aside0.mk (below_then HB2.out.drew HB2.out.size hb); clear hb))
        all_goals
          go_wp2_with fail
          go_ret2
          exact ⟨rfl, HB3.out⟩

set_option maxRecDepth 100000 in
set_option maxHeartbeats 2000000 in
theorem btw_no (A : Option Addr) (c : Nat) (its : List S42) (i : Int) (w : World) (hr : Kd.C k42 w A its.length its) (hc : its.length ≤ c) (hl : its.length ≤ 1000) (hok : stackB its = false) (hG : GOK w) :
    Calls Tryd.prog 19 #[.slice A its.length c, .int .i64 i] w fun e w' => e = .returned (.tuple #[.int .i64 0, .int .i64 100]) ∧ Below w.heap.size w w' := by
  have e1 : (w.alloc (.cells #[.int .i64 i] 3)).heap.size = w.heap.size + 1 := by simp
  have HB0 := Aside0.mk (show Below w.heap.size w ((w.alloc (.cells #[.int .i64 i] 3)).alloc (.cells #[.int .i64 0] 2)) from below_alloc (below_alloc (Below.refl _ _) _) _)
  have hbo : Boxed ((w.alloc (.cells #[.int .i64 i] 3)).alloc (.cells #[.int .i64 0] 2)) (w.heap.size + 1) 2 (.int .i64 0) := by
    have := blk_new (w.alloc (.cells #[.int .i64 i] 3)) (.cells #[.int .i64 0] 2)
    rw [e1] at this
    exact this
  have HL := Aside0.mk (lay_no A c its 35 #[.pointer (some ⟨w.heap.size, 0, none⟩), .pointer (some ⟨w.heap.size + 1, 0, none⟩)] _ (Kd.C_below hr HB0.out) hc hl hok)
  have HBX := Aside0.mk hbo
  have HG := Aside0.mk hG
  clear hr hok hbo hG e1
  go_enter Tryd.func19, Tryd.ntmps19
  go_wp2_with (go_at_call 31; refine HL.out.mono ?_; rintro e w2 ⟨rfl, hb⟩; have HB2 := Aside0.mk (below_then HB0.out HB0.out.size hb); have c1 := (show Boxed w2 (w.heap.size + 1) 2 (.int .i64 0) from blk_below HBX.out hb).cell; clear hb)
  have HG2 := Aside0.mk (GOK.below HG.out HB2.out)
  go_region_held3 (fun w' => w'.cell? ⟨w.heap.size + 1, 0, none⟩ = some (.int .i64 0)) (first | exact k1 | go_keep) (first | (go_at_call 25; refine (told_none w2.drew (show GOK w2.drew from HG2.out)).mono ?_; rintro e w3 ⟨rfl, hb⟩; have k1 := pw_cell_below hb (show w2.drew.cell? ⟨w.heap.size + 1, 0, none⟩ = some (.int .i64 0) from c1); have HB3 := Aside0.mk (below_then HB2.out.drew HB2.out.size hb); clear hb))
  all_goals
    go_wp2_with fail
    go_ret2
    exact ⟨rfl, HB3.out⟩

def margin_Between.f (l0 : List (S42)) (a1 : Int) : Option (Int × Int) := if l0.length ≤ 1000 then some (if stackB l0 then btwF l0 a1 else (0, 100)) else none
theorem margin_Between.calls (A0 : Option Addr) (c0 : Nat) (l0 : List (S42)) (a1 : Int) (r1 : Int) (r2 : Int) (w : World) (hr0 : Kd.C k42 w A0 l0.length l0) (hc0 : l0.length ≤ c0) (h : margin_Between.f l0 a1 = some (r1, r2)) (hG : GOK w) :
    Calls Tryd.prog 19 #[.slice A0 l0.length c0, .int .i64 a1] w fun e w' => e = .returned (.tuple #[.int .i64 r1, .int .i64 r2]) ∧ Below w.heap.size w w' := by
  unfold margin_Between.f at h
  by_cases hl : l0.length ≤ 1000
  · rw [if_pos hl] at h
    have hr := Option.some.inj h
    by_cases hok : stackB l0 = true
    · rw [if_pos hok] at hr
      have := btw_yes A0 c0 l0 a1 w hr0 hc0 hok hG
      rw [hr] at this
      exact this
    · rw [if_neg hok, Prod.mk.injEq] at hr
      obtain ⟨rfl, rfl⟩ := hr
      exact btw_no A0 c0 l0 a1 w hr0 hc0 hl (Bool.eq_false_iff.mpr hok) hG
  · rw [if_neg hl] at h
    cases h
end Go.Proofs.YtiodlbfdfnideaaDoor.G
