/- YtdphijhebppeeaaDoorF38, YtdphijhebppeeaaDoorF39, YtdphijhebppeeaaDoorF40, YtdphijhebppeeaaDoorJ3, YtdphijhebppeeaaDoorJ5, YtdphijhebppeeaaDoorJ6, YtdphijhebppeeaaDoorX6, YtdphijhebppeeaaDoorX7, YtdphijhebppeeaaDoorK6: texts of ours, one behind the other. Put together by merge.py. -/
import Derived.Test.YtdphijhebppeeaaDoorF34
import Derived.Test.YtdphijhebppeeaaDoorR
import Derived.Test.YtdphijhebppeeaaDoorX1
import Derived.Test.YtdphijhebppeeaaDoorG3
import Derived.BigQuiet
/- Chapter 16: all that have columns: the closure that closes what is around. Written by tmpl.py out of F38.tl. -/
namespace Go.Proofs.YtdphijhebppeeaaDoor.G
open Go.RowKit Go.Shelf Go.Maps Go.MapKept Go.ChangeMaps Go.ChangeShapes Go.Proofs.YtdphijhebppeeaaDoorW.PrintWords Go.Proofs.YtdphijhebppeeaaDoorW.PrintLast Go.Proofs.YtdphijhebppeeaaDoorW.PrintMore
attribute [local irreducible] cN
def TwoS (w : World) (base ab ob : Nat) (S O : List Int) (va vo : Value) : Prop :=
 w.heap[ab]? = some (.cells #[va] 36 (0, 0)) ∧ w.heap[ob]? = some (.cells #[vo] 36 (0, 0)) ∧ w.ownsInts base 3 .i64 va S ∧ w.ownsInts base 3 .i64 vo O ∧ ∀ x, va.ownBlock = some x → vo.ownBlock ≠ some x
theorem TwoS.symm {w : World} {base ab ob : Nat} {S O : List Int} {va vo : Value} (h : TwoS w base ab ob S O va vo) : TwoS w base ob ab O S vo va :=
 ⟨h.2.1, h.1, h.2.2.2.1, h.2.2.1, fun x e e2 => h.2.2.2.2 x e2 e⟩
structure MFr (w2 w3 : World) (ab ob : Nat) (W : World) : Prop where
 below : Below w2.heap.size w2 W
 size : w3.heap.size ≤ W.heap.size
 kept : ∀ k, k < w3.heap.size → k ≠ ab → k ≠ ob → W.heap[k]? = w3.heap[k]?
theorem MFr.symm {w2 w3 : World} {ab ob : Nat} {W : World} (h : MFr w2 w3 ab ob W) : MFr w2 w3 ob ab W := ⟨h.below, h.size, fun k h1 h2 h3 => h.kept k h1 h3 h2⟩
theorem two_push {w W7 : World} {base ab ob : Nat} {S O : List Int} {va vo v' : Value} {y : Int} (h : TwoS w base ab ob S O va vo) (hne : ab ≠ ob)
  (hown' : W7.ownsRow base 3 1 v' (S.length + 1) (S.map (Value.int .i64) ++ [.int .i64 y])) (hg : w.grownBy W7 va.ownBlock) (hloc : v'.ownBlock = va.ownBlock ∨ ∃ g, v'.ownBlock = some g ∧ w.heap.size ≤ g) (hy : (Lit.int .i64 y).wf = true) :
  TwoS (W7.setCell ⟨ab, 0, none⟩ v') base ab ob (S ++ [y]) O v' vo ∧ ∀ w2 w3 : World, w3.heap.size ≤ base → w2.heap.size ≤ w3.heap.size → w2.heap.size ≤ ab → MFr w2 w3 ab ob w → MFr w2 w3 ab ob (W7.setCell ⟨ab, 0, none⟩ v') := by
 obtain ⟨h1, h2, h3, h4, h5⟩ := h
 have hS8 := grown_setCell W7 ⟨ab, 0, none⟩ v'
 have hC7 := (hg.block ab (blk_lt h1) (fun e => ints_ne h3 h1 e.symm rfl)).trans h1
 have hO7 := (hg.block ob (blk_lt h2) (fun e => ints_ne h3 h2 e.symm rfl)).trans h2
 have hi7 : W7.ownsInts base 3 .i64 v' (S ++ [y]) := h3.appended hown' hy
 have ho7 : W7.ownsInts base 3 .i64 vo O := h4.kept hg (by
  cases hv : vo.ownBlock with
  | none => exact .inl rfl
  | some x => exact .inr fun e => h5 x e.symm hv)
 refine ⟨⟨blk_put hC7 0 _ rfl, (Below.heap_setCell W7 ⟨ab, 0, none⟩ v' ob (fun e => hne e.symm)).trans hO7, hi7.kept hS8 (.inr (fun e => ints_ne hi7 hC7 e rfl)), ho7.kept hS8 (.inr (fun e => ints_ne ho7 hC7 e rfl)), fun x e e2 => ?_⟩, fun w2 w3 hb3 hb0 hb1 hb => ⟨?_, Nat.le_trans hb.size (Nat.le_trans hg.size hS8.size), fun k k1 k2 k3 => ?_⟩⟩
 ·
  rcases hloc with e3 | ⟨g, e3, e4⟩
  ·
   exact h5 x (e3 ▸ e) e2
  ·
   rw [e3] at e
   cases e
   have := (h4.1.lt x e2).2
   omega
 ·
  exact pw_below_grown (pw_below_grown hb.below _ hb.below.size hg (fun k e => Nat.le_trans (Nat.le_trans hb0 hb3) (h3.1.lt k e).1)) _ (Nat.le_trans hb.below.size hg.size) hS8 (fun k e => by cases e; exact hb1)
 ·
  exact (Below.heap_setCell W7 ⟨ab, 0, none⟩ v' k k2).trans ((hg.block k (Nat.lt_of_lt_of_le k1 hb.size) (fun e => by have := (h3.1.lt k e.symm).1; omega)).trans (hb.kept k k1 k2 k3))
theorem two_pop {w : World} {base ab ob g n cap : Nat} {S O : List Int} {vo : Value} {x : Int} (h : TwoS w base ab ob (S ++ [x]) O (.slice (some ⟨g, 0, none⟩) n cap) vo) (hne : ab ≠ ob) :
  TwoS (w.setCell ⟨ab, 0, none⟩ (.slice (some ⟨g, 0, none⟩) S.length cap)) base ab ob S O (.slice (some ⟨g, 0, none⟩) S.length cap) vo ∧ ∀ w2 w3 : World, w2.heap.size ≤ ab → MFr w2 w3 ab ob w → MFr w2 w3 ab ob (w.setCell ⟨ab, 0, none⟩ (.slice (some ⟨g, 0, none⟩) S.length cap)) := by
 obtain ⟨h1, h2, h3, h4, h5⟩ := h
 have hS8 := grown_setCell w ⟨ab, 0, none⟩ (.slice (some ⟨g, 0, none⟩) S.length cap)
 have hi := ints_shrink h3
 refine ⟨⟨blk_put h1 0 _ rfl, (Below.heap_setCell w ⟨ab, 0, none⟩ _ ob (fun e => hne e.symm)).trans h2, hi.kept hS8 (.inr (fun e => ints_ne hi h1 e rfl)), h4.kept hS8 (.inr (fun e => ints_ne h4 h1 e rfl)), fun y e => h5 y e⟩, fun w2 w3 hb1 hb => ⟨?_, Nat.le_trans hb.size hS8.size, fun k k1 k2 k3 => ?_⟩⟩
 ·
  exact pw_below_grown hb.below _ hb.below.size hS8 (fun k e => by cases e; exact hb1)
 ·
  exact (Below.heap_setCell w ⟨ab, 0, none⟩ _ k k2).trans (hb.kept k k1 k2 k3)
def multB (t : List Node) (k : Int) : Bool := decide ((t.getD k.toNat zN).f1 = 4)
def closR (t : List Node) (n : Int) : List Int → List Int → List Int × List Int
 | [], O => ([], O)
 | k :: R, O => if k = n then (k :: R, O) else closR t n R (if multB t k = true then O ++ [k] else O)
def aLen (ab : Nat) (w : World) : Nat := match w.cell? ⟨ab, 0, none⟩ with | some (.slice _ n _) => n | _ => 0
theorem aLen_of {w : World} {base ab ob : Nat} {S O : List Int} {va vo : Value} (h : TwoS w base ab ob S O va vo) : aLen ab w = S.length := by
 obtain ⟨A, c, rfl, _, _⟩ := ints_shape2 h.2.2.1
 unfold aLen
 rw [cell_at h.1 0 rfl]
 rfl
end Go.Proofs.YtdphijhebppeeaaDoor.G
/- Chapter 16: the closure that closes what is around, walked. Written by tmpl.py out of F39.tl. -/
namespace Go.Proofs.YtdphijhebppeeaaDoor.G
open Go.RowKit Go.Shelf Go.Maps Go.MapKept Go.ChangeMaps Go.ChangeShapes Go.Proofs.YtdphijhebppeeaaDoorW.PrintWords Go.Proofs.YtdphijhebppeeaaDoorW.PrintLast Go.Proofs.YtdphijhebppeeaaDoorW.PrintMore
attribute [local irreducible] cN
set_option maxRecDepth 100000 in
set_option maxHeartbeats 2000000 in
theorem close_any (t : List Node) (A : Option Addr) (c : Nat) (n : Int) (w2 w3 : World) (ab ob tb : Nat) (h23 : w2.heap.size ≤ w3.heap.size) (hlen : t.length ≤ 200) (hc : kN.C w2 A t.length t) (htb : w2.heap[tb]? = some (.cells #[.slice A t.length c] 22 (0, 0)))
  (hab : w2.heap.size ≤ ab) (hob : w2.heap.size ≤ ob) (hne : ab ≠ ob) (R O : List Int) (hR : ∀ x ∈ R, ∃ m : Nat, x = m ∧ m < t.length) (hRO : R.length + O.length ≤ 1000) (W : World) (hb : MFr w2 w3 ab ob W) (hT : ∃ va vo, TwoS W w3.heap.size ab ob R.reverse O va vo) :
  Calls Tryd.prog 43 #[.int .i64 n, .pointer (some ⟨ab, 0, none⟩), .pointer (some ⟨tb, 0, none⟩), .pointer (some ⟨ob, 0, none⟩)] W fun e W' => e = .returned (.tuple #[]) ∧ (∃ va vo, TwoS W' w3.heap.size ab ob (closR t n R O).1.reverse (closR t n R O).2 va vo) ∧ MFr w2 w3 ab ob W' := by
 obtain ⟨i0, hi0, hz0, hz1, hz2⟩ := info_parts info3
 have HC := Aside0.mk hc
 have H23 := Aside0.mk h23
 have HTB := Aside0.mk htb
 have HAB := Aside0.mk hab
 have HOB := Aside0.mk hob
 have HLEN := Aside0.mk hlen
 have HNE := Aside0.mk hne
 have HB := Aside0.mk hb
 have HT := Aside0.mk hT
 have HR := Aside0.mk hR
 have HRO := Aside0.mk hRO
 clear h23 hc htb hab hob hlen hne hb hT hR hRO
 go_enter Tryd.func43, Tryd.ntmps43
 go_wp2
 go_loopw [5] (fun _ wr => ∃ R' O' : List Int, Aside0 (closR t n R' O' = closR t n R O) ∧ Aside0 (∃ va vo, TwoS wr w3.heap.size ab ob R'.reverse O' va vo) ∧ Aside0 (MFr w2 w3 ab ob wr) ∧ Aside0 (∀ x ∈ R', ∃ m : Nat, x = m ∧ m < t.length) ∧ Aside0 (R'.length + O'.length ≤ 1000)) (fun _ wr => aLen ab wr)
 case atStart => exact ⟨R, O, ⟨rfl⟩, HT, HB, HR, HRO⟩
 case round =>
  obtain ⟨R', O', HE, HT', HB', HR', HRO'⟩ := hrel
  clear HT HB HR HRO
  cases R' with
  | nil =>
   obtain ⟨va, vo, hT⟩ := HT'.out
   obtain ⟨Aa, ca, rfl, _, _⟩ := ints_shape2 hT.2.2.1
   have c0 := cell_at hT.1 0 rfl
   clear hT
   go_wp2
   refine bodyPost_end (v := .tuple #[]) (by simp [results, Tryd.results43]) rfl ⟨rfl, ?_, HB'.out⟩
   rw [← HE.out]
   exact HT'.out
  | cons k R'' =>
   obtain ⟨va, vo, hT⟩ := HT'.out
   rw [List.reverse_cons] at hT
   have hsh := ints_shape hT.2.2.1
   rcases hsh with ⟨_, e⟩ | ⟨g, ca, rfl, hca, hcell⟩
   ·
    exact absurd e (by simp)
   have hln : (R''.reverse ++ [k]).length = R''.length + 1 := by simp
   have c0 := cell_at hT.1 0 rfl
   have ck := hcell R''.length (by omega)
   have hgk : (R''.reverse ++ [k]).getD R''.length 0 = k := by rw [List.getD_eq_getElem?_getD, List.getElem?_append_right (by simp)]; simp
   rw [hgk] at ck
   obtain ⟨nn, hnn⟩ : ∃ nn, (R''.reverse ++ [k]).length = nn := ⟨_, rfl⟩
   have hn1 : nn = R''.length + 1 := by omega
   rw [hnn] at c0 hT hca
   have hr1 : R''.length = nn - 1 := by omega
   have hpos : (nn : Int) > 0 := by omega
   have hro := HRO'.out
   rw [List.length_cons] at hro
   have hw : wrap64 ((nn : Int) - 1) = ((nn - 1 : Nat) : Int) := by rw [i64_in (by omega) (by omega)]; omega
   have hw2 : IntKind.i64.wrap ((nn : Int) - 1) = ((nn - 1 : Nat) : Int) := by rw [wrap_small _ (by omega) (by omega)]; omega
   have hlt : ((nn - 1 : Nat) : Int) < (nn : Int) := by omega
   rw [hr1] at ck
   have HT2 := Aside0.mk hT
   have HR1 := Aside0.mk hr1
   clear hT hln hgk hnn hn1 hr1 hro hcell
   have hclo : closR t n (k :: R'') O' = if k = n then (k :: R'', O') else closR t n R'' (if multB t k = true then O' ++ [k] else O') := rfl
   by_cases hk : k = n
   ·
    rw [if_pos hk] at hclo
    have hkb : (k != n) = false := by simp [hk]
    have HCL := Aside0.mk hclo
    clear hclo
    go_wp2
    refine bodyPost_end (v := .tuple #[]) (by simp [results, Tryd.results43]) rfl ⟨rfl, ?_, HB'.out⟩
    rw [← HE.out, HCL.out]
    exact HT'.out
   ·
    rw [if_neg hk] at hclo
    have hkb : (k != n) = true := by simp [hk]
    have HCL := Aside0.mk hclo
    obtain ⟨m, rfl, hm⟩ := HR'.out k (List.mem_cons_self ..)
    obtain ⟨ad, M, rfl, hM, hr⟩ := node_at (Kd.C_below HC.out HB'.out.below) m hm
    have g1 := ranges_at hr 0 hM.c1
    have ct := cell_at (blk_below HTB.out HB'.out.below) 0 rfl
    have hm1 : (m : Int) < t.length := by omega
    obtain ⟨kd, hkd⟩ : ∃ kd, (t.getD m zN).f1 = kd := ⟨_, rfl⟩
    rw [hkd] at g1
    have hmb : multB t (m : Int) = decide (kd = 4) := by unfold multB; rw [Int.toNat_natCast, hkd]
    have HMB := Aside0.mk hmb
    clear hclo hM hr hmb hkd
    have hle : ((nn - 1 : Nat) : Int) ≤ (ca : Int) := by omega
    have hle0 : (0 : Int) ≤ ((nn - 1 : Nat) : Int) := by omega
    have hpop := fun (w : World) (O2 : List Int) (vo2 : Value) (h : TwoS w w3.heap.size ab ob (R''.reverse ++ [(m : Int)]) O2 (.slice (some ⟨g, 0, none⟩) nn ca) vo2) => two_pop h HNE.out
    rw [List.length_reverse, HR1.out] at hpop
    have HPOP := Aside0.mk hpop
    have fz0 := blk_frozen HT2.out.1 0
    clear hpop
    by_cases h4 : kd = 4
    ·
     subst h4
     obtain ⟨Ao, co, rfl, _, _⟩ := ints_shape2 HT2.out.2.2.2.1
     have o0 := cell_at HT2.out.2.1 0 rfl
     have hol : O'.length ≤ 1000 := by have := HRO'.out; omega
     go_upto_region 4 with (first | (at_builtin; refine wpList_append_own_at _ rfl _ _ 36 rfl w3.heap.size 3 i0 (.int .i64 0) 1 8 Tryd.underlying36 hi0 hz0 hz1 hz2 rfl (by decide) _ _ _ rfl (HT2.out.2.2.2.1.1.alloc _) ⟨wr.heap.size, 0, none⟩ 1 1 [.int .i64 m] rfl rfl (cell_one_new _ _ _) (ints_oneCell .i64 [(m : Int)]) (by unfold maxLen; omega) (by omega) (by have := HB'.out.size; simp; omega) ?_; intro v' w5 hown' hgrow _ hloc; obtain ⟨gv, cv, rfl⟩ := own_shape hown' (by omega); have hg5 := (World.grownBy_alloc wr (.cells #[.int .i64 m] 3) _).trans hgrow; have HP := Aside0.mk (two_push (y := (m : Int)) HT2.out.symm HNE.out.symm (by simpa using hown') hg5 (hloc.imp id (fun e => ⟨_, e, by simp⟩)) (wf64 (z := (m : Int)) (by omega) (by have := HLEN.out; omega))); have hC7 := (hg5.block ob (blk_lt HT2.out.2.1) (fun e => ints_ne HT2.out.2.2.2.1 HT2.out.2.1 e.symm rfl)).trans HT2.out.2.1; have o7 := cell_at hC7 0 rfl; have f7 := blk_frozen hC7 0; clear hown' hgrow hloc hC7 hg5))
     obtain ⟨hp, hpb⟩ := HP.out
     have hT8 := hp.symm
     have hB8 := (hpb w2 w3 (Nat.le_refl _) H23.out HOB.out HB'.out.symm).symm
     clear hp hpb o7 f7 o0 c0 ck fz0 ct g1 HP
     obtain ⟨W8, hW8⟩ : ∃ W8, w5.setCell ⟨ob, 0, none⟩ (.slice (some ⟨gv, 0, none⟩) (O'.length + 1) cv) = W8 := ⟨_, rfl⟩
     rw [hW8] at hT8 hB8 ⊢
     clear hW8
     have c0 := cell_at hT8.1 0 rfl
     have fz0 := blk_frozen hT8.1 0
     have HT8 := Aside0.mk hT8
     have HB8 := Aside0.mk hB8
     clear hT8 hB8
     go_wp2
     obtain ⟨hp1, hp2⟩ := HPOP.out W8 (O' ++ [(m : Int)]) _ HT8.out
     refine ⟨⟨R'', O' ++ [(m : Int)], ⟨?_⟩, ⟨_, _, hp1⟩, ⟨hp2 w2 w3 HAB.out HB8.out⟩, ⟨fun x hx => HR'.out x (List.mem_cons_of_mem _ hx)⟩, ⟨by have := HRO'.out; rw [List.length_cons] at this; rw [List.length_append, List.length_singleton]; omega⟩⟩, ?_⟩
     ·
      rw [← HE.out, HCL.out, HMB.out]
      rfl
     ·
      rw [aLen_of hp1, aLen_of HT2.out]
      simp
    ·
     have hne4 : (kd == 4) = false := by simp [h4]
     have HNC := Aside0.mk (show multB t (m : Int) = false by rw [HMB.out]; exact decide_eq_false h4)
     clear h4
     go_wp2
     obtain ⟨hp1, hp2⟩ := HPOP.out wr O' vo HT2.out
     refine ⟨⟨R'', O', ⟨?_⟩, ⟨_, _, hp1⟩, ⟨hp2 w2 w3 HAB.out HB'.out⟩, ⟨fun x hx => HR'.out x (List.mem_cons_of_mem _ hx)⟩, ⟨by have := HRO'.out; rw [List.length_cons] at this; omega⟩⟩, ?_⟩
     ·
      rw [← HE.out, HCL.out, HNC.out]
      rfl
     ·
      rw [aLen_of hp1, aLen_of HT2.out]
      simp
end Go.Proofs.YtdphijhebppeeaaDoor.G
/- Chapter 16: all that have columns. Written by tmpl.py out of F40.tl. -/
namespace Go.Proofs.YtdphijhebppeeaaDoor.G
open Go.RowKit Go.Shelf Go.Maps Go.MapKept Go.ChangeMaps Go.ChangeShapes Go.Proofs.YtdphijhebppeeaaDoorW.PrintWords Go.Proofs.YtdphijhebppeeaaDoorW.PrintLast Go.Proofs.YtdphijhebppeeaaDoorW.PrintMore
attribute [local irreducible] cN
def stepM (t : List Node) (st : List Int × List Int) (m : Int) : List Int × List Int := (m :: (closR t (t.getD m.toNat zN).f0 st.1 st.2).1, (closR t (t.getD m.toNat zN).f0 st.1 st.2).2)
def runM (t : List Node) (L : List Int) : List Int × List Int := L.foldl (stepM t) ([], [])
def multisL (t : List Node) : List Int := (closR t (-1) (runM t (belowL t 0)).1 (runM t (belowL t 0)).2).2
def openE (t : List Node) : Int := match openT t with | some (_, i) => 50 + (i : Int) | none => 0
def segment_Multis.f (l0 : List Node) : Option (List Int × Int) := if openE l0 ≠ 0 then some ([], openE l0) else if (belowL l0 0).length ≤ 500 then some (multisL l0, 0) else none
theorem closR_sub (t : List Node) (n : Int) : ∀ (R O : List Int), (∀ x ∈ (closR t n R O).1, x ∈ R) ∧ (closR t n R O).1.length + (closR t n R O).2.length ≤ R.length + O.length
 | [], O => ⟨fun x hx => hx, Nat.le_refl _⟩
 | k :: R, O => by
  rw [closR]
  split
  ·
   exact ⟨fun x hx => hx, Nat.le_refl _⟩
  ·
   obtain ⟨h1, h2⟩ := closR_sub t n R (if multB t k = true then O ++ [k] else O)
   refine ⟨fun x hx => List.mem_cons_of_mem _ (h1 x hx), Nat.le_trans h2 ?_⟩
   rw [List.length_cons]
   split
   ·
    rw [List.length_append, List.length_singleton]; omega
   ·
    omega
theorem runM_snoc (t : List Node) (L : List Int) (m : Int) : runM t (L ++ [m]) = stepM t (runM t L) m := by
 unfold runM
 rw [List.foldl_append]
 rfl
theorem runM_ok (t : List Node) (L : List Int) : (∀ x ∈ (runM t L).1, x ∈ L) ∧ (runM t L).1.length + (runM t L).2.length ≤ L.length := by
 induction L using snoc_ind' with
 | h0 => exact ⟨fun x hx => hx, Nat.le_refl _⟩
 | h1 L k ih =>
  rw [runM_snoc, List.length_append, List.length_singleton]
  unfold stepM
  obtain ⟨h1, h2⟩ := closR_sub t (t.getD k.toNat zN).f0 (runM t L).1 (runM t L).2
  refine ⟨fun x hx => ?_, ?_⟩
  ·
   rcases List.mem_cons.1 hx with rfl | hx
   ·
    simp
   ·
    exact List.mem_append_left _ (ih.1 x (h1 x hx))
  ·
   dsimp only
   rw [List.length_cons]
   omega
theorem belowF_mem (t : List Node) : ∀ (f : Nat) (n x : Int), x ∈ belowF t f n → x = n ∨ ∃ m : Nat, x = m ∧ m < t.length
 | 0, n, x, h => by
  unfold belowF at h
  exact .inl (by simpa using h)
 | f + 1, n, x, h => by
  unfold belowF at h
  rcases List.mem_cons.1 h with rfl | h
  ·
   exact .inl rfl
  ·
   obtain ⟨y, hy, hx⟩ := List.mem_flatMap.1 h
   rcases belowF_mem t f y x hx with rfl | h2
   ·
    obtain ⟨m, rfl, _, h3, _⟩ := kidsL_mem hy
    exact .inr ⟨m, rfl, h3⟩
   ·
    exact .inr h2
theorem multis1_eg : ∀ args w, (callFunc 43 args).run Tryd.prog w = .ok (.enter 43 args) w := fun args w => by go_simp
set_option maxRecDepth 100000 in
set_option maxHeartbeats 2000000 in
theorem segment_Multis.calls (A0 : Option Addr) (c0 : Nat) (l0 : List (S31)) (r1 : List Int) (r2 : Int) (w : World) (hr0 : Kd.C k31 w A0 l0.length l0) (hc0 : l0.length ≤ c0) (h : segment_Multis.f l0 = some (r1, r2)) (hG : GOK w) :
  Calls Tryd.prog 22 #[.slice A0 l0.length c0] w fun e w' => ∃ v0_ : Value, e = .returned (.tuple #[v0_, .int .i64 r2]) ∧ Kd.R (Kd.int .i64) 3 w' w.heap.size (fun _ => True) v0_ r1 ∧ Below w.heap.size w w' := by
 obtain ⟨i0, hi0, hz0, hz1, hz2⟩ := info_parts info3
 have _h0 := hc0
 have hB1 := below_alloc (Below.refl w.heap.size w) (.cells #[.slice A0 l0.length c0] 22)
 have HX := Aside0.mk (blk_new w (.cells #[.slice A0 l0.length c0] 22))
 have c1 := cell_at (blk_new w (.cells #[.slice A0 l0.length c0] 22)) 0 rfl
 have hs := (show (w.alloc (.cells #[.slice A0 l0.length c0] 22)).heap.size = w.heap.size + 1 by simp)
 obtain ⟨w1, hw1⟩ : ∃ w1, w.alloc (.cells #[.slice A0 l0.length c0] 22) = w1 := ⟨_, rfl⟩
 have HW := Aside0.mk hw1
 rw [hw1] at hB1 HX c1 hs
 have HS := Aside0.mk hs
 have HA := Aside0.mk (sopen_any l0 A0 c0 w1 (Kd.C_below hr0 hB1) hc0 (hG.below hB1))
 have HC := Aside0.mk (Kd.C_below hr0 hB1)
 have HG := Aside0.mk (hG.below hB1)
 have HB1 := Aside0.mk hB1
 clear hr0 hG hB1 hs hw1
 unfold segment_Multis.f at h
 cases hop : openT l0 with
 | some p =>
  obtain ⟨k, i⟩ := p
  have hoe : openE l0 = 50 + (i : Int) := by unfold openE; rw [hop]
  rw [hoe, if_pos (by omega)] at h
  simp only [Option.some.injEq, Prod.mk.injEq] at h
  obtain ⟨rfl, rfl⟩ := h
  have HP := Aside0.mk (show SOpenPost l0 A0 w1 = fun e w' => e = .returned (.tuple #[.pointer none, .iface 59 (.agg #[.int .i64 (50 + (i : Int))])]) ∧ Below w1.heap.size w1 w' by funext e w'; unfold SOpenPost; rw [hop])
  clear hoe hop
  generalize 50 + (i : Int) = e0 at *
  go_enter Tryd.func22, Tryd.ntmps22
  go_upto_region 1 with fail
  rw [HW.out]
  go_wp2_with (first | (go_at_call 41; refine HA.out.mono ?_; rintro e w2 hq; rw [HP.out] at hq; obtain ⟨rfl, hB⟩ := hq; have HB := Aside0.mk hB; clear hB) | (go_at_call 29; refine (stold_any _ w2 (HG.out.below (by exact HB.out))).mono ?_; rintro e w3 ⟨rfl, hb3⟩))
  go_ret2
  exact ⟨_, rfl, Kd.R_nil _ _ _ _ _, below_then HB1.out HB1.out.size (below_then HB.out HB.out.size hb3)⟩
 | none =>
  have hoe : openE l0 = 0 := by unfold openE; rw [hop]
  rw [hoe, if_neg (by simp)] at h
  by_cases hbl : (belowL l0 0).length ≤ 500
  ·
   rw [if_pos hbl] at h
   simp only [Option.some.injEq, Prod.mk.injEq] at h
   obtain ⟨rfl, rfl⟩ := h
   obtain ⟨h1, h2, _⟩ := open_none hop
   have hof : tree_Order.f l0 = some (belowL l0 0, 0) := by
    have hEn : errN l0 0 = 0 := by unfold errN; rw [hop]; exact if_neg (by omega)
    unfold tree_Order.f tree_Below.f
    rw [if_neg (by rw [hEn]; simp), if_pos (by omega)]
   have hbr : ∀ x ∈ belowL l0 0, ∃ m : Nat, x = m ∧ m < l0.length := fun x hx => by
    rcases belowF_mem l0 _ 0 x hx with rfl | h
    ·
     exact ⟨0, rfl, by omega⟩
    ·
     exact h
   have hml : multisL l0 = (closR l0 (-1) (runM l0 (belowL l0 0)).1 (runM l0 (belowL l0 0)).2).2 := rfl
   have HP := Aside0.mk (show SOpenPost l0 A0 w1 = fun e w' => ∃ g m, e = .returned (.tuple #[.pointer (some ⟨g, 0, none⟩), .nilIface]) ∧ Climb w' w1.heap.size g m l0 A0 0 ∧ Below w1.heap.size w1 w' by funext e w'; unfold SOpenPost; rw [hop])
   obtain ⟨L, hL⟩ : ∃ L, belowL l0 0 = L := ⟨_, rfl⟩
   rw [hL] at hbl hof hbr hml
   have HOF := Aside0.mk hof
   have HBR := Aside0.mk hbr
   have HML := Aside0.mk hml
   have HL2 := Aside0.mk h2
   clear hoe hop hL hof hbr hml h1 h2
   go_enter Tryd.func22, Tryd.ntmps22
   go_upto_region 1 with fail
   rw [HW.out]
   go_upto_region 4 with (first | (go_at_call 41; refine HA.out.mono ?_; rintro e w2 hq; rw [HP.out] at hq; obtain ⟨g, m, rfl, hCl, hB⟩ := hq; have HB := Aside0.mk hB; have HCl := Aside0.mk hCl.cells; clear hB hCl))
   go_upto_region 5 with fail
   have hbx := below_alloc (below_alloc (Below.refl w2.heap.size w2) (.cells #[.slice none 0 0] 36)) (.cells #[.slice none 0 0] 36)
   have hob := blk_alloc (blk_new w2 (.cells #[.slice none 0 0] 36)) (.cells #[.slice none 0 0] 36)
   have hab : ((w2.alloc (.cells #[.slice none 0 0] 36)).alloc (.cells #[.slice none 0 0] 36)).heap[w2.heap.size + 1]? = some (.cells #[.slice none 0 0] 36) := by simpa using blk_new (w2.alloc (.cells #[.slice none 0 0] 36)) (.cells #[.slice none 0 0] 36)
   have hsx : ((w2.alloc (.cells #[.slice none 0 0] 36)).alloc (.cells #[.slice none 0 0] 36)).heap.size = w2.heap.size + 2 := by simp
   obtain ⟨wx, hwx⟩ : ∃ wx, (w2.alloc (.cells #[.slice none 0 0] 36)).alloc (.cells #[.slice none 0 0] 36) = wx := ⟨_, rfl⟩
   rw [hwx] at hbx hob hab hsx ⊢
   clear hwx
   have z0 := cell_at (blk_below HCl.out hbx) 0 rfl
   have HOc := Aside0.mk (tree_Order.calls A0 l0.length l0 L 0 wx (Kd.C_below (Kd.C_below HC.out HB.out) hbx) (Nat.le_refl _) HOF.out ((HG.out.below HB.out).below hbx))
   have HOb := Aside0.mk hob
   have HAb := Aside0.mk hab
   have HSx := Aside0.mk hsx
   have HBx := Aside0.mk hbx
   clear hob hab hsx hbx
   go_upto_region 7 with (first | (go_at_call 42; refine HOc.out.mono ?_; rintro e w3 ⟨v, rfl, ho, hb3⟩; obtain ⟨Ak, ck, rfl⟩ := Kd.R_slice ho; have HO := Aside0.mk ho; have HB3 := Aside0.mk hb3; clear ho hb3))
   clear z0
   have h23 : w2.heap.size + 2 ≤ w3.heap.size := by have := HB3.out.size; have := HSx.out; omega
   have hR : Kd.R (Kd.int .i64) 3 w3 wx.heap.size (fun k => wx.heap.size ≤ k) (.slice Ak L.length ck) L := ⟨fun k hk => Kd.R_base HO.out k hk, HO.out.2⟩
   have HF := Aside0.mk (Kd.R_F hR)
   have HM0 := Aside0.mk (show MFr w2 w3 (w2.heap.size + 1) w2.heap.size w3 from ⟨HBx.out.trans (below_less HB3.out HBx.out.size), Nat.le_refl _, fun _ _ _ _ => rfl⟩)
   have HT0 := Aside0.mk (show ∃ va vo, TwoS w3 w3.heap.size (w2.heap.size + 1) w2.heap.size [] [] va vo from ⟨_, _, blk_below HAb.out HB3.out, blk_below HOb.out HB3.out, World.ownsInts_nil _ _ _ _, World.ownsInts_nil _ _ _ _, fun x e => by cases e⟩)
   have H23 := Aside0.mk h23
   clear hR h23
   go_wp2
   go_loopw [34] (fun i wr => ∃ j : Nat, i = .int .i64 j ∧ j ≤ L.length ∧ Aside0 (∃ va vo, TwoS wr w3.heap.size (w2.heap.size + 1) w2.heap.size (runM l0 (L.take j)).1.reverse (runM l0 (L.take j)).2 va vo) ∧ Aside0 (MFr w2 w3 (w2.heap.size + 1) w2.heap.size wr)) (fun i _ => L.length - (intZ i).toNat)
   case atStart => exact ⟨0, rfl, Nat.zero_le _, HT0, HM0⟩
   case round =>
    obtain ⟨j, rfl, hj, HT, HM⟩ := hrel
    clear HT0 HM0
    by_cases hlt : j < L.length
    ·
     have hlt' : (j : Int) < L.length := by omega
     have hF := Kd.F_now (Kd.F_step HF.out (fun k hk hk2 => HM.out.kept k hk2 (by have := HSx.out; omega) (by have := HSx.out; omega)))
     obtain ⟨ak, cc, rfl, _, hK, hcc⟩ := Kd.C_get hF 0 (j : Int) (by omega) (by omega)
     have hK' : cc = [.int .i64 (L.getD (j : Int).toNat 0)] := hK
     subst hK'
     have gj := hcc 0 _ rfl
     rw [Int.toNat_natCast, show (Kd.int .i64).sz = 1 from rfl, Nat.mul_one, Nat.add_zero] at gj
     obtain ⟨m', hm, hml⟩ := HBR.out (L.getD j 0) (by rw [List.getD_eq_getElem?_getD, List.getElem?_eq_getElem hlt]; exact List.getElem_mem _)
     rw [hm] at gj
     have htk : L.take (j + 1) = L.take j ++ [(m' : Int)] := by
      rw [List.take_add_one, List.getElem?_eq_getElem hlt]
      rw [List.getD_eq_getElem?_getD, List.getElem?_eq_getElem hlt] at hm
      simp only [Option.getD_some] at hm
      rw [hm]; rfl
     have hC2 := Kd.C_below HC.out HB.out
     obtain ⟨ad', Mk, rfl, hMk, hrk⟩ := node_at (Kd.C_below hC2 HM.out.below) m' hml
     have g1 := ranges_first hrk hMk.c0
     have ct := cell_at (blk_below (blk_below HX.out HB.out) HM.out.below) 0 rfl
     obtain ⟨pr, hpr⟩ : ∃ pr, (l0.getD m' zN).f0 = pr := ⟨_, rfl⟩
     rw [hpr] at g1
     obtain ⟨hr1, hr2⟩ := runM_ok l0 (L.take j)
     have hstep : runM l0 (L.take (j + 1)) = ((m' : Int) :: (closR l0 pr (runM l0 (L.take j)).1 (runM l0 (L.take j)).2).1, (closR l0 pr (runM l0 (L.take j)).1 (runM l0 (L.take j)).2).2) := by
      rw [htk, runM_snoc]
      unfold stepM
      rw [Int.toNat_natCast, hpr]
     obtain ⟨hq1, hq2⟩ := closR_sub l0 pr (runM l0 (L.take j)).1 (runM l0 (L.take j)).2
     have hjl : (L.take j).length ≤ 500 := by rw [List.length_take]; omega
     have HCA := Aside0.mk (close_any l0 (some ad') c0 pr w2 w3 (w2.heap.size + 1) w2.heap.size w.heap.size (by have := H23.out; omega) HL2.out hC2 (blk_below HX.out HB.out) (by omega) (Nat.le_refl _) (by omega) (runM l0 (L.take j)).1 (runM l0 (L.take j)).2 (fun x hx => HBR.out x (List.mem_of_mem_take (hr1 x hx))) (by omega) wr HM.out HT.out)
     have hl3 : (closR l0 pr (runM l0 (L.take j)).1 (runM l0 (L.take j)).2).1.length ≤ 1000 := by omega
     have HST := Aside0.mk hstep
     obtain ⟨qs, hqs⟩ : ∃ qs, closR l0 pr (runM l0 (L.take j)).1 (runM l0 (L.take j)).2 = qs := ⟨_, rfl⟩
     rw [hqs] at HCA HST hl3
     have hm1 : (m' : Int) < l0.length := by omega
     clear hqs hq1 hq2 hjl hstep hr1 hr2 hpr hMk hrk hC2 htk hm hcc hF hK
     have eg := multis1_eg
     go_upto_region 11 with (first | (go_at_call 43; refine HCA.out.mono ?_; rintro e w5 ⟨rfl, hT5, hM5⟩; have HT5 := Aside0.mk hT5; have HM5 := Aside0.mk hM5; clear hT5 hM5))
     clear eg g1 ct gj
     obtain ⟨va, vo, hT5⟩ := HT5.out
     obtain ⟨S, hS⟩ : ∃ S, qs.1.reverse = S := ⟨_, rfl⟩
     rw [hS] at hT5
     have hSl : S.length ≤ 1000 := by rw [← hS, List.length_reverse]; exact hl3
     have HS2 := Aside0.mk hS
     obtain ⟨Aa, ca, rfl, _, _⟩ := ints_shape2 hT5.2.2.1
     have a0 := cell_at hT5.1 0 rfl
     have HT6 := Aside0.mk hT5
     clear hT5 hS hl3 HT5
     go_wp2_with (first | (at_builtin; refine wpList_append_own_at _ rfl _ _ 36 rfl w3.heap.size 3 i0 (.int .i64 0) 1 8 Tryd.underlying36 hi0 hz0 hz1 hz2 rfl (by decide) _ _ _ rfl (HT6.out.2.2.1.1.alloc _) ⟨w5.heap.size, 0, none⟩ 1 1 [.int .i64 m'] rfl rfl (cell_one_new _ _ _) (ints_oneCell .i64 [(m' : Int)]) (by unfold maxLen; omega) (by omega) (by have := HM5.out.size; simp; omega) ?_; intro v' w6 hown' hgrow _ hloc; obtain ⟨gv, cv, rfl⟩ := own_shape hown' (by omega); have hg5 := (World.grownBy_alloc w5 (.cells #[.int .i64 m'] 3) _).trans hgrow; have HP := Aside0.mk (two_push (y := (m' : Int)) HT6.out (by omega) (by simpa using hown') hg5 (hloc.imp id (fun e => ⟨_, e, by simp⟩)) (wf64 (z := (m' : Int)) (by omega) (by have := HL2.out; omega))); have hC7 := (hg5.block (w2.heap.size + 1) (blk_lt HT6.out.1) (fun e => ints_ne HT6.out.2.2.1 HT6.out.1 e.symm rfl)).trans HT6.out.1; have o7 := cell_at hC7 0 rfl; have f7 := blk_frozen hC7 0; clear hown' hgrow hloc hC7 hg5))
     obtain ⟨hp, hpb⟩ := HP.out
     have hsv : (runM l0 (L.take (j + 1))).1.reverse = S ++ [(m' : Int)] := by rw [HST.out, List.reverse_cons, HS2.out]
     have hov : (runM l0 (L.take (j + 1))).2 = qs.2 := by rw [HST.out]
     refine ⟨⟨j + 1, by go_num, by omega, ⟨?_⟩, ⟨hpb w2 w3 (Nat.le_refl _) (by have := H23.out; omega) (by omega) HM5.out⟩⟩, by simp only [intZ]; omega⟩
     rw [hsv, hov]
     exact ⟨_, _, hp⟩
    ·
     have hje : j = L.length := by omega
     have hnlt : ¬ ((j : Int) < L.length) := by omega
     obtain ⟨hr1, hr2⟩ := runM_ok l0 L
     have hT0 := HT.out
     rw [hje, List.take_length] at hT0
     have HCA := Aside0.mk (close_any l0 A0 c0 (-1) w2 w3 (w2.heap.size + 1) w2.heap.size w.heap.size (by have := H23.out; omega) HL2.out (Kd.C_below HC.out HB.out) (blk_below HX.out HB.out) (by omega) (Nat.le_refl _) (by omega) (runM l0 L).1 (runM l0 L).2 (fun x hx => HBR.out x (hr1 x hx)) (by omega) wr HM.out hT0)
     have hml := HML.out
     obtain ⟨qs, hqs⟩ : ∃ qs, closR l0 (-1) (runM l0 L).1 (runM l0 L).2 = qs := ⟨_, rfl⟩
     rw [hqs] at HCA hml
     have HQ := Aside0.mk hml
     clear hqs hr1 hr2 hT0 hml hje hj
     have eg := multis1_eg
     go_upto_region 14 with (first | (go_at_call 43; refine HCA.out.mono ?_; rintro e w5 ⟨rfl, hT5, hM5⟩; have HT5 := Aside0.mk hT5; have HM5 := Aside0.mk hM5; clear hT5 hM5))
     clear eg
     obtain ⟨va, vo, hT5⟩ := HT5.out
     have o0 := cell_at hT5.2.1 0 rfl
     have HT6 := Aside0.mk hT5
     clear hT5
     go_wp2
     go_ret2
     refine ⟨_, rfl, ?_, below_then HB1.out HB1.out.size (below_then HB.out HB.out.size HM5.out.below)⟩
     rw [HQ.out]
     exact ints_R HT6.out.2.2.2.1 (by have h1 := HB1.out.size; have h2 := HB.out.size; have h3 := H23.out; omega)
  ·
   rw [if_neg hbl] at h
   cases h
end Go.Proofs.YtdphijhebppeeaaDoor.G
/- Chapter 5: each node but the root is one deeper than what it hangs on; each is a kid of that node alone. Written by tmpl.py out of H3.tl by mkJ.py. -/
namespace Go.Proofs.YtdphijhebppeeaaDoor.G
open Go Go.RowKit Go.Proofs.YtdphijhebppeeaaDoorW.PrintWords
theorem deps_get (t : List Node) (j : Nat) : ∀ i, j < i → (depsL t i).getD j 0 = depN t j (depsL t j)
 | 0, h => by omega
 | i + 1, h => by
  have hl := depsL_len t i
  rw [depsL, List.getD_eq_getElem?_getD]
  by_cases e : j = i
  ·
   subst e
   rw [List.getElem?_append_right (by omega), hl]
   simp
  ·
   rw [List.getElem?_append_left (by omega), ← List.getD_eq_getElem?_getD, deps_get t j i (by omega)]
theorem dep_all (t : List Node) : ∀ i, ∀ d ∈ depsL t i, 0 ≤ d
 | 0, d, h => by cases h
 | i + 1, d, h => by
  rw [depsL, List.mem_append, List.mem_singleton] at h
  rcases h with h | rfl
  ·
   exact dep_all t i d h
  ·
   unfold depN
   split
   ·
    omega
   ·
    rename_i hz
    by_cases hq : (t.getD i zN).f0.toNat < (depsL t i).length
    ·
     have := dep_all t i _ (show (depsL t i).getD (t.getD i zN).f0.toNat 0 ∈ depsL t i by rw [List.getD_eq_getElem?_getD, List.getElem?_eq_getElem hq]; exact List.getElem_mem _)
     omega
    ·
     rw [List.getD_eq_getElem?_getD, List.getElem?_eq_none (by omega)]
     simp
theorem dep_pos (t : List Node) (i : Nat) : 0 ≤ depN t i (depsL t i) := dep_all t (i + 1) _ (by rw [depsL]; simp)
theorem errN_ok {t : List Node} (h : openT t = none) {n : Int} (h0 : 0 ≤ n) (h1 : n < t.length) : errN t n = 0 := by
 unfold errN
 rw [h]
 exact if_neg (by omega)
theorem err_cases (t : List Node) (n : Int) : (errN t n ≠ 0) ∨ (openT t = none ∧ 0 ≤ n ∧ n < t.length ∧ errN t n = 0) := by
 cases h : errI t n with
 | none => exact .inr (errI_none h)
 | some p => exact .inl (by rw [(errI_code h).2]; omega)
theorem deep_ok {t : List Node} (h : openT t = none) (n : Nat) (h1 : n < t.length) : tree_Deep.f t n = some (depN t n (depsL t n), 0) := by
 unfold tree_Deep.f
 rw [if_neg (by rw [errN_ok h (by omega) (by omega)]; simp), Int.toNat_natCast, deps_get t n t.length h1]
theorem good_place {t : List Node} {i : Nat} (h : goodB t i = true) : placeB t i = true := by
 unfold goodB at h
 revert h
 cases placeB t i <;> simp
theorem kids_sorted (t : List Node) (n : Int) : (kidsL t t.length n).Pairwise (· < ·) := by
 unfold kidsL
 rw [List.pairwise_map]
 refine List.Pairwise.filter _ ?_
 exact List.pairwise_lt_range.imp fun h => by omega
theorem kids_mem {t : List Node} {n : Int} {m : Nat} : (m : Int) ∈ kidsL t t.length n ↔ 0 < m ∧ m < t.length ∧ (t.getD m zN).f0 = n := by
 constructor
 ·
  intro h
  obtain ⟨q, hq, h1, h2, h3⟩ := kidsL_mem h
  obtain rfl : m = q := by omega
  exact ⟨h1, h2, h3⟩
 ·
  rintro ⟨h1, h2, h3⟩
  unfold kidsL
  exact List.mem_map.2 ⟨m, List.mem_filter.2 ⟨List.mem_range.2 h2, by rw [h3]; simp [h1]⟩, rfl⟩
end Go.Proofs.YtdphijhebppeeaaDoor.G
/- Chapter 5: what is below a node: each once, a parent ahead of its kids. Written by tmpl.py out of H5.tl by mkJ.py. -/
namespace Go.Proofs.YtdphijhebppeeaaDoor.G
open Go Go.RowKit Go.Proofs.YtdphijhebppeeaaDoorW.PrintWords
theorem nodup_sub {a : List Int} : ∀ {b : List Int}, a.Nodup → (∀ x ∈ a, x ∈ b) → a.length ≤ b.length := by
 induction a with
 | nil => intro b _ _; simp
 | cons x a ih =>
  intro b hn hs
  obtain ⟨h1, h2⟩ := List.nodup_cons.1 hn
  have hx : x ∈ b := hs x (by simp)
  have := ih (b := b.erase x) h2 (fun y hy => (List.mem_erase_of_ne (fun e => h1 (by rw [← e]; exact hy))).2 (hs y (by simp [hy])))
  rw [List.length_erase_of_mem hx] at this
  have hp : 0 < b.length := List.length_pos_of_mem hx
  simp only [List.length_cons]
  omega
def natsL (n : Nat) : List Int := (List.range n).map fun i : Nat => (i : Int)
theorem natsL_len (n : Nat) : (natsL n).length = n := by simp [natsL]
theorem natsL_mem {n : Nat} {x : Int} : x ∈ natsL n ↔ 0 ≤ x ∧ x < n := by
 unfold natsL
 constructor
 ·
  intro h
  obtain ⟨i, hi, rfl⟩ := List.mem_map.1 h
  have := List.mem_range.1 hi
  omega
 ·
  intro h
  exact List.mem_map.2 ⟨x.toNat, List.mem_range.2 (by omega), by omega⟩
theorem natsL_nodup (n : Nat) : (natsL n).Nodup := by
 unfold natsL
 rw [List.Nodup, List.pairwise_map]
 exact List.nodup_range.imp fun h e => h (by omega)
variable {t : List Node}
/-- Below a node: it, or what is below a kid. -/
theorem below_ind (hT : OKT t) {p : Int → Prop} (h : ∀ n : Nat, n < t.length → (∀ k : Nat, 0 < k → k < t.length → (t.getD k zN).f0 = (n : Int) → p k) → p n) : ∀ n : Nat, n < t.length → p n := by
 intro n hn
 have key : ∀ d n : Nat, n < t.length → t.length - n ≤ d → p n := by
  intro d
  induction d with
  | zero => intro n h1 h2; omega
  | succ d ih =>
   intro n h1 h2
   refine h n h1 fun k h0 hk hf => ih k hk ?_
   have := hT k h0 hk
   omega
 exact key t.length n hn (by omega)
theorem below_cons (hT : OKT t) {n : Nat} (hn : n < t.length) : belowL t n = (n : Int) :: (kidsL t t.length n).flatMap (belowL t) := belowL_eq hT (by omega) (by omega)
theorem below_range (hT : OKT t) : ∀ n : Nat, n < t.length → ∀ x ∈ belowL t n, (n : Int) ≤ x ∧ x < t.length := by
 refine below_ind hT (p := fun n => ∀ x ∈ belowL t n, n ≤ x ∧ x < t.length) fun n hn ih x hx => ?_
 rw [below_cons hT hn, List.mem_cons, List.mem_flatMap] at hx
 rcases hx with rfl | ⟨k, hk, hx⟩
 ·
  omega
 ·
  obtain ⟨m, rfl, h0, h1, h2⟩ := kidsL_mem hk
  have := ih m h0 h1 h2 x hx
  have := hT m h0 h1
  omega
/-- A node that is below n, and is not n, has its parent there. -/
theorem below_up (hT : OKT t) : ∀ n : Nat, n < t.length → ∀ x : Nat, (x : Int) ∈ belowL t n → x ≠ n → 0 < x ∧ (t.getD x zN).f0 ∈ belowL t n := by
 have key := below_ind hT (p := fun n => ∀ x : Nat, (x : Int) ∈ belowL t n → (x : Int) ≠ n → 0 < x ∧ (t.getD x zN).f0 ∈ belowL t n) fun n hn ih x hx hne => by
  rw [below_cons hT hn, List.mem_cons, List.mem_flatMap] at hx
  rcases hx with e | ⟨k, hk, hx⟩
  ·
   exact absurd e hne
  ·
   obtain ⟨m, rfl, h0, h1, h2⟩ := kidsL_mem hk
   by_cases e : (x : Int) = m
   ·
    have e' : x = m := by omega
    subst e'
    refine ⟨h0, ?_⟩
    rw [h2, below_cons hT hn]
    exact List.mem_cons_self ..
   ·
    obtain ⟨q1, q2⟩ := ih m h0 h1 h2 x hx e
    refine ⟨q1, ?_⟩
    rw [below_cons hT hn, List.mem_cons, List.mem_flatMap]
    exact .inr ⟨_, hk, q2⟩
 exact fun n hn x hx hne => key n hn x hx (by omega)
theorem below_self (hT : OKT t) {n : Nat} (hn : n < t.length) : (n : Int) ∈ belowL t n := by rw [below_cons hT hn]; exact List.mem_cons_self ..
/-- No node is below two kids of one. -/
theorem below_apart (hT : OKT t) {n k k' : Nat} (h0 : 0 < k) (h1 : k < t.length) (h2 : (t.getD k zN).f0 = (n : Int)) (h0' : 0 < k') (h1' : k' < t.length) (h2' : (t.getD k' zN).f0 = (n : Int)) (hne : k ≠ k') :
  ∀ x : Nat, x < t.length → (x : Int) ∈ belowL t k → (x : Int) ∈ belowL t k' → False := by
 intro x
 induction x using Nat.strongRecOn with
 | _ x ih =>
  intro hx ha hb
  have hn := hT k h0 h1
  have hn' := hT k' h0' h1'
  by_cases e : x = k
  ·
   subst e
   obtain ⟨_, q⟩ := below_up hT k' h1' x hb hne
   rw [h2] at q
   have := below_range hT k' h1' _ q
   omega
  ·
   by_cases e' : x = k'
   ·
    subst e'
    obtain ⟨_, q⟩ := below_up hT k h1 x ha (Ne.symm hne)
    rw [h2'] at q
    have := below_range hT k h1 _ q
    omega
   ·
    obtain ⟨q0, q1⟩ := below_up hT k h1 x ha e
    obtain ⟨_, q2⟩ := below_up hT k' h1' x hb e'
    obtain ⟨p0, p1⟩ := hT x q0 hx
    obtain ⟨y, hy⟩ : ∃ y : Nat, (t.getD x zN).f0 = y := ⟨(t.getD x zN).f0.toNat, by omega⟩
    rw [hy] at q1 q2 p1
    exact ih y (by omega) (by omega) q1 q2
theorem below_nodup (hT : OKT t) : ∀ n : Nat, n < t.length → (belowL t n).Nodup := by
 refine below_ind hT (p := fun n => (belowL t n).Nodup) fun n hn ih => ?_
 rw [below_cons hT hn]
 refine List.nodup_cons.2 ⟨fun h => ?_, ?_⟩
 ·
  obtain ⟨k, hk, hx⟩ := List.mem_flatMap.1 h
  obtain ⟨m, rfl, h0, h1, h2⟩ := kidsL_mem hk
  have := below_range hT m h1 _ hx
  have := hT m h0 h1
  omega
 ·
  rw [List.Nodup, List.pairwise_flatMap]
  refine ⟨fun k hk => ?_, ?_⟩
  ·
   obtain ⟨m, rfl, h0, h1, h2⟩ := kidsL_mem hk
   exact ih m h0 h1 h2
  ·
   refine (kids_sorted t n).imp_of_mem fun {a b} ha hb hlt x hx y hy e => ?_
   obtain ⟨ma, rfl, a0, a1, a2⟩ := kidsL_mem ha
   obtain ⟨mb, rfl, b0, b1, b2⟩ := kidsL_mem hb
   subst e
   have hr := below_range hT ma a1 _ hx
   obtain ⟨z, rfl⟩ : ∃ z : Nat, x = z := ⟨x.toNat, by omega⟩
   exact below_apart hT a0 a1 a2 b0 b1 b2 (by omega) z (by omega) hx hy
theorem below_len (hT : OKT t) {n : Nat} (hn : n < t.length) : (belowL t n).length ≤ t.length := by
 have := nodup_sub (below_nodup hT n hn) (b := natsL t.length) fun x hx => by
  have := below_range hT n hn x hx
  exact natsL_mem.2 ⟨by omega, by omega⟩
 rwa [natsL_len] at this
theorem below_f (ho : openT t = none) {n : Nat} (hn : n < t.length) : tree_Below.f t n = some (belowL t n, 0) := by
 have h1 := below_len (open_OKT ho) hn
 have h2 := (open_none ho).2.1
 unfold tree_Below.f
 rw [if_neg (by rw [errN_ok ho (by omega) (by omega)]; simp), if_pos (by omega)]
theorem dep_step {n p : Nat} (h0 : 0 < n) (hp : (t.getD n zN).f0 = p) (hlt : p < n) : depN t n (depsL t n) = 1 + depN t p (depsL t p) := by
 conv => lhs; unfold depN
 rw [if_neg (by omega), hp, Int.toNat_natCast, deps_get t p n hlt]
theorem below_deep (hT : OKT t) {n : Nat} (hn : n < t.length) : ∀ x : Nat, (x : Int) ∈ belowL t n → depN t n (depsL t n) ≤ depN t x (depsL t x) := by
 intro x
 induction x using Nat.strongRecOn with
 | _ x ih =>
  intro hx
  by_cases e : x = n
  ·
   subst e; exact Int.le_refl _
  ·
   obtain ⟨h0, hq⟩ := below_up hT n hn x hx e
   have hr := below_range hT n hn _ hx
   obtain ⟨p0, p1⟩ := hT x h0 (by omega)
   obtain ⟨y, hy⟩ : ∃ y : Nat, (t.getD x zN).f0 = y := ⟨(t.getD x zN).f0.toNat, by omega⟩
   rw [hy] at hq p1
   have := ih y (by omega) hq
   rw [dep_step h0 hy (by omega)]
   omega
theorem below_deeper (hT : OKT t) {n : Nat} {x : Nat} (hx : (x : Int) ∈ (kidsL t t.length n).flatMap (belowL t)) : x < t.length ∧ depN t n (depsL t n) < depN t x (depsL t x) := by
 obtain ⟨k, hk, hx⟩ := List.mem_flatMap.1 hx
 obtain ⟨m, rfl, h0, h1, h2⟩ := kidsL_mem hk
 have hr := below_range hT m h1 _ hx
 have h3 := below_deep hT h1 x hx
 have h4 := hT m h0 h1
 rw [h2] at h4
 have h5 := dep_step h0 h2 (by omega)
 exact ⟨by omega, by omega⟩
end Go.Proofs.YtdphijhebppeeaaDoor.G
/- Chapter 5: where what is below a node stands in the whole order. Written by tmpl.py out of J6.tl. -/
namespace Go.Proofs.YtdphijhebppeeaaDoor.G
open Go Go.RowKit Go.Proofs.YtdphijhebppeeaaDoorW.PrintWords
variable {t : List Node}
theorem below_split (hT : OKT t) (j : Nat) : ∀ n : Nat, n < t.length → (j : Int) ∈ belowL t n → ∃ A B, belowL t n = A ++ (belowL t j ++ B) := by
 refine below_ind hT (p := fun n => (j : Int) ∈ belowL t n → ∃ A B, belowL t n = A ++ (belowL t j ++ B)) fun n hn ih hj => ?_
 by_cases e : j = n
 ·
  subst e; exact ⟨[], [], by simp⟩
 ·
  rw [below_cons hT hn, List.mem_cons, List.mem_flatMap] at hj
  rcases hj with h | ⟨k, hk, hj⟩
  ·
   exact absurd (by omega : j = n) e
  ·
   obtain ⟨K1, K2, hK⟩ := List.append_of_mem hk
   obtain ⟨m, rfl, h0, h1, h2⟩ := kidsL_mem hk
   obtain ⟨A, B, hAB⟩ := ih m h0 h1 h2 hj
   refine ⟨(n : Int) :: (K1.flatMap (belowL t) ++ A), B ++ K2.flatMap (belowL t), ?_⟩
   rw [below_cons hT hn, hK, List.flatMap_append, List.flatMap_cons, hAB]
   simp
theorem below_down (hT : OKT t) {n y x : Nat} (hn : n < t.length) (hy : (y : Int) ∈ belowL t n) (hx0 : 0 < x) (hx1 : x < t.length) (hf : (t.getD x zN).f0 = (y : Int)) : (x : Int) ∈ belowL t n := by
 obtain ⟨A, B, h⟩ := below_split hT y n hn hy
 have hyr := below_range hT n hn _ hy
 rw [h, below_cons hT (n := y) (by omega)]
 refine List.mem_append_right _ (List.mem_append_left _ (List.mem_cons_of_mem _ ?_))
 exact List.mem_flatMap.2 ⟨x, kids_mem.2 ⟨hx0, hx1, hf⟩, below_self hT hx1⟩
theorem below_all (hT : OKT t) (hz : 0 < t.length) : ∀ x : Nat, x < t.length → (x : Int) ∈ belowL t ((0 : Nat) : Int) := by
 intro x
 induction x using Nat.strongRecOn with
 | _ x ih =>
  intro hx
  by_cases h0 : x = 0
  ·
   subst h0; exact below_self hT hz
  ·
   obtain ⟨p0, p1⟩ := hT x (by omega) hx
   obtain ⟨y, hy⟩ : ∃ y : Nat, (t.getD x zN).f0 = y := ⟨(t.getD x zN).f0.toNat, by omega⟩
   rw [hy] at p1
   exact below_down hT hz (ih y (by omega) (by omega)) (by omega) hx hy
end Go.Proofs.YtdphijhebppeeaaDoor.G
/- Chapter 16: all that have columns, as what lies below a node in post-order. Written by tmpl.py out of X6.tl. -/
namespace Go.Proofs.YtdphijhebppeeaaDoor.G
open Go Go.RowKit Go.Proofs.YtdphijhebppeeaaDoorW.PrintWords
variable {t : List Node}
def postF (t : List Node) : Nat → Int → List Int
 | 0, n => if multB t n = true then [n] else []
 | f + 1, n => (kidsL t t.length n).flatMap (postF t f) ++ (if multB t n = true then [n] else [])
def postL (t : List Node) (n : Int) : List Int := postF t t.length n
theorem no_kids (hT : OKT t) {n : Int} (h : (t.length : Int) ≤ n + 1) : kidsL t t.length n = [] := by
 apply List.eq_nil_iff_forall_not_mem.2
 intro x hx
 obtain ⟨m, rfl, hm, hlt, hf⟩ := kidsL_mem hx
 have := hT m hm hlt
 omega
theorem postF_enough (hT : OKT t) : ∀ (f f' : Nat) (n : Int), 0 ≤ n → (t.length : Int) ≤ n + f + 1 → (t.length : Int) ≤ n + f' + 1 → postF t f n = postF t f' n := by
 intro f
 induction f with
 | zero =>
  intro f' n h0 h1 h2
  cases f' with
  | zero => rfl
  | succ f' => rw [postF, postF, no_kids hT (by omega)]; rfl
 | succ f ih =>
  intro f' n h0 h1 h2
  cases f' with
  | zero => rw [postF, postF, no_kids hT (by omega)]; rfl
  | succ f' =>
   rw [postF, postF]
   congr 1
   refine flat_congr fun x hx => ?_
   obtain ⟨m, rfl, hm, hlt, hf⟩ := kidsL_mem hx
   have := hT m hm hlt
   exact ih f' m (by omega) (by omega) (by omega)
theorem postL_eq (hT : OKT t) {n : Nat} (_hn : n < t.length) : postL t (n : Int) = (kidsL t t.length n).flatMap (postL t) ++ (if multB t n = true then [(n : Int)] else []) := by
 have e : postL t (n : Int) = postF t (t.length + 1) n := postF_enough hT _ _ _ (by omega) (by omega) (by omega)
 rw [e, postF]
 rfl
def runS (t : List Node) (L : List Int) (st : List Int × List Int) : List Int × List Int := L.foldl (stepM t) st
theorem runS_append (L M : List Int) (st : List Int × List Int) : runS t (L ++ M) st = runS t M (runS t L st) := by unfold runS; rw [List.foldl_append]
theorem closR_run (p : Int) (S : List Int) (hS : S = [] ∨ ∃ R, S = p :: R) : ∀ (D O : List Int), (∀ d ∈ D, d ≠ p) → closR t p (D ++ S) O = (S, O ++ D.filter (multB t))
 | [], O, _ => by
  rcases hS with rfl | ⟨R, rfl⟩
  ·
   simp [closR]
  ·
   simp [closR]
 | d :: D, O, h => by
  rw [List.cons_append, closR, if_neg (h d (List.mem_cons_self ..)), closR_run p S hS D _ (fun x hx => h x (List.mem_cons_of_mem _ hx))]
  by_cases hm : multB t d = true
  ·
   rw [if_pos hm, List.filter_cons, if_pos hm, List.append_assoc]; rfl
  ·
   rw [if_neg hm, List.filter_cons, if_neg hm]
def RunP (t : List Node) (n : Int) : Prop := ∀ (S D O : List Int), (S = [] ∨ ∃ R, S = (t.getD n.toNat zN).f0 :: R) → (∀ d ∈ D, d ≠ (t.getD n.toNat zN).f0) →
 ∃ D' O', (∀ d ∈ D', n ≤ d) ∧ runS t (belowL t n) (D ++ S, O) = (D' ++ S, O') ∧ O' ++ D'.filter (multB t) = O ++ D.filter (multB t) ++ postL t n
theorem run_kids (n : Nat) (S : List Int) : ∀ (Ks : List Int), (∀ c ∈ Ks, (n : Int) < c ∧ (t.getD c.toNat zN).f0 = n ∧ RunP t c) → ∀ (D O : List Int), (∀ d ∈ D, (n : Int) < d) →
  ∃ D' O', (∀ d ∈ D', (n : Int) < d) ∧ runS t (Ks.flatMap (belowL t)) (D ++ (n : Int) :: S, O) = (D' ++ (n : Int) :: S, O') ∧ O' ++ D'.filter (multB t) = O ++ D.filter (multB t) ++ Ks.flatMap (postL t)
 | [], _, D, O, hD => ⟨D, O, hD, rfl, by simp⟩
 | c :: Ks, h, D, O, hD => by
  obtain ⟨h1, h2, h3⟩ := h c (List.mem_cons_self ..)
  obtain ⟨D1, O1, a1, a2, a3⟩ := h3 ((n : Int) :: S) D O (.inr ⟨S, by rw [h2]⟩) (fun d hd => by rw [h2]; have := hD d hd; omega)
  obtain ⟨D2, O2, b1, b2, b3⟩ := run_kids n S Ks (fun x hx => h x (List.mem_cons_of_mem _ hx)) D1 O1 (fun d hd => by have := a1 d hd; omega)
  refine ⟨D2, O2, b1, ?_, ?_⟩
  ·
   rw [List.flatMap_cons, runS_append, a2, b2]
  ·
   rw [b3, a3, List.flatMap_cons, List.append_assoc, List.append_assoc]
theorem run_ok (hT : OKT t) : ∀ n : Nat, n < t.length → RunP t n := by
 refine below_ind hT (p := RunP t) fun n hn ih => ?_
 intro S D O hS hD
 rw [Int.toNat_natCast] at hS hD
 obtain ⟨D', O', c1, c2, c3⟩ := run_kids n S (kidsL t t.length n) (fun c hc => by
  obtain ⟨m, rfl, h0, h1, h2⟩ := kidsL_mem hc
  have := hT m h0 h1
  exact ⟨by omega, by rw [Int.toNat_natCast]; exact h2, ih m h0 h1 h2⟩) [] (O ++ D.filter (multB t)) (fun d hd => by cases hd)
 refine ⟨D' ++ [(n : Int)], O', fun d hd => ?_, ?_, ?_⟩
 ·
  rcases List.mem_append.1 hd with hd | hd
  ·
   have := c1 d hd; omega
  ·
   have : d = n := by simpa using hd
   omega
 ·
  rw [below_cons hT hn, List.append_assoc]
  refine Eq.trans ?_ c2
  unfold runS
  rw [List.foldl_cons]
  congr 1
  unfold stepM
  rw [Int.toNat_natCast, closR_run _ S hS D O hD]
  rfl
 ·
  rw [List.filter_append, ← List.append_assoc, c3, postL_eq hT hn]
  simp only [List.filter_nil, List.append_nil, List.append_assoc]
  congr 3
  rw [List.filter_cons]
  rfl
theorem multis_post (hT : OKT t) (hz : 0 < t.length) : multisL t = postL t 0 := by
 obtain ⟨D', O', h1, h2, h3⟩ := run_ok hT 0 hz [] [] [] (.inl rfl) (fun d hd => by cases hd)
 unfold multisL
 have e : runM t (belowL t 0) = (D', O') := by
  have : runM t (belowL t 0) = runS t (belowL t ((0 : Nat) : Int)) ([] ++ [], []) := rfl
  rw [this, h2, List.append_nil]
 rw [e]
 dsimp only
 have hc := closR_run (t := t) (-1) [] (.inl rfl) D' O' (fun d hd => by have := h1 d hd; omega)
 rw [List.append_nil] at hc
 rw [hc]
 dsimp only
 rw [h3]
 simp
end Go.Proofs.YtdphijhebppeeaaDoor.G
/- Chapter 16: all that have columns are told, once, each behind all that lie below it. Written by tmpl.py out of X7.tl. -/
namespace Go.Proofs.YtdphijhebppeeaaDoor.G
open Go Go.RowKit Go.Proofs.YtdphijhebppeeaaDoorW.PrintWords
variable {t : List Node}
theorem flat_perm (q : Int → Bool) : ∀ Ks : List Int, (∀ c ∈ Ks, (postL t c).Perm ((belowL t c).filter q)) → (Ks.flatMap (postL t)).Perm ((Ks.flatMap (belowL t)).filter q)
 | [], _ => List.Perm.refl _
 | c :: Ks, h => by
  rw [List.flatMap_cons, List.flatMap_cons, List.filter_append]
  exact (h c (List.mem_cons_self ..)).append (flat_perm q Ks fun x hx => h x (List.mem_cons_of_mem _ hx))
theorem post_perm (hT : OKT t) : ∀ n : Nat, n < t.length → (postL t n).Perm ((belowL t n).filter (multB t)) := by
 refine below_ind hT (p := fun n => (postL t n).Perm ((belowL t n).filter (multB t))) fun n hn ih => ?_
 have hk := flat_perm (t := t) (multB t) (kidsL t t.length n) fun c hc => by
  obtain ⟨m, rfl, h0, h1, h2⟩ := kidsL_mem hc
  exact ih m h0 h1 h2
 rw [postL_eq hT hn, below_cons hT hn, List.filter_cons]
 by_cases hm : multB t n = true
 ·
  rw [if_pos hm, if_pos hm]
  exact List.perm_append_comm.trans (List.Perm.cons _ hk)
 ·
  rw [if_neg hm, if_neg hm, List.append_nil]
  exact hk
theorem below_trans (hT : OKT t) {n a b : Nat} (hn : n < t.length) (h1 : (a : Int) ∈ belowL t n) (h2 : (b : Int) ∈ belowL t a) : (b : Int) ∈ belowL t n := by
 obtain ⟨A, B, h⟩ := below_split hT a n hn h1
 rw [h]
 exact List.mem_append_right _ (List.mem_append_left _ h2)
theorem post_mem (hT : OKT t) {n : Nat} (hn : n < t.length) {x : Int} (h : x ∈ postL t n) : x ∈ belowL t n ∧ multB t x = true := by
 have := (post_perm hT n hn).mem_iff.1 h
 exact List.mem_filter.1 this
theorem post_order (hT : OKT t) : ∀ n : Nat, n < t.length → (postL t n).Pairwise (fun a b => b ∉ belowL t a) := by
 refine below_ind hT (p := fun n => (postL t n).Pairwise (fun a b => b ∉ belowL t a)) fun n hn ih => ?_
 rw [postL_eq hT hn, List.pairwise_append]
 refine ⟨?_, ?_, ?_⟩
 ·
  rw [List.pairwise_flatMap]
  refine ⟨fun k hk => ?_, ?_⟩
  ·
   obtain ⟨m, rfl, h0, h1, h2⟩ := kidsL_mem hk
   exact ih m h0 h1 h2
  ·
   refine (kids_sorted t n).imp_of_mem fun {a b} ha hb hlt x hx y hy e => ?_
   obtain ⟨ma, rfl, a0, a1, a2⟩ := kidsL_mem ha
   obtain ⟨mb, rfl, b0, b1, b2⟩ := kidsL_mem hb
   have hx2 := (post_mem hT a1 hx).1
   have hy2 := (post_mem hT b1 hy).1
   have hr := below_range hT ma a1 _ hx2
   have hr2 := below_range hT mb b1 _ hy2
   obtain ⟨u, rfl⟩ : ∃ u : Nat, x = u := ⟨x.toNat, by omega⟩
   obtain ⟨v, rfl⟩ : ∃ v : Nat, y = v := ⟨y.toNat, by omega⟩
   exact below_apart hT a0 a1 a2 b0 b1 b2 (by omega) v (by omega) (below_trans hT a1 hx2 e) hy2
 ·
  split
  ·
   exact List.pairwise_singleton _ _
  ·
   exact List.Pairwise.nil
 ·
  intro a ha b hb e
  obtain ⟨k, hk, hx⟩ := List.mem_flatMap.1 ha
  obtain ⟨m, rfl, h0, h1, h2⟩ := kidsL_mem hk
  have hbn : b = n := by
   split at hb
   ·
    simpa using hb
   ·
    cases hb
  subst hbn
  have ha2 := (post_mem hT h1 hx).1
  have hr := below_range hT m h1 _ ha2
  obtain ⟨u, rfl⟩ : ∃ u : Nat, a = u := ⟨a.toNat, by omega⟩
  have hr2 := below_range hT u (by omega) _ e
  have := hT m h0 h1
  omega
def cntL (t : List Node) (i : Nat) : Nat := ((natsL i).filter (multB t)).length
theorem cntL_succ (t : List Node) (i : Nat) : cntL t (i + 1) = cntL t i + (if multB t i = true then 1 else 0) := by
 unfold cntL natsL
 rw [List.range_succ, List.map_append, List.filter_append, List.length_append]
 congr 1
 rw [List.map_cons, List.map_nil, List.filter_cons]
 split <;> rfl
theorem cntL_le (t : List Node) (i : Nat) : cntL t i ≤ i := by
 unfold cntL
 exact Nat.le_trans (List.length_filter_le _ _) (by rw [natsL_len]; exact Nat.le_refl _)
theorem post_len (hT : OKT t) (hz : 0 < t.length) : (postL t 0).length = cntL t t.length := by
 have hp := (post_perm hT 0 hz).length_eq
 refine Eq.trans hp (Nat.le_antisymm (nodup_sub ((below_nodup hT 0 hz).filter _) fun x hx => ?_) (nodup_sub ((natsL_nodup _).filter _) fun x hx => ?_))
 ·
  obtain ⟨h1, h2⟩ := List.mem_filter.1 hx
  have := below_range hT 0 hz x h1
  exact List.mem_filter.2 ⟨natsL_mem.2 ⟨by omega, by omega⟩, h2⟩
 ·
  obtain ⟨h1, h2⟩ := List.mem_filter.1 hx
  obtain ⟨a, b⟩ := natsL_mem.1 h1
  obtain ⟨m, rfl⟩ : ∃ m : Nat, x = m := ⟨x.toNat, by omega⟩
  exact List.mem_filter.2 ⟨below_all hT hz m (by omega), h2⟩
theorem post_nodup (hT : OKT t) (hz : 0 < t.length) : (postL t 0).Nodup := (post_perm hT 0 hz).nodup_iff.2 ((below_nodup hT 0 hz).filter _)
end Go.Proofs.YtdphijhebppeeaaDoor.G
/- Chapter 16: all that have columns are told, once, each behind all that lie below it. The law is walked by hand. Written by tmpl.py out of K6.tl. -/
namespace Go.Proofs.YtdphijhebppeeaaDoor.G
open Go Go.RowKit Go.Shelf Go.Maps Go.Proofs.YtdphijhebppeeaaDoorW.PrintWords Go.Proofs.YtdphijhebppeeaaDoorW.PrintLast Go.Proofs.YtdphijhebppeeaaDoorW.PrintMore
theorem cntL_zero (t : List Node) : cntL t 0 = 0 := rfl
attribute [local irreducible] cN cntL postL belowL kidsL openT multisL
set_option maxRecDepth 100000 in
set_option maxHeartbeats 1000000 in
theorem under_any {t : List Node} (hT : OKT t) (A : Option Addr) (c : Nat) (o : Nat) (ho : o < t.length) (n : Nat) (hn : n < t.length) (hno : (n : Int) ∉ belowL t o) (w : World) (hr : kN.C w A t.length t) :
  Calls Tryd.prog 26 #[.slice A t.length c, .int .i64 n, .int .i64 o] w fun e w' => e = .returned (.bool false) ∧ ∃ m, w' = w.drewN m := by
 have HC := Aside0.mk hr
 have HT := Aside0.mk hT
 have HO := Aside0.mk ho
 have HN := Aside0.mk hno
 have HL := Aside0.mk hn
 clear hr hT hno ho hn
 go_enter Tryd.func26, Tryd.ntmps26
 go_wp2
 go_loopw [1] (fun i wr => ∃ m : Nat, i = .int .i64 m ∧ Aside0 (m < t.length) ∧ Aside0 ((m : Int) ∉ belowL t o) ∧ ∃ nd, wr = w.drewN nd) (fun i _ => (intZ i).toNat)
 case atStart => exact ⟨n, rfl, HL, HN, 0, rfl⟩
 case round =>
  obtain ⟨m, rfl, HM, HNm, nd, rfl⟩ := hrel
  by_cases h0 : m = 0
  ·
   subst h0
   go_wp2
   go_ret
   exact ⟨rfl, nd, rfl⟩
  ·
   have hm0 : (m : Int) > 0 := by omega
   have hp := HT.out m (by omega) HM.out
   obtain ⟨q, hq⟩ : ∃ q : Nat, (t.getD m zN).f0 = q := ⟨(t.getD m zN).f0.toNat, by omega⟩
   rw [hq] at hp
   obtain ⟨ad, M, rfl, hM, hrg⟩ := node_at (Kd.C_below HC.out (pw_below_drewN (Below.refl w.heap.size w) nd)) m HM.out
   have g0 := ranges_first hrg hM.c0
   rw [hq] at g0
   have hm1 : (m : Int) < t.length := by have := HM.out; omega
   have hqo : ¬ ((q : Int) = o) := by
    intro e
    have e' : q = o := by omega
    subst e'
    exact HNm.out (below_down HT.out HO.out (below_self HT.out HO.out) (by omega) HM.out hq)
   have HQ := Aside0.mk (show (q : Int) ∉ belowL t o from fun hb => HNm.out (below_down HT.out HO.out hb (by omega) HM.out hq))
   have HQL := Aside0.mk (show q < t.length by omega)
   have hqm : q < m := by omega
   clear hM hrg hq hp h0
   go_wp2
   exact ⟨⟨q, rfl, HQL, HQ, nd, rfl⟩, by simp only [intZ]; omega⟩
set_option maxRecDepth 100000 in
set_option maxHeartbeats 4000000 in
theorem multis_any (A0 : Option Addr) (c0 : Nat) (l0 : List (S31)) (w : World) (hr0 : Kd.C k31 w A0 l0.length l0) (hc0 : l0.length ≤ c0) (hG : GOK w) :
  Calls Tryd.prog 8 #[.slice A0 l0.length c0] w fun e w' => e = .returned (.bool true) ∧ Below w.heap.size w w' := by
 have HG := Aside0.mk hG
 have H0 := Aside0.mk hr0
 have HF0 := Aside0.mk (show gutterlaw05_Few.f l0 = some (fewL l0) from rfl)
 obtain ⟨t, ht⟩ : ∃ t, fewL l0 = t := ⟨_, rfl⟩
 rw [ht] at HF0
 clear ht hG hr0
 have HB := Aside0.mk (Below.refl w.heap.size w)
 cases hop : openT t with
 | some p =>
  obtain ⟨a, i⟩ := p
  have hoe : openE t = 50 + (i : Int) := by unfold openE; rw [hop]
  have HF := Aside0.mk (show segment_Multis.f t = some ([], openE t) by unfold segment_Multis.f; rw [if_pos (by rw [hoe]; omega)])
  have hne : ¬ (openE t = 0) := by omega
  clear hop hoe
  generalize openE t = e0 at *
  go_enter Tryd.func8, Tryd.ntmps8
  go_upto_region 2 with (first | (go_at_call 9; refine (gutterlaw16_shown.calls 10 true _ (shown_f 10 (Nat.le_refl _)) HG.out).mono ?_; rintro e w1 ⟨rfl, hb⟩; replace HG := Aside0.mk (GOK.below HG.out hb); replace H0 := Aside0.mk (Kd.C_below H0.out hb); replace HB := Aside0.mk (below_then HB.out HB.out.size hb); clear hb))
  go_upto_region 3 with (first | (go_at_call 10; refine (gutterlaw05_Few.calls A0 c0 l0 t _ H0.out hc0 HF0.out).mono ?_; rintro e w2 ⟨v, rfl, ho, hb⟩; replace HG := Aside0.mk (GOK.below HG.out hb); replace HB := Aside0.mk (below_then HB.out HB.out.size hb); obtain ⟨At, ct, rfl⟩ := Kd.R_slice ho; have qt := (Kd.R_reads' ho).2.1; have Ht := Aside0.mk (Kd.R_reads' ho).2.2; clear ho hb))
  go_upto_region 4 with (first | (go_at_call 22; refine (segment_Multis.calls At ct t [] e0 _ Ht.out qt HF.out HG.out).mono ?_; rintro e w3 ⟨v, rfl, ho, hb⟩; replace HB := Aside0.mk (below_then HB.out HB.out.size hb); obtain ⟨Ag, cg, rfl⟩ := Kd.R_slice ho; clear ho hb))
  go_wp2
  go_ret
  exact ⟨rfl, HB.out⟩
 | none =>
  obtain ⟨h1, h2, _⟩ := open_none hop
  have hT := open_OKT hop
  have hoe : openE t = 0 := by unfold openE; rw [hop]
  have hbl : (belowL t (0 : Int)).length ≤ t.length := below_len hT (n := 0) (by omega)
  have hM := post_len hT (by omega)
  have hc := cntL_le t t.length
  have hf : segment_Multis.f t = some (postL t 0, 0) := by
   unfold segment_Multis.f
   rw [hoe, if_neg (by simp), if_pos (by omega), multis_post hT (by omega)]
  have hin : ∀ x ∈ postL t 0, ∃ m : Nat, x = m ∧ m < t.length ∧ (t.getD m zN).f1 = 4 := fun x hx => by
   obtain ⟨a, b⟩ := post_mem hT (n := 0) (by omega) hx
   have := below_range hT 0 (by omega) x a
   obtain ⟨m, rfl⟩ : ∃ m : Nat, x = m := ⟨x.toNat, by omega⟩
   refine ⟨m, rfl, by omega, ?_⟩
   unfold multB at b
   rw [Int.toNat_natCast] at b
   exact of_decide_eq_true b
  have hnd := post_nodup hT (by omega)
  have hor := post_order hT 0 (by omega)
  obtain ⟨g, hg⟩ : ∃ g, postL t 0 = g := ⟨_, rfl⟩
  rw [hg] at hM hf hin hnd
  rw [show postL t ((0 : Nat) : Int) = g from hg] at hor
  have HF := Aside0.mk hf
  have HIN := Aside0.mk hin
  have HND := Aside0.mk hnd
  have HOR := Aside0.mk hor
  have HT := Aside0.mk hT
  have HLT := Aside0.mk h2
  have HM := Aside0.mk hM
  have hgl : g.length ≤ 200 := by omega
  clear hop hoe hbl hM hc hf hin hnd hor hg hT h1 h2
  go_enter Tryd.func8, Tryd.ntmps8
  go_upto_region 2 with (first | (go_at_call 9; refine (gutterlaw16_shown.calls 10 true _ (shown_f 10 (Nat.le_refl _)) HG.out).mono ?_; rintro e w1 ⟨rfl, hb⟩; replace HG := Aside0.mk (GOK.below HG.out hb); replace H0 := Aside0.mk (Kd.C_below H0.out hb); replace HB := Aside0.mk (below_then HB.out HB.out.size hb); clear hb))
  go_upto_region 3 with (first | (go_at_call 10; refine (gutterlaw05_Few.calls A0 c0 l0 t _ H0.out hc0 HF0.out).mono ?_; rintro e w2 ⟨v, rfl, ho, hb⟩; replace HG := Aside0.mk (GOK.below HG.out hb); replace HB := Aside0.mk (below_then HB.out HB.out.size hb); obtain ⟨At, ct, rfl⟩ := Kd.R_slice ho; have qt := (Kd.R_reads' ho).2.1; have Ht := Aside0.mk (Kd.R_reads' ho).2.2; clear ho hb))
  go_upto_region 4 with (first | (go_at_call 22; refine (segment_Multis.calls At ct t g 0 _ Ht.out qt HF.out HG.out).mono ?_; rintro e w3 ⟨v, rfl, ho, hb⟩; replace HB := Aside0.mk (below_then HB.out HB.out.size hb); replace Ht := Aside0.mk (Kd.C_below Ht.out hb); obtain ⟨Ag, cg, rfl⟩ := Kd.R_slice ho; have qg := Aside0.mk (Kd.R_reads' ho).2.1; have Hg := Aside0.mk (Kd.R_reads' ho).2.2; clear ho hb))
  go_wp2
  go_loopw [6, 7] (fun n i wr => ∃ m : Nat, i = .int .i64 m ∧ n = .int .i64 (cntL t m) ∧ Aside0 (m ≤ t.length) ∧ Aside0 (Below w3.heap.size w3 wr)) (fun _ i _ => t.length - (intZ i).toNat)
  case atStart => exact ⟨0, rfl, by rw [cntL_zero]; rfl, ⟨Nat.zero_le _⟩, ⟨Below.refl _ _⟩⟩
  case round =>
   obtain ⟨m, rfl, rfl, HMm, HBr⟩ := hrel
   have hlt2 := HLT.out
   by_cases hlt : m < t.length
   ·
    obtain ⟨ad, M, rfl, hMm, hrk⟩ := node_at (Kd.C_below Ht.out HBr.out) m hlt
    have g1 := ranges_at hrk 0 hMm.c1
    have hm1 : (m : Int) < t.length := by omega
    have hs := cntL_succ t m
    have hc := cntL_le t m
    have hmb : multB t (m : Int) = decide ((t.getD m zN).f1 = 4) := by unfold multB; rw [Int.toNat_natCast]
    obtain ⟨kd, hkd⟩ : ∃ kd, (t.getD m zN).f1 = kd := ⟨_, rfl⟩
    rw [hkd] at g1 hmb
    have ew : wrap64 ((m : Int) + 1) = ((m + 1 : Nat) : Int) := by rw [i64_in (by omega) (by omega)]; omega
    by_cases h4 : kd = 4
    ·
     subst h4
     rw [hmb, decide_eq_true rfl, if_pos rfl] at hs
     obtain ⟨cm, hcm⟩ : ∃ cm, cntL t m = cm := ⟨_, rfl⟩
     rw [hcm] at hs hc ⊢
     have EN := Aside0.mk hs
     clear hs hmb hkd hMm hrk ew
     go_wp2
     exact ⟨⟨m + 1, by go_num, by rw [EN.out]; go_num, ⟨by omega⟩, HBr⟩, by simp only [intZ]; omega⟩
    ·
     have en : cntL t m = cntL t (m + 1) := by rw [hs, hmb, decide_eq_false h4]; rfl
     have h4b : (kd == 4) = false := by simp [h4]
     have EN := Aside0.mk en
     clear hs hmb hkd hMm hrk en
     obtain ⟨cm, hcm⟩ : ∃ cm, cntL t m = cm := ⟨_, rfl⟩
     have HCM := Aside0.mk hcm
     rw [hcm]
     clear hcm hc ew
     go_wp2
     exact ⟨⟨m + 1, by go_num, by rw [← EN.out, HCM.out], ⟨by omega⟩, HBr⟩, by simp only [intZ]; omega⟩
   ·
    have hge : ¬ ((m : Int) < t.length) := by omega
    have hme : m = t.length := by have := HMm.out; omega
    have hcg : cntL t m = g.length := by rw [hme]; exact HM.out.symm
    rw [hcg]
    clear hme hcg
    go_wp2
    go_loopw [8] (fun i wi => ∃ p : Nat, i = .int .i64 p ∧ Aside0 (p ≤ g.length) ∧ Aside0 (Below w3.heap.size w3 wi)) (fun i _ => g.length - (intZ i).toNat)
    case atStart => exact ⟨0, rfl, ⟨Nat.zero_le _⟩, HBr⟩
    case round =>
     obtain ⟨p, rfl, HP, HBi⟩ := hrel
     by_cases hp : p < g.length
     ·
      have hp1 : (p : Int) < g.length := by omega
      have hgp : g.getD p 0 = g[p] := by rw [List.getD_eq_getElem?_getD, List.getElem?_eq_getElem hp]; rfl
      obtain ⟨n, hn, hnl, hn4⟩ := HIN.out (g.getD p 0) (by rw [hgp]; exact List.getElem_mem _)
      have HGP := Aside0.mk (hgp.symm.trans hn)
      obtain ⟨ak, c, rfl, _, hK, hcc⟩ := Kd.C_get (Kd.C_below Hg.out HBi.out) 0 (p : Int) (by omega) (by omega)
      have hK' : c = [.int .i64 (g.getD (p : Int).toNat 0)] := hK
      subst hK'
      have gj := hcc 0 _ rfl
      rw [Int.toNat_natCast, show (Kd.int .i64).sz = 1 from rfl, Nat.mul_one, Nat.add_zero, hn] at gj
      obtain ⟨ad, M, rfl, hM, hrk⟩ := node_at (Kd.C_below Ht.out HBi.out) n hnl
      have g1 := ranges_at hrk 0 hM.c1
      rw [hn4] at g1
      have hn1 : (n : Int) < t.length := by omega
      have hn2 : ¬ ((n : Int) < 0) := by omega
      have hn3 : ¬ ((n : Int) ≥ t.length) := by omega
      clear hM hrk hK hcc hn4 hn hgp hge
      go_wp2
      go_loopw [9] (fun j wj => ∃ x : Nat, j = .int .i64 x ∧ Aside0 (x ≤ p) ∧ Aside0 (Below w3.heap.size w3 wj)) (fun j _ => p - (intZ j).toNat)
      case atStart => exact ⟨0, rfl, ⟨Nat.zero_le _⟩, HBi⟩
      case round =>
       obtain ⟨x, rfl, HX, HBj⟩ := hrel
       clear gj g1
       by_cases hx : x < p
       ·
        have hx1 : (x : Int) < p := by omega
        have hxg : (x : Int) < g.length := by omega
        have hgx : g.getD x 0 = g[x]'(by omega) := by rw [List.getD_eq_getElem?_getD, List.getElem?_eq_getElem (by omega)]; rfl
        obtain ⟨o, ho, hol, _⟩ := HIN.out (g.getD x 0) (by rw [hgx]; exact List.getElem_mem _)
        have hgo : g[x]'(by omega) = (o : Int) := hgx.symm.trans ho
        obtain ⟨ak', c, eA, _, hK, hcc⟩ := Kd.C_get (Kd.C_below Hg.out HBj.out) 0 (x : Int) (by omega) (by omega)
        cases eA
        have hK' : c = [.int .i64 (g.getD (x : Int).toNat 0)] := hK
        subst hK'
        have gx := hcc 0 _ rfl
        rw [Int.toNat_natCast, show (Kd.int .i64).sz = 1 from rfl, Nat.mul_one, Nat.add_zero, ho] at gx
        obtain ⟨ak', c, eA, _, hK, hcc⟩ := Kd.C_get (Kd.C_below Hg.out HBj.out) 0 (p : Int) (by omega) (by omega)
        cases eA
        have hK' : c = [.int .i64 (g.getD (p : Int).toNat 0)] := hK
        subst hK'
        have gp := hcc 0 _ rfl
        have hgp : g.getD p 0 = n := by rw [List.getD_eq_getElem?_getD, List.getElem?_eq_getElem hp]; exact HGP.out
        rw [Int.toNat_natCast, show (Kd.int .i64).sz = 1 from rfl, Nat.mul_one, Nat.add_zero, hgp] at gp
        have hne : ¬ ((o : Int) = n) := fun e => by
         have := List.pairwise_iff_getElem.1 HND.out x p (by omega) hp hx
         rw [hgo, HGP.out] at this
         exact this e
        have hun : (n : Int) ∉ belowL t o := by
         have := List.pairwise_iff_getElem.1 HOR.out x p (by omega) hp hx
         rw [hgo, HGP.out] at this
         exact this
        have HU := Aside0.mk (fun nd => under_any HT.out (some ad) ct o hol n hnl hun (wr.drewN nd) (Kd.C_below (Kd.C_below Ht.out HBj.out) (pw_below_drewN (Below.refl _ _) nd)))
        clear hK hcc hun hgp hgo ho hgx
        go_upto_region 22 with fail
        go_quiet ((go_at_call 26; exact Calls.quiet_of (HU.out _)))
        go_wp2
        exact ⟨⟨x + 1, by go_num, ⟨by omega⟩, ⟨pw_below_drewN HBj.out _⟩⟩, by simp only [intZ]; omega⟩
       ·
        have hx1 : ¬ ((x : Int) < p) := by omega
        go_wp2
        exact ⟨⟨p + 1, by go_num, ⟨by omega⟩, HBj⟩, by simp only [intZ]; omega⟩
     ·
      have hp1 : ¬ ((p : Int) < g.length) := by omega
      go_wp2
      go_ret
      exact ⟨rfl, below_then HB.out HB.out.size HBi.out⟩
def gutterlaw16_SegmentMultis.f (_ : Nat) (_ : List (S31)) : Option Bool := some true
theorem gutterlaw16_SegmentMultis.calls (k : Nat) (A0 : Option Addr) (c0 : Nat) (l0 : List (S31)) (r : Bool) (w : World) (hr0 : Kd.C k31 w A0 l0.length l0) (hc0 : l0.length ≤ c0) (h : gutterlaw16_SegmentMultis.f k l0 = some r) (hG : GOK w) :
  Calls Tryd.prog 8 #[.slice A0 l0.length c0] w fun e w' => e = .returned (.bool r) ∧ Below w.heap.size w w' := by
 obtain rfl := Option.some.inj h
 exact multis_any A0 c0 l0 w hr0 hc0 hG
theorem SegmentMultis (l0 : List Node) (_ : l0.all wfN = true) : ∃ k, gutterlaw16_SegmentMultis.f k l0 = some true := ⟨0, rfl⟩
end Go.Proofs.YtdphijhebppeeaaDoor.G
