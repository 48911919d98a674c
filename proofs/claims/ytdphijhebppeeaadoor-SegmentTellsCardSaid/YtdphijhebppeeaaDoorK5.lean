/- YtdphijhebppeeaaDoorF36, YtdphijhebppeeaaDoorX4, YtdphijhebppeeaaDoorF37, YtdphijhebppeeaaDoorX5, YtdphijhebppeeaaDoorR2, YtdphijhebppeeaaDoorK5: texts of ours, one behind the other. Put together by merge.py. -/
import Derived.Test.YtdphijhebppeeaaDoorF33
import Derived.Test.YtdphijhebppeeaaDoorX1
import Derived.Test.YtdphijhebppeeaaDoorG6
import Derived.Test.YtdphijhebppeeaaDoorG8
import Derived.Test.YtdphijhebppeeaaDoorG9
import Derived.Test.YtdphijhebppeeaaDoorR
import Derived.Test.YtdphijhebppeeaaDoorG0
import Derived.Test.YtdphijhebppeeaaDoorG3
/- Chapter 16: are two lists of segments the same? Written by tmpl.py out of F36.tl. -/
namespace Go.Proofs.YtdphijhebppeeaaDoor.G
open Go.RowKit Go.Shelf Go.Maps Go.Proofs.YtdphijhebppeeaaDoorW.PrintWords Go.Proofs.YtdphijhebppeeaaDoorW.PrintLast Go.Proofs.YtdphijhebppeeaaDoorW.PrintMore
def getI (l : List Int) (j : Nat) : Int := l.getD j 0
theorem ints_at {w : World} {A : Option Addr} {a : List Int} (h : (Kd.int .i64).C w A a.length a) (k : Nat) (hk : k < a.length) : ∃ ad, A = some ad ∧ w.cell? (ad.add k) = some (.int .i64 (getI a k)) := by
  obtain ⟨ad, c, e, _, hK, hc⟩ := Kd.C_get h 0 (k : Int) (by omega) (by omega)
  have hK' : c = [.int .i64 (a.getD (k : Int).toNat 0)] := hK
  subst hK'
  have gj := hc 0 _ rfl
  rw [Int.toNat_natCast, show (Kd.int .i64).sz = 1 from rfl, Nat.mul_one, Nat.add_zero] at gj
  exact ⟨ad, e, gj⟩
theorem ints_ext {a b : List Int} (hl : a.length = b.length) (h : ∀ j, j < a.length → getI a j = getI b j) : a = b := by
  refine List.ext_getElem hl fun j h1 h2 => ?_
  have := h j h1
  unfold getI at this
  rw [List.getD_eq_getElem?_getD, List.getD_eq_getElem?_getD, List.getElem?_eq_getElem h1, List.getElem?_eq_getElem h2] at this
  exact this
set_option maxRecDepth 100000 in
set_option maxHeartbeats 1000000 in
theorem equalI_any (a b : List Int) (A B : Option Addr) (c0 c1 : Nat) (w : World) (ha : (Kd.int .i64).C w A a.length a) (hb : (Kd.int .i64).C w B b.length b) (hc0 : a.length ≤ c0) (hc1 : b.length ≤ c1) (hla : a.length ≤ 1000) :
    Calls Tryd.prog 38 #[.slice A a.length c0, .slice B b.length c1] w fun e w' => e = .returned (.bool (decide (a = b))) ∧ Below w.heap.size w w' := by
  have HA := Aside0.mk ha
  have HB := Aside0.mk hb
  have HLA := Aside0.mk hla
  have _h0 := hc0
  have _h1 := hc1
  clear ha hb hla
  by_cases hl : a.length = b.length
  · have hl' : (a.length : Int) = b.length := by omega
    have HS := Aside0.mk hl
    go_enter Tryd.func38, Tryd.ntmps38
    go_wp2
    go_loopw [13] (fun i wr => ∃ k : Nat, i = .int .i64 k ∧ k ≤ a.length ∧ Aside0 (∀ j, j < k → getI a j = getI b j) ∧ Aside0 (Below w.heap.size w wr)) (fun i _ => a.length - (intZ i).toNat)
    case atStart => exact ⟨0, rfl, Nat.zero_le _, ⟨fun j hj => by omega⟩, ⟨Below.refl ..⟩⟩
    case round =>
      obtain ⟨k, rfl, hk, HE, HW⟩ := hrel
      by_cases hlt : k < a.length
      · have hlt' : (k : Int) < a.length := by omega
        have HLT := Aside0.mk hlt
        have hlb : (k : Int) < b.length := by omega
        obtain ⟨ad, rfl, g1⟩ := ints_at (Kd.C_below HA.out HW.out) k hlt
        obtain ⟨ad', rfl, g2⟩ := ints_at (Kd.C_below HB.out HW.out) k (by omega)
        obtain ⟨x, hx⟩ : ∃ x, getI a k = x := ⟨_, rfl⟩
        obtain ⟨y, hy⟩ : ∃ y, getI b k = y := ⟨_, rfl⟩
        rw [hx] at g1
        rw [hy] at g2
        by_cases hxy : x = y
        · have he1 := Aside0.mk (show getI a k = getI b k by rw [hx, hy, hxy])
          have hne : (x != y) = false := by simp [hxy]
          clear hx hy
          go_upto_region 6 with fail
          go_quiet (fail)
          have hla2 := HLA.out
          have hlt2 := HLT.out
          have hw : wrap64 ((k : Int) + 1) = ((k + 1 : Nat) : Int) := by rw [i64_in (by omega) (by omega)]; omega
          clear hla2 hlt2
          go_wp2
          rw [hw]
          have hl2 := HS.out
          have hlt2 := HLT.out
          have hla2 := HLA.out
          refine ⟨⟨k + 1, rfl, by omega, ⟨fun j hj => ?_⟩, ⟨pw_below_drewN HW.out _⟩⟩, by simp only [intZ]; omega⟩
          by_cases e : j = k
          · subst e; exact he1.out
          · exact HE.out j (by omega)
        · have hr : decide (a = b) = false := by
            refine decide_eq_false fun e => hxy ?_
            rw [← hx, ← hy, e]
          have hne : (x != y) = true := by simp [hxy]
          replace hr := Aside0.mk hr
          clear hx hy
          go_upto_region 6 with fail
          go_quiet (fail)
          go_wp2
          go_ret
          exact ⟨by rw [hr.out]; rfl, pw_below_drewN HW.out _⟩
      · have hke : k = a.length := by omega
        subst hke
        go_wp2
        go_ret
        exact ⟨by rw [decide_eq_true (ints_ext HS.out HE.out)]; rfl, HW.out⟩
  · have hl' : ¬ (a.length : Int) = b.length := by omega
    have hne : ((a.length : Int) != b.length) = true := by simp [hl']
    rw [decide_eq_false (show ¬ a = b from fun e => hl (by rw [e]))]
    go_enter Tryd.func38, Tryd.ntmps38
    go_wp2
    go_ret
    exact ⟨rfl, Below.refl ..⟩
end Go.Proofs.YtdphijhebppeeaaDoor.G
/- Chapter 16: what segments are: none is empty, one that spans has one kid, no two one behind the other are both without Span; all kids in order. Written by tmpl.py out of X4.tl. -/
namespace Go.Proofs.YtdphijhebppeeaaDoor.G
open Go Go.RowKit Go.Shelf Go.Maps Go.Proofs.YtdphijhebppeeaaDoorW.PrintWords Go.Proofs.YtdphijhebppeeaaDoorW.PrintLast Go.Proofs.YtdphijhebppeeaaDoorW.PrintMore
attribute [local irreducible] cN
theorem snoc_lt (g : List S40) (y : S40) {i : Nat} (h : i < g.length) : (g ++ [y]).getD i z40 = g.getD i z40 := by
  rw [List.getD_eq_getElem?_getD, List.getD_eq_getElem?_getD, List.getElem?_append_left h]
theorem snoc_eq (g : List S40) (y : S40) : (g ++ [y]).getD g.length z40 = y := by
  rw [List.getD_eq_getElem?_getD, List.getElem?_append_right (Nat.le_refl _), Nat.sub_self]; rfl
def elB (t : List Node) (y : S40) : Prop := y.f1 ≠ [] ∧ (y.f0 = true → y.f1.length = 1) ∧ ∀ x ∈ y.f1, ∃ n : Nat, x = n ∧ n < t.length ∧ (t.getD n zN).f5.f11 = y.f0
def segOK (t : List Node) (g : List S40) : Prop := ∀ i, i < g.length → elB t (g.getD i z40) ∧ (0 < i → (g.getD i z40).f0 = false → (g.getD (i - 1) z40).f0 = true)
theorem segOK_snoc {t : List Node} {g : List S40} {y : S40} (h : segOK t g) (hy : elB t y) (hl : 0 < g.length → y.f0 = false → (g.getD (g.length - 1) z40).f0 = true) : segOK t (g ++ [y]) := by
  intro i hi
  rw [List.length_append, List.length_singleton] at hi
  rcases Nat.lt_or_ge i g.length with h1 | h1
  · rw [snoc_lt g y h1]
    refine ⟨(h i h1).1, fun h0 hf => ?_⟩
    rw [snoc_lt g y (by omega)]
    exact (h i h1).2 h0 hf
  · obtain rfl : i = g.length := by omega
    rw [snoc_eq]
    refine ⟨hy, fun h0 hf => ?_⟩
    rw [snoc_lt g y (by omega)]
    exact hl h0 hf
theorem segOK_init {t : List Node} {g : List S40} {y : S40} (h : segOK t (g ++ [y])) : segOK t g ∧ elB t y ∧ (0 < g.length → y.f0 = false → (g.getD (g.length - 1) z40).f0 = true) := by
  have hn : (g ++ [y]).length = g.length + 1 := by rw [List.length_append, List.length_singleton]
  refine ⟨fun i hi => ?_, ?_, fun h0 hf => ?_⟩
  · have h1 := h i (by omega)
    rw [snoc_lt g y hi] at h1
    refine ⟨h1.1, fun h0 hf => ?_⟩
    have h2 := h1.2 h0 hf
    rwa [snoc_lt g y (by omega)] at h2
  · have h1 := (h g.length (by omega)).1
    rwa [snoc_eq] at h1
  · have h1 := (h g.length (by omega)).2 h0 (by rw [snoc_eq]; exact hf)
    rwa [snoc_lt g y (by omega)] at h1
theorem joinL_snoc {g : List S40} {y : S40} {sp : Bool} (k : Int) : joinL (g ++ [y]) sp k = if sp = false ∧ y.f0 = false then g ++ [⟨y.f0, y.f1 ++ [k]⟩] else g ++ [y] ++ [⟨sp, [k]⟩] := by
  have hn : (g ++ [y]).length - 1 = g.length := by rw [List.length_append, List.length_singleton]; omega
  have hr : rd_T40 (g ++ [y]) (((g ++ [y]).length - 1 : Nat) : Int) = y := by
    unfold rd_T40
    rw [Int.toNat_natCast, hn, snoc_eq]
  unfold joinL joinAt
  rw [hr, hn]
  have hp : decide (0 < (g ++ [y]).length) = true := decide_eq_true (by rw [List.length_append, List.length_singleton]; omega)
  rw [hp, Bool.true_and]
  cases sp <;> cases y.f0 <;> simp
theorem joinL_nil (sp : Bool) (k : Int) : joinL [] sp k = [⟨sp, [k]⟩] := by
  unfold joinL joinAt
  simp
def flatL (g : List S40) : List Int := g.flatMap fun x => x.f1
theorem flatL_snoc (g : List S40) (y : S40) : flatL (g ++ [y]) = flatL g ++ y.f1 := by
  unfold flatL
  rw [List.flatMap_append]
  simp
theorem joinL_ok {t : List Node} {g : List S40} (n : Nat) (h : segOK t g) (hn : n < t.length) : segOK t (joinL g (spanP t n) n) ∧ flatL (joinL g (spanP t n) n) = flatL g ++ [(n : Int)] := by
  have he : elB t ⟨spanP t n, [(n : Int)]⟩ := ⟨by simp, fun _ => rfl, fun x hx => ⟨n, by simpa using hx, hn, rfl⟩⟩
  rcases List.eq_nil_or_concat g with rfl | ⟨g', y, rfl⟩
  · rw [joinL_nil]
    exact ⟨segOK_snoc (g := []) h he (fun h0 => by cases h0), rfl⟩
  · rw [List.concat_eq_append] at h ⊢
    obtain ⟨h1, h2, h3⟩ := segOK_init h
    rw [joinL_snoc]
    split
    · rename_i hc
      refine ⟨segOK_snoc h1 ⟨by simp, fun hf => ?_, fun x hx => ?_⟩ h3, by rw [flatL_snoc, flatL_snoc, List.append_assoc]⟩
      · have hf' : y.f0 = true := hf
        rw [hc.2] at hf'; cases hf'
      · rcases List.mem_append.1 (show x ∈ y.f1 ++ [(n : Int)] from hx) with hx | hx
        · exact h2.2.2 x hx
        · exact ⟨n, by simpa using hx, hn, by rw [show (S40.mk y.f0 (y.f1 ++ [(n : Int)])).f0 = y.f0 from rfl, hc.2]; exact hc.1⟩
    · rename_i hc
      refine ⟨segOK_snoc h he fun _ hf => ?_, by rw [flatL_snoc]⟩
      have hf' : spanP t n = false := hf
      rw [List.length_append, List.length_singleton, Nat.add_sub_cancel, snoc_eq]
      cases hy : y.f0 with
      | true => rfl
      | false => exact absurd ⟨hf', hy⟩ hc
theorem segsL_ok {t : List Node} (L : List Int) (h : ∀ x ∈ L, ∃ n : Nat, x = n ∧ n < t.length) : segOK t (segsL t L) ∧ flatL (segsL t L) = L := by
  induction L using snoc_ind' with
  | h0 => exact ⟨fun i hi => absurd hi (Nat.not_lt_zero _), rfl⟩
  | h1 L k ih =>
    obtain ⟨n, rfl, hn⟩ := h k (by simp)
    obtain ⟨i1, i2⟩ := ih fun x hx => h x (List.mem_append_left _ hx)
    rw [segsL_snoc, Int.toNat_natCast]
    obtain ⟨j1, j2⟩ := joinL_ok n i1 hn
    exact ⟨j1, by rw [j2, i2]⟩
theorem flatL_len (g : List S40) (n : Nat) (h : ∀ x ∈ g, x.f1.length ≤ n) : (flatL g).length ≤ g.length * n := by
  induction g with
  | nil => exact Nat.zero_le _
  | cons x g ih =>
    have h1 := ih fun y hy => h y (List.mem_cons_of_mem _ hy)
    have h2 := h x (List.mem_cons_self ..)
    unfold flatL at h1 ⊢
    rw [List.flatMap_cons, List.length_append, List.length_cons, Nat.add_mul, Nat.one_mul]
    omega
theorem kids_l (g : List S40) (n : Nat) (hm : g.length ≤ 1000000) (hn : ∀ x ∈ g, x.f1.length ≤ n) (hn1 : n ≤ 1000000) : ∀ (k i : Nat) (acc : List Int), i ≤ g.length → g.length < k + i → acc.length ≤ i * n → segment_Kids.l0 k acc g (g.length : Int) (i : Int) = some (acc ++ flatL (g.drop i)) := by
  intro k
  induction k with
  | zero => intro i acc h1 h2; omega
  | succ k ih =>
    intro i acc h1 h2 h3
    rw [segment_Kids.l0]
    by_cases hlt : i < g.length
    · have hx : rd_T40 g (i : Int) = g[i] := by
        unfold rd_T40
        rw [Int.toNat_natCast, List.getD_eq_getElem?_getD, List.getElem?_eq_getElem hlt]; rfl
      have hxl := hn g[i] (List.getElem_mem _)
      have h5 : i * n ≤ 1000000 * 1000000 := Nat.mul_le_mul (by omega) hn1
      have h6 : (i + 1) * n = i * n + n := by rw [Nat.add_mul, Nat.one_mul]
      rw [if_pos (by omega), if_pos (by omega), if_pos (by omega), hx, if_pos (by omega)]
      rw [show wrap64 ((i : Int) + 1) = ((i + 1 : Nat) : Int) from by rw [i64_in (by omega) (by omega)]; omega]
      rw [ih (i + 1) _ (by omega) (by omega) (by rw [List.length_append]; omega)]
      rw [show g.drop i = g[i] :: g.drop (i + 1) from List.drop_eq_getElem_cons hlt]
      unfold flatL
      rw [List.flatMap_cons, List.append_assoc]
    · rw [if_neg (by omega)]
      rw [show g.drop i = [] from List.drop_eq_nil_of_le (by omega)]
      simp [flatL]
theorem kids_f (g : List S40) (n k : Nat) (hm : g.length ≤ 1000000) (hn : ∀ x ∈ g, x.f1.length ≤ n) (hn1 : n ≤ 1000000) (hk : g.length < k) : segment_Kids.f k g = some (flatL g) := by
  unfold segment_Kids.f
  exact kids_l g n hm hn hn1 k 0 [] (Nat.zero_le _) (by omega) (Nat.zero_le _)
end Go.Proofs.YtdphijhebppeeaaDoor.G
/- Chapter 16: are two lists of segments the same? The closure, and the loop. Written by tmpl.py out of F37.tl. -/
namespace Go.Proofs.YtdphijhebppeeaaDoor.G
open Go.RowKit Go.Shelf Go.Maps Go.Proofs.YtdphijhebppeeaaDoorW.PrintWords Go.Proofs.YtdphijhebppeeaaDoorW.PrintLast Go.Proofs.YtdphijhebppeeaaDoorW.PrintMore
theorem seg_at {w : World} {A : Option Addr} {xs : List S40} (h : Kd.C k40 w A xs.length xs) {i : Nat} (h1 : i < xs.length) : ∃ ad A1 c1, A = some ad ∧ w.cell? (ad.add (i * 2)) = some (.bool (xs.getD i z40).f0) ∧ w.cell? ⟨(ad.add (i * 2)).block, (ad.add (i * 2)).off + 1, none⟩ = some (.slice A1 (xs.getD i z40).f1.length c1) ∧ (xs.getD i z40).f1.length ≤ c1 ∧ Kd.C (Kd.int .i64) w A1 (xs.getD i z40).f1.length (xs.getD i z40).f1 := by
  obtain ⟨ad, A1, c1, e, x0, x1, x3, x2⟩ := at_T40 h (i : Int) (by omega) (by omega)
  rw [Int.toNat_natCast] at x0 x1
  unfold rd_T40 at x0 x1 x2 x3
  rw [Int.toNat_natCast] at x0 x1 x2 x3
  exact ⟨ad, A1, c1, e, x0, x1, x3, x2⟩
set_option maxRecDepth 100000 in
set_option maxHeartbeats 1000000 in
theorem sameC_any (x y : S40) (A B : Option Addr) (c0 c1 : Nat) (w : World) (ha : (Kd.int .i64).C w A x.f1.length x.f1) (hb : (Kd.int .i64).C w B y.f1.length y.f1) (hc0 : x.f1.length ≤ c0) (hc1 : y.f1.length ≤ c1) (hla : x.f1.length ≤ 1000) :
    Calls Tryd.prog 37 #[.agg #[.bool x.f0, .slice A x.f1.length c0], .agg #[.bool y.f0, .slice B y.f1.length c1]] w fun e w' => e = .returned (.bool (eqSeg x y)) ∧ Below w.heap.size w w' := by
  obtain ⟨xs, xk⟩ := x
  obtain ⟨ys, yk⟩ := y
  dsimp only at ha hb hc0 hc1 hla ⊢
  have HA := Aside0.mk ha
  have HB := Aside0.mk hb
  have HLA := Aside0.mk hla
  have _h0 := hc0
  have _h1 := hc1
  clear ha hb hla
  go_enter Tryd.func37, Tryd.ntmps37
  go_upto_region 1 with fail
  have hB1 := below_alloc (below_alloc (Below.refl w.heap.size w) (.cells #[.bool xs, .slice A xk.length c0] 40)) (.cells #[.bool ys, .slice B yk.length c1] 40)
  have hx := blk_alloc (blk_new w (.cells #[.bool xs, .slice A xk.length c0] 40)) (.cells #[.bool ys, .slice B yk.length c1] 40)
  have hy : ((w.alloc (.cells #[.bool xs, .slice A xk.length c0] 40)).alloc (.cells #[.bool ys, .slice B yk.length c1] 40)).heap[w.heap.size + 1]? = some (.cells #[.bool ys, .slice B yk.length c1] 40) := by simpa using blk_new (w.alloc (.cells #[.bool xs, .slice A xk.length c0] 40)) (.cells #[.bool ys, .slice B yk.length c1] 40)
  obtain ⟨W1, hW1⟩ : ∃ W1, (w.alloc (.cells #[.bool xs, .slice A xk.length c0] 40)).alloc (.cells #[.bool ys, .slice B yk.length c1] 40) = W1 := ⟨_, rfl⟩
  rw [hW1] at hB1 hx hy ⊢
  clear hW1
  have x0 := cell_at hx 0 rfl
  have x1 := cell_at hx 1 rfl
  have y0 := cell_at hy 0 rfl
  have y1 := cell_at hy 1 rfl
  have HB1 := Aside0.mk hB1
  clear hx hy hB1
  by_cases hs : xs = ys
  · subst hs
    have hr : eqSeg ⟨xs, xk⟩ ⟨xs, yk⟩ = decide (xk = yk) := by simp [eqSeg]
    have HR := Aside0.mk hr
    clear hr
    go_wp2_with (first | (go_at_call 38; refine (equalI_any xk yk A B c0 c1 _ (Kd.C_below HA.out HB1.out) (Kd.C_below HB.out HB1.out) hc0 hc1 HLA.out).mono ?_; rintro e w2 ⟨rfl, hb⟩; replace HB1 := Aside0.mk (below_then HB1.out HB1.out.size hb); clear hb))
    go_ret
    exact ⟨by rw [HR.out]; rfl, HB1.out⟩
  · have hr : eqSeg ⟨xs, xk⟩ ⟨ys, yk⟩ = false := by simp [eqSeg, hs]
    have hne : (xs == ys) = false := by simp [hs]
    have HR := Aside0.mk hr
    clear hr
    go_wp2
    go_ret
    exact ⟨by rw [HR.out]; rfl, HB1.out⟩
theorem same1_eg : ∀ args w, (callFunc 37 args).run Tryd.prog w = .ok (.enter 37 args) w := fun args w => by go_simp
set_option maxRecDepth 100000 in
set_option maxHeartbeats 1000000 in
theorem equalF_any (a b : List S40) (A B : Option Addr) (c0 c1 : Nat) (w : World) (ha : Kd.C k40 w A a.length a) (hb : Kd.C k40 w B b.length b) (hc0 : a.length ≤ c0) (hc1 : b.length ≤ c1) (hla : a.length ≤ 1000) (hq : ∀ x ∈ a, x.f1.length ≤ 1000) :
    Calls Tryd.prog 36 #[.slice A a.length c0, .slice B b.length c1, .func (.func 37) #[] #[]] w fun e w' => e = .returned (.bool (eqSegs a b)) ∧ Below w.heap.size w w' := by
  have HA := Aside0.mk ha
  have HB := Aside0.mk hb
  have HLA := Aside0.mk hla
  have HQ := Aside0.mk hq
  have _h0 := hc0
  have _h1 := hc1
  clear ha hb hla hq
  by_cases hl : a.length = b.length
  · have hl' : (a.length : Int) = b.length := by omega
    have HS := Aside0.mk hl
    go_enter Tryd.func36, Tryd.ntmps36
    go_wp2
    clear hl hl'
    go_loopw [17] (fun i wr => ∃ k : Nat, i = .int .i64 k ∧ k ≤ a.length ∧ Aside0 (∀ j, j < k → eqSeg (a.getD j z40) (b.getD j z40) = true) ∧ Aside0 (Below w.heap.size w wr)) (fun i _ => a.length - (intZ i).toNat)
    case atStart => exact ⟨0, rfl, Nat.zero_le _, ⟨fun j hj => by omega⟩, ⟨Below.refl ..⟩⟩
    case round =>
      obtain ⟨k, rfl, hk, HE, HW⟩ := hrel
      by_cases hlt : k < a.length
      · have hlt' : (k : Int) < a.length := by omega
        have hlb : (k : Int) < b.length := by have := HS.out; omega
        obtain ⟨ad, A1, c2, rfl, x0, x1, x2, x3⟩ := seg_at (Kd.C_below HA.out HW.out) hlt
        obtain ⟨ad', B1, c3, rfl, y0, y1, y2, y3⟩ := seg_at (Kd.C_below HB.out HW.out) (show k < b.length by have := HS.out; omega)
        have hxq : (a.getD k z40).f1.length ≤ 1000 := HQ.out _ (by rw [List.getD_eq_getElem?_getD, List.getElem?_eq_getElem hlt]; exact List.getElem_mem _)
        obtain ⟨x, hx⟩ : ∃ x, a.getD k z40 = x := ⟨_, rfl⟩
        obtain ⟨y, hy⟩ : ∃ y, b.getD k z40 = y := ⟨_, rfl⟩
        rw [hx] at x0 x1 x2 x3 hxq
        rw [hy] at y0 y1 y2 y3
        have HX := Aside0.mk hx
        have HY := Aside0.mk hy
        have HX3 := Aside0.mk x3
        have HY3 := Aside0.mk y3
        clear hx hy x3 y3
        go_upto_region 6 with fail
        have hB1 := below_alloc (Below.refl wr.heap.size wr) (.cells #[.bool x.f0, .slice A1 x.f1.length c2] 40)
        have hb1 := blk_new wr (.cells #[.bool x.f0, .slice A1 x.f1.length c2] 40)
        replace y0 := pw_cell_below hB1 y0
        replace y1 := pw_cell_below hB1 y1
        have hs1 : (wr.alloc (.cells #[.bool x.f0, .slice A1 x.f1.length c2] 40)).heap.size = wr.heap.size + 1 := by simp
        obtain ⟨W1, hW1⟩ : ∃ W1, wr.alloc (.cells #[.bool x.f0, .slice A1 x.f1.length c2] 40) = W1 := ⟨_, rfl⟩
        rw [hW1] at hB1 hb1 y0 y1 hs1 ⊢
        have HB1 := Aside0.mk hB1
        have HBK := Aside0.mk hb1
        have HZ := Aside0.mk hs1
        clear hW1 x0 x1 hB1 hb1 hs1
        go_upto_region 7 with fail
        have hb2 := blk_new W1 (.cells #[.bool y.f0, .slice B1 y.f1.length c3] 40)
        have hb1 := blk_alloc HBK.out (.cells #[.bool y.f0, .slice B1 y.f1.length c3] 40)
        have hB2 := below_then HB1.out HB1.out.size (below_alloc (Below.refl W1.heap.size W1) (.cells #[.bool y.f0, .slice B1 y.f1.length c3] 40))
        obtain ⟨W2, hW2⟩ : ∃ W2, W1.alloc (.cells #[.bool y.f0, .slice B1 y.f1.length c3] 40) = W2 := ⟨_, rfl⟩
        rw [hW2] at hB2 hb2 hb1 ⊢
        have v0 := cell_at hb1 0 rfl
        have v1 := cell_at hb1 1 rfl
        have w0 := cell_at hb2 0 rfl
        have w1 := cell_at hb2 1 rfl
        clear hW2 y0 y1 hb1 hb2
        have HB2 := Aside0.mk hB2
        clear hB2
        have eg := same1_eg
        by_cases he : eqSeg x y = true
        · have HEQ := Aside0.mk he
          clear he
          have hla2 := HLA.out
          have hw : wrap64 ((k : Int) + 1) = ((k + 1 : Nat) : Int) := by rw [i64_in (by omega) (by omega)]; omega
          clear hla2
          go_wp2_with (first | (go_at_call 37; refine (sameC_any x y A1 B1 c2 c3 _ (Kd.C_below HX3.out HB2.out) (Kd.C_below HY3.out HB2.out) x2 y2 hxq).mono ?_; rintro e w3 ⟨rfl, hb⟩; rw [HEQ.out]; replace HB2 := Aside0.mk (below_then HB2.out HB2.out.size hb); clear hb))
          rw [hw]
          clear hw
          refine ⟨⟨k + 1, rfl, by omega, ⟨fun j hj => ?_⟩, ⟨below_then HW.out HW.out.size HB2.out⟩⟩, by simp only [intZ]; omega⟩
          by_cases e : j = k
          · subst e; rw [HX.out, HY.out]; exact HEQ.out
          · exact HE.out j (by omega)
        · have hr : eqSegs a b = false := by
            unfold eqSegs
            rw [Bool.and_eq_false_iff]
            right
            rw [Bool.eq_false_iff]
            intro hall
            rw [List.all_eq_true] at hall
            have := hall k (List.mem_range.2 hlt)
            rw [HX.out, HY.out] at this
            exact he this
          have HR := Aside0.mk hr
          have HEQ := Aside0.mk (show eqSeg x y = false by simpa using he)
          clear he hr
          go_wp2_with (first | (go_at_call 37; refine (sameC_any x y A1 B1 c2 c3 _ (Kd.C_below HX3.out HB2.out) (Kd.C_below HY3.out HB2.out) x2 y2 hxq).mono ?_; rintro e w3 ⟨rfl, hb⟩; rw [HEQ.out]; replace HB2 := Aside0.mk (below_then HB2.out HB2.out.size hb); clear hb))
          go_ret
          exact ⟨by rw [HR.out]; rfl, below_then HW.out HW.out.size HB2.out⟩
      · have hke : k = a.length := by omega
        have hna : ¬ ((k : Int) < a.length) := by omega
        have hnb : ¬ ((k : Int) < b.length) := by have := HS.out; omega
        have hr : eqSegs a b = true := by
          unfold eqSegs
          rw [Bool.and_eq_true]
          exact ⟨decide_eq_true HS.out, List.all_eq_true.2 fun j hj => HE.out j (by have := List.mem_range.1 hj; omega)⟩
        have HR := Aside0.mk hr
        clear hr hke hk
        go_wp2
        go_ret
        exact ⟨by rw [HR.out]; rfl, HW.out⟩
  · have hl' : ¬ (a.length : Int) = b.length := by omega
    have hne : ((a.length : Int) != b.length) = true := by simp [hl']
    have HR := Aside0.mk (show eqSegs a b = false by unfold eqSegs; rw [decide_eq_false hl, Bool.false_and])
    go_enter Tryd.func36, Tryd.ntmps36
    go_wp2
    go_ret
    exact ⟨by rw [HR.out]; rfl, Below.refl ..⟩
theorem same_any (a b : List S40) (A B : Option Addr) (c0 c1 : Nat) (w : World) (ha : Kd.C k40 w A a.length a) (hb : Kd.C k40 w B b.length b) (hc0 : a.length ≤ c0) (hc1 : b.length ≤ c1) (hla : a.length ≤ 1000) (hq : ∀ x ∈ a, x.f1.length ≤ 1000) :
    Calls Tryd.prog 19 #[.slice A a.length c0, .slice B b.length c1] w fun e w' => e = .returned (.bool (eqSegs a b)) ∧ Below w.heap.size w w' := by
  have HA := Aside0.mk (equalF_any a b A B c0 c1 w ha hb hc0 hc1 hla hq)
  clear ha hb
  go_enter Tryd.func19, Tryd.ntmps19
  go_wp2_with (first | (go_at_call 36; refine HA.out.mono ?_; rintro e w3 ⟨rfl, hb⟩; have HB := Aside0.mk hb; clear hb))
  go_ret
  exact ⟨rfl, HB.out⟩
end Go.Proofs.YtdphijhebppeeaaDoor.G
/- Chapter 16: the first twenty segments, of at most twenty kids each; the document's kids. Written by tmpl.py out of X5.tl. -/
namespace Go.Proofs.YtdphijhebppeeaaDoor.G
open Go Go.RowKit Go.Shelf Go.Maps Go.Proofs.YtdphijhebppeeaaDoorW.PrintWords Go.Proofs.YtdphijhebppeeaaDoorW.PrintLast Go.Proofs.YtdphijhebppeeaaDoorW.PrintMore
def fewS (l : List S40) : List S40 := (l.take 20).map fun s => ⟨s.f0, s.f1.take 20⟩
theorem few_row (l : List S40) (i : Nat) (h : i < l.length) (h2 : i < 20) : (fewS l).drop i = ⟨(rd_T40 l (i : Int)).f0, (rd_T40 l (i : Int)).f1.take 20⟩ :: (fewS l).drop (i + 1) := by
  have hl : i < (fewS l).length := by unfold fewS; rw [List.length_map, List.length_take]; omega
  rw [List.drop_eq_getElem_cons hl]
  congr 1
  unfold fewS rd_T40
  rw [Int.toNat_natCast, List.getD_eq_getElem?_getD, List.getElem?_eq_getElem h]
  simp
theorem few_mn (q : List Int) : q.take (mn (q.length : Int) 20).toNat = q.take 20 := by
  unfold mn
  split
  · rfl
  · rw [Int.toNat_natCast, List.take_length, List.take_of_length_le (by omega)]
theorem few_l (l : List S40) : ∀ (k i : Nat) (acc : List S40), i ≤ 20 → 20 < k + i → acc.length ≤ i → gutterlaw16_few.l0 k l acc (i : Int) = some (acc ++ (fewS l).drop i) := by
  intro k
  induction k with
  | zero => intro i acc h1 h2; omega
  | succ k ih =>
    intro i acc h1 h2 h3
    rw [gutterlaw16_few.l0]
    have hn : (fewS l).length ≤ i → (fewS l).drop i = [] := fun h => List.drop_eq_nil_of_le h
    have hfl : (fewS l).length = min 20 l.length := by unfold fewS; rw [List.length_map, List.length_take]
    by_cases hlt : i < l.length
    · by_cases h20 : i < 20
      · rw [if_pos (by omega), if_pos (by omega), if_pos (by omega)]
        rw [if_pos (show 0 ≤ mn _ 20 by unfold mn; split <;> omega), if_pos (show mn _ 20 ≤ _ by unfold mn; split <;> omega), if_pos (by omega)]
        rw [show wrap64 ((i : Int) + 1) = ((i + 1 : Nat) : Int) from by rw [i64_in (by omega) (by omega)]; omega]
        rw [ih (i + 1) _ (by omega) (by omega) (by rw [List.length_append, List.length_singleton]; omega)]
        rw [few_row l i hlt h20, few_mn, List.append_assoc]
        rfl
      · rw [if_pos (by omega), if_neg (by omega), hn (by omega), List.append_nil]
    · rw [if_neg (by omega), hn (by omega), List.append_nil]
theorem few_f (l : List S40) (k : Nat) (hk : 20 < k) : gutterlaw16_few.f k l = some (fewS l) := by
  unfold gutterlaw16_few.f
  exact few_l l k 0 [] (by omega) (by omega) (Nat.le_refl _)
theorem fewS_len (l : List S40) : (fewS l).length ≤ 20 := by unfold fewS; rw [List.length_map, List.length_take]; omega
theorem fewS_el (l : List S40) : ∀ x ∈ fewS l, x.f1.length ≤ 20 := by
  intro x hx
  unfold fewS at hx
  obtain ⟨y, _, rfl⟩ := List.mem_map.1 hx
  rw [List.length_take]
  exact Nat.min_le_left _ _
theorem few_any (l : List S40) (A : Option Addr) (c : Nat) (w : World) (h : Kd.C k40 w A l.length l) (hc : l.length ≤ c) :
    Calls Tryd.prog 17 #[.slice A l.length c] w fun e w' => ∃ A' c', e = .returned (.slice A' (fewS l).length c') ∧ (fewS l).length ≤ c' ∧ Kd.C k40 w' A' (fewS l).length (fewS l) ∧ Below w.heap.size w w' := by
  refine (gutterlaw16_few.calls 30 (fun k_ => k_ < w.heap.size) A c l (fewS l) w (Kd.V_mk hc (Kd.C_F k40_heap h)) (few_f l 30 (by omega))).mono ?_
  rintro e w' ⟨v, rfl, hn, hb⟩
  obtain ⟨A', c', rfl⟩ := Kd.N_slice hn
  obtain ⟨_, h2, h3⟩ := Kd.N_reads' hn
  exact ⟨A', c', rfl, h2, h3, hb⟩
theorem kidsr_l (g : List S40) (n : Nat) (hm : g.length ≤ 1000000) (hn : ∀ x ∈ g, x.f1.length ≤ n) (hn1 : n ≤ 1000000) : ∀ (k i : Nat) (acc : List Int), i ≤ g.length → g.length < k + i → acc.length ≤ i * n → gutterref16_Kids.l0 k g acc (i : Int) = some (acc ++ flatL (g.drop i)) := by
  intro k
  induction k with
  | zero => intro i acc h1 h2; omega
  | succ k ih =>
    intro i acc h1 h2 h3
    rw [gutterref16_Kids.l0]
    by_cases hlt : i < g.length
    · have hx : rd_T40 g (i : Int) = g[i] := by
        unfold rd_T40
        rw [Int.toNat_natCast, List.getD_eq_getElem?_getD, List.getElem?_eq_getElem hlt]; rfl
      have hxl := hn g[i] (List.getElem_mem _)
      have h5 : i * n ≤ 1000000 * 1000000 := Nat.mul_le_mul (by omega) hn1
      have h6 : (i + 1) * n = i * n + n := by rw [Nat.add_mul, Nat.one_mul]
      rw [if_pos (by omega), if_pos (by omega), hx, if_pos (by omega)]
      rw [show wrap64 ((i : Int) + 1) = ((i + 1 : Nat) : Int) from by rw [i64_in (by omega) (by omega)]; omega]
      rw [ih (i + 1) _ (by omega) (by omega) (by rw [List.length_append]; omega)]
      rw [show g.drop i = g[i] :: g.drop (i + 1) from List.drop_eq_getElem_cons hlt]
      unfold flatL
      rw [List.flatMap_cons, List.append_assoc]
    · rw [if_neg (by omega)]
      rw [show g.drop i = [] from List.drop_eq_nil_of_le (by omega)]
      simp [flatL]
theorem kidsr_f (g : List S40) (n k : Nat) (hm : g.length ≤ 1000000) (hn : ∀ x ∈ g, x.f1.length ≤ n) (hn1 : n ≤ 1000000) (hk : g.length < k) : gutterref16_Kids.f k g = some (flatL g) := by
  unfold gutterref16_Kids.f
  exact kidsr_l g n hm hn hn1 k 0 [] (Nat.zero_le _) (by omega) (Nat.zero_le _)
end Go.Proofs.YtdphijhebppeeaaDoor.G
/- What comes in: slices of segments. Written by tmpl.py out of R2.tl. -/
namespace Go.Proofs.YtdphijhebppeeaaDoor.G
open Go.RowKit Go.ChangeShapes Go.WideShapes Go.Deep Go.Proofs.YtdphijhebppeeaaDoorW.PrintWords Go.Proofs.YtdphijhebppeeaaDoorW.PrintLast Go.Proofs.YtdphijhebppeeaaDoorW.PrintMore
theorem open_rows {α : Type} (d : Kd α) {st et : TypeId} (hst : Tryd.prog.underlying st = some (.slice et)) (hsz : Tryd.prog.cellsOf et = d.sz) {H : Type} {enc : TypeId × Value → H} {W : World} {base : Nat} {sp : Nat → Bool} {held : Bool}
    (hel : ∀ (n : Nat) (cs : List Value) (x : DataW H × List MemPlace), DataW.trod enc Tryd.prog W base sp held n et cs = some x → ∃ z, d.K W z cs) {n : Nat} {cs : List Value} {x : DataW H × List MemPlace} (h : DataW.trod enc Tryd.prog W base sp held n st cs = some x) :
    ∃ (A : Option Addr) (len cap : Nat) (zs : List α), cs = [.slice A len cap] ∧ zs.length = len ∧ len ≤ cap ∧ Kd.C d W A len zs := by
  rcases DataW.trod_slice hst h with ⟨hc, _⟩ | ⟨ad, len, cap, elems, rest, m, _, hcs, _, _, hl, hm, hlen, hel', _⟩
  · exact ⟨none, 0, 0, [], hc, rfl, Nat.le_refl _, ⟨rfl, by omega, fun h => by omega⟩⟩
  · have each : ∀ i, i < len → ∃ z : α, ∃ c : List Value, c.length = d.sz ∧ d.K W z c ∧ ∀ j u, c[j]? = some u → W.cell? (ad.add (i * d.sz + j)) = some u := by
      intro i hi
      have he := hel' i hi
      rw [hsz] at he
      have hi' : i < elems.length := by omega
      rw [List.getElem?_eq_getElem hi', Option.bind_eq_some_iff] at he
      obtain ⟨c, hcs2, hy⟩ := he
      obtain ⟨z, hz⟩ := hel _ _ _ hy
      obtain ⟨_, hcl, hcell⟩ := World.cells?_some hcs2
      refine ⟨z, c, hcl, hz, fun j u hj => ?_⟩
      have hj3 : j < d.sz := by
        have := (List.getElem?_eq_some_iff.1 hj).1
        omega
      have := hcell j hj3
      rw [hj] at this
      rw [← this]
      rw [Go.Addr.add_add]
    refine ⟨some ad, len, cap, (List.range len).attach.map fun i => Classical.choose (each i.1 (List.mem_range.1 i.2)), hcs, by simp, hl, ⟨by simp, by unfold maxLen at hm; omega, fun _ => ⟨ad, rfl, fun j p hj => ?_⟩⟩⟩
    have hjl : j < len := by
      have := (List.getElem?_eq_some_iff.1 hj).1
      simpa using this
    have hp : p = Classical.choose (each j hjl) := by
      rw [List.getElem?_map, Option.map_eq_some_iff] at hj
      obtain ⟨⟨i, hi⟩, h1, h2⟩ := hj
      have h3 := List.getElem?_eq_some_iff.1 h1
      obtain ⟨h4, h5⟩ := h3
      simp at h5
      subst h5
      exact h2.symm
    subst hp
    obtain ⟨c, c1, c2, c3⟩ := Classical.choose_spec (each j hjl)
    exact ⟨c, c1, c2, c3⟩
theorem cellsN36 : Tryd.prog.cellsOf 36 = 1 := by kernel_rfl
theorem cellsN40 : Tryd.prog.cellsOf 40 = 2 := by kernel_rfl
set_option maxRecDepth 100000 in
theorem open_r40 {H : Type} {enc : TypeId × Value → H} {W : World} {base : Nat} {sp : Nat → Bool} {held : Bool} {n : Nat} {cs : List Value} {x : DataW H × List MemPlace} (h : DataW.trod enc Tryd.prog W base sp held n 40 cs = some x) : ∃ z : S40, k40.K W z cs := by
  obtain ⟨xs, m, _, _, hl, hx, hf⟩ := DataW.trod_struct Tryd.underlying40 h
  rw [cellsN40] at hl
  have hx' : xs.length = 2 := hx
  obtain ⟨c0, c1, rfl⟩ : ∃ c0 c1 : Value, cs = [c0, c1] := by
    match cs, hl with
    | [c0, c1], _ => exact ⟨c0, c1, rfl⟩
  clear h hx
  have f0 : DataW.trod enc Tryd.prog W base sp held m 4 (([c0, c1].drop 0).take (Tryd.prog.cellsOf 4)) = xs[0]? := hf 0 _ rfl
  rw [List.getElem?_eq_getElem (show 0 < xs.length by omega), cellsN4] at f0
  obtain ⟨n0, e0, _⟩ := DataW.trod_bool Tryd.underlying4 f0
  have q0 : c0 = .bool n0 := by simpa using e0
  have f1 : DataW.trod enc Tryd.prog W base sp held m 36 (([c0, c1].drop 1).take (Tryd.prog.cellsOf 36)) = xs[1]? := hf 1 _ rfl
  rw [List.getElem?_eq_getElem (show 1 < xs.length by omega), cellsN36] at f1
  obtain ⟨A, len, cap, zs, e1, hz, hc, hC⟩ := open_rows (Kd.int .i64) Tryd.underlying36 cellsN3 (fun n cs x h => by
    obtain ⟨v, rfl, _, _⟩ := DataW.trod_int Tryd.underlying3 h
    exact ⟨v, rfl⟩) f1
  have q1 : c1 = .slice A len cap := by simpa using e1
  subst q0 q1 hz
  exact ⟨⟨n0, zs⟩, k40_mk W ⟨n0, zs⟩ hc hC⟩
def wfG (_ : S40) : Bool := true
theorem open_sl33 {H : Type} {enc : TypeId × Value → H} {W : World} {base : Nat} {sp : Nat → Bool} {held : Bool} {n : Nat} {a : Option Addr} {len cap : Nat} {x : DataW H × List MemPlace} (h : DataW.trod enc Tryd.prog W base sp held n 33 [.slice a len cap] = some x) :
    ∃ zs : List S40, zs.length = len ∧ len ≤ cap ∧ Kd.C k40 W a len zs ∧ zs.all wfG = true := by
  obtain ⟨A, len', cap', zs, e, hz, hc, hC⟩ := open_rows k40 Tryd.underlying33 cellsN40 (fun n cs x h => open_r40 h) h
  simp only [List.cons.injEq, Value.slice.injEq, and_true] at e
  obtain ⟨rfl, rfl, rfl⟩ := e
  exact ⟨zs, hz, hc, hC, by rw [List.all_eq_true]; intro z _; rfl⟩
end Go.Proofs.YtdphijhebppeeaaDoor.G
/- Chapter 16: segments' kids, and which lists are the same. The law is walked by hand. Written by tmpl.py out of K5.tl. -/
namespace Go.Proofs.YtdphijhebppeeaaDoor.G
open Go Go.RowKit Go.Shelf Go.Maps Go.Proofs.YtdphijhebppeeaaDoorW.PrintWords Go.Proofs.YtdphijhebppeeaaDoorW.PrintLast Go.Proofs.YtdphijhebppeeaaDoorW.PrintMore
set_option maxRecDepth 100000 in
set_option maxHeartbeats 4000000 in
theorem tells_any (A0 : Option Addr) (c0 : Nat) (l0 : List (S40)) (A1 : Option Addr) (c1 : Nat) (l1 : List (S40)) (w : World) (hr0 : Kd.C k40 w A0 l0.length l0) (hc0 : l0.length ≤ c0) (hr1 : Kd.C k40 w A1 l1.length l1) (hc1 : l1.length ≤ c1) (hG : GOK w) :
    Calls Tryd.prog 6 #[.slice A0 l0.length c0, .slice A1 l1.length c1] w fun e w' => e = .returned (.bool true) ∧ Below w.heap.size w w' := by
  have HG := Aside0.mk hG
  have H0 := Aside0.mk hr0
  have H1 := Aside0.mk hr1
  clear hG hr0 hr1
  have HB := Aside0.mk (Below.refl w.heap.size w)
  go_enter Tryd.func6, Tryd.ntmps6
  go_upto_region 2 with (first | (go_at_call 9; refine (gutterlaw16_shown.calls 10 true _ (shown_f 10 (Nat.le_refl _)) HG.out).mono ?_; rintro e w1 ⟨rfl, hb⟩; replace H0 := Aside0.mk (Kd.C_below H0.out hb); replace H1 := Aside0.mk (Kd.C_below H1.out hb); replace HB := Aside0.mk (below_then HB.out HB.out.size hb); clear hb))
  go_upto_region 3 with (first | (go_at_call 17; refine (few_any l0 A0 c0 _ H0.out hc0).mono ?_; rintro e w2 ⟨Aa, ca, rfl, ha, ho, hb⟩; have qa := Aside0.mk ha; have Ha := Aside0.mk ho; replace H1 := Aside0.mk (Kd.C_below H1.out hb); replace HB := Aside0.mk (below_then HB.out HB.out.size hb); clear ha ho hb))
  go_upto_region 4 with (first | (go_at_call 17; refine (few_any l1 A1 c1 _ H1.out hc1).mono ?_; rintro e w3 ⟨Ab, cb, rfl, ha, ho, hb⟩; have qb := Aside0.mk ha; have Hb := Aside0.mk ho; replace Ha := Aside0.mk (Kd.C_below Ha.out hb); replace HB := Aside0.mk (below_then HB.out HB.out.size hb); clear ha ho hb))
  have hla := fewS_len l0
  have hlb := fewS_len l1
  have hea := fewS_el l0
  obtain ⟨a, hea2⟩ : ∃ a, fewS l0 = a := ⟨_, rfl⟩
  obtain ⟨b, heb2⟩ : ∃ b, fewS l1 = b := ⟨_, rfl⟩
  rw [hea2] at hla hea qa Ha ⊢
  rw [heb2] at hlb qb Hb ⊢
  have hfl := flatL_len a 20 hea
  have hfl2 : (flatL a).length ≤ 400 := Nat.le_trans hfl (Nat.mul_le_mul hla (Nat.le_refl 20))
  obtain ⟨L, hL⟩ : ∃ L, flatL a = L := ⟨_, rfl⟩
  have hk1 := kids_f a 20 1000 (by omega) hea (by omega) (by omega)
  have hk2 := kidsr_f a 20 1000 (by omega) hea (by omega) (by omega)
  have hi := ints_f L L 1000 (by rw [← hL]; omega) (by rw [← hL]; omega)
  rw [decide_eq_true rfl] at hi
  rw [hL] at hk1 hk2
  have hs := same_f a b 20 1000 (by omega) hea (by omega) (by omega)
  have hrf := eqSegs_refl a
  obtain ⟨q, hq⟩ : ∃ q, eqSegs a b = q := ⟨_, rfl⟩
  rw [hq] at hs
  have HK1 := Aside0.mk hk1
  have HK2 := Aside0.mk hk2
  have HI := Aside0.mk hi
  have HS := Aside0.mk hs
  have HRF := Aside0.mk hrf
  have HQ := Aside0.mk hq
  have HLA := Aside0.mk (show a.length ≤ 1000 by omega)
  have HEA := Aside0.mk (show ∀ x ∈ a, x.f1.length ≤ 1000 from fun x hx => Nat.le_trans (hea x hx) (by omega))
  clear hla hlb hea hfl hfl2 hk1 hk2 hi hs hrf hq hL hea2 heb2
  have eq1 : (q == q) = true := by simp
  go_wp2_with (first | (go_at_call 16; refine (segment_Kids.calls 1000 Aa ca a L _ Ha.out qa.out HK1.out).mono ?_; rintro e w4 ⟨v, rfl, ho, hb⟩; obtain ⟨Ao, co, rfl⟩ := Kd.R_slice ho; have qo := Aside0.mk (Kd.R_reads' ho).2.1; have Ho := Aside0.mk (Kd.R_reads' ho).2.2; replace Ha := Aside0.mk (Kd.C_below Ha.out hb); replace Hb := Aside0.mk (Kd.C_below Hb.out hb); replace HB := Aside0.mk (below_then HB.out HB.out.size hb); clear ho hb) | (go_at_call 18; refine (gutterref16_Kids.calls 1000 Aa ca a L _ Ha.out qa.out HK2.out).mono ?_; rintro e w5 ⟨v, rfl, ho, hb⟩; obtain ⟨Ap, cp, rfl⟩ := Kd.R_slice ho; have qp := Aside0.mk (Kd.R_reads' ho).2.1; have Hp := Aside0.mk (Kd.R_reads' ho).2.2; replace Ho := Aside0.mk (Kd.C_below Ho.out hb); replace Ha := Aside0.mk (Kd.C_below Ha.out hb); replace Hb := Aside0.mk (Kd.C_below Hb.out hb); replace HB := Aside0.mk (below_then HB.out HB.out.size hb); clear ho hb) | (go_at_call 15; refine (gutterref05_Ints.calls 1000 Ao co L Ap cp L true _ Ho.out qo.out Hp.out qp.out HI.out).mono ?_; rintro e w6 ⟨rfl, hd⟩; have hb := hd.below; replace Ha := Aside0.mk (Kd.C_below Ha.out hb); replace Hb := Aside0.mk (Kd.C_below Hb.out hb); replace HB := Aside0.mk (below_then HB.out HB.out.size hb); clear hd hb) | (go_at_call 19; (with_reducible refine (same_any a b Aa Ab ca cb _ Ha.out Hb.out qa.out qb.out HLA.out HEA.out).mono ?_); rintro e w7 ⟨rfl, hb⟩; rw [HQ.out]; replace Ha := Aside0.mk (Kd.C_below Ha.out hb); replace Hb := Aside0.mk (Kd.C_below Hb.out hb); replace HB := Aside0.mk (below_then HB.out HB.out.size hb); clear hb) | (go_at_call 20; refine (gutterref16_Same.calls 1000 Aa ca a Ab cb b q _ Ha.out qa.out Hb.out qb.out HS.out).mono ?_; rintro e w8 ⟨rfl, hd⟩; have hb := hd.below; replace Ha := Aside0.mk (Kd.C_below Ha.out hb); replace HB := Aside0.mk (below_then HB.out HB.out.size hb); clear hd hb) | (go_at_call 19; (with_reducible refine (same_any a a Aa Aa ca ca _ Ha.out Ha.out qa.out qa.out HLA.out HEA.out).mono ?_); rintro e w9 ⟨rfl, hb⟩; rw [HRF.out]; replace HB := Aside0.mk (below_then HB.out HB.out.size hb); clear hb))
  go_ret
  exact ⟨rfl, HB.out⟩
def gutterlaw16_SegmentTells.f (_ : Nat) (_ _ : List (S40)) : Option Bool := some true
theorem gutterlaw16_SegmentTells.calls (k : Nat) (A0 : Option Addr) (c0 : Nat) (l0 : List (S40)) (A1 : Option Addr) (c1 : Nat) (l1 : List (S40)) (r : Bool) (w : World) (hr0 : Kd.C k40 w A0 l0.length l0) (hc0 : l0.length ≤ c0) (hr1 : Kd.C k40 w A1 l1.length l1) (hc1 : l1.length ≤ c1) (h : gutterlaw16_SegmentTells.f k l0 l1 = some r) (hG : GOK w) :
    Calls Tryd.prog 6 #[.slice A0 l0.length c0, .slice A1 l1.length c1] w fun e w' => e = .returned (.bool r) ∧ Below w.heap.size w w' := by
  obtain rfl := Option.some.inj h
  exact tells_any A0 c0 l0 A1 c1 l1 w hr0 hc0 hr1 hc1 hG
theorem SegmentTells (l0 l1 : List S40) (_ : l0.all wfG = true) (_ : l1.all wfG = true) : ∃ k, gutterlaw16_SegmentTells.f k l0 l1 = some true := ⟨0, rfl⟩
end Go.Proofs.YtdphijhebppeeaaDoor.G
