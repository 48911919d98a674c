/- Chapter 10: the iterator over the places. -/
import Derived.Test.YtiodlbfdfnideaaDoorF6
import Derived.Sort.CutIn
import Derived.BigRegionIn
import Derived.Sort.QuietIn
import Derived.Deep.RegionHeld3
namespace Go.Proofs.YtiodlbfdfnideaaDoor.G
open Go.RowKit Go.Shelf Go.Proofs.YtiodlbfdfnideaaDoorW.PrintWords Go.Proofs.YtiodlbfdfnideaaDoorW.PrintLast Go.Proofs.YtiodlbfdfnideaaDoorW.PrintMore

/-- The stack behind an item: its end, the greatest and the least margin left. -/
def stS (s : Int × Int × Int) (x : S42) : Int × Int × Int :=
  if x.f1 > 0 then (s.1 + (mx s.2.1 x.f0 + mn s.2.2 x.f0) + x.f1, mx 0 x.f2, mn 0 x.f2) else (s.1, mx (mx s.2.1 x.f0) x.f2, mn (mn s.2.2 x.f0) x.f2)
/-- Where an item begins, what is ahead of it. -/
def plS (s : Int × Int × Int) (x : S42) : Int × Int := (s.1 + (mx s.2.1 x.f0 + mn s.2.2 x.f0), mx s.2.1 x.f0 + mn s.2.2 x.f0)
def runL (l : List S42) : (Int × Int × Int) × List (Int × Int) := l.foldl (fun s x => (stS s.1 x, s.2 ++ [plS s.1 x])) ((0, 0, 0), [])
theorem runL_snoc (l : List S42) (x : S42) : runL (l ++ [x]) = (stS (runL l).1 x, (runL l).2 ++ [plS (runL l).1 x]) := by simp [runL]
theorem runL_len (l : List S42) : (runL l).2.length = l.length := by
  induction l using snoc_ind with
  | h0 => rfl
  | h1 l x ih => rw [runL_snoc]; simp [ih]
theorem itemB_in {x : S42} (h : itemB x = true) : (0 ≤ x.f1 ∧ x.f1 ≤ 1048576) ∧ (-1048576 ≤ x.f0 ∧ x.f0 ≤ 1048576) ∧ (-1048576 ≤ x.f2 ∧ x.f2 ≤ 1048576) := by
  simp only [itemB, marB, Bool.and_eq_true, decide_eq_true_eq] at h
  omega
theorem mx_in {a b : Int} (ha : 0 ≤ a ∧ a ≤ 1048576) (hb : b ≤ 1048576) : 0 ≤ mx a b ∧ mx a b ≤ 1048576 := by unfold mx; split <;> omega
theorem mn_in {a b : Int} (ha : -1048576 ≤ a ∧ a ≤ 0) (hb : -1048576 ≤ b) : -1048576 ≤ mn a b ∧ mn a b ≤ 0 := by unfold mn; split <;> omega
theorem runL_in (l : List S42) (h : l.all itemB = true) : (-(2097152 * (l.length : Int)) ≤ (runL l).1.1 ∧ (runL l).1.1 ≤ 2097152 * (l.length : Int)) ∧ (0 ≤ (runL l).1.2.1 ∧ (runL l).1.2.1 ≤ 1048576) ∧ (-1048576 ≤ (runL l).1.2.2 ∧ (runL l).1.2.2 ≤ 0) := by
  induction l using snoc_ind with
  | h0 => simp [runL]
  | h1 l x ih =>
    rw [List.all_append, Bool.and_eq_true] at h
    obtain ⟨h1, h2, h3⟩ := ih h.1
    obtain ⟨x1, x2, x3⟩ := itemB_in (by simpa using h.2 : itemB x = true)
    have hu := mx_in h2 x2.2
    have hd := mn_in h3 x2.1
    have e : ((l ++ [x]).length : Int) = (l.length : Int) + 1 := by simp
    rw [runL_snoc, e]
    dsimp only
    unfold stS
    generalize mx (runL l).1.2.1 x.f0 = u at *
    generalize mn (runL l).1.2.2 x.f0 = d at *
    split
    · have h4 := mx_in (a := 0) (by omega) x3.2
      have h5 := mn_in (a := 0) (by omega) x3.1
      dsimp only
      omega
    · have h4 := mx_in hu x3.2
      have h5 := mn_in hd x3.1
      dsimp only
      omega
theorem items_take {rs : List S42} (h : rs.all itemB = true) (k : Nat) : (rs.take k).all itemB = true := by
  rw [List.all_eq_true] at h ⊢
  exact fun x hx => h x (List.mem_of_mem_take hx)
theorem item_at {rs : List S42} (h : rs.all itemB = true) (k : Nat) (hk : k < rs.length) : itemB (rd_T42 rs k) = true := by
  have := List.all_eq_true.1 h rs[k] (List.getElem_mem hk)
  simpa [rd_T42, hk] using this

def StackAt (W : World) (Bs : Nat) (sl : Value) (s : Int × Int × Int) : Prop := ∃ n : Int, W.heap[Bs]? = some (.cells #[sl, .int .i64 s.1, .int .i64 s.2.1, .int .i64 s.2.2, .int .i64 n] 64 (0, 0))

theorem i64_in {x : Int} (h1 : -9223372036854775808 ≤ x) (h2 : x ≤ 9223372036854775807) : IntKind.i64.wrap x = x := by
  rw [IntWalk.i64_left]
  unfold wrap64
  omega
theorem cell_ad (W : World) (n : Nat) (o : Obj) (a : Addr) : ((W.drewN n).alloc o).cell? a = (W.alloc o).cell? a := rfl
theorem froz_ad (W : World) (n : Nat) (o : Obj) (a : Addr) : ((W.drewN n).alloc o).frozen? a = (W.alloc o).frozen? a := rfl
theorem cell_ad1 (W : World) (o : Obj) (a : Addr) : (W.drew.alloc o).cell? a = (W.alloc o).cell? a := rfl
theorem froz_ad1 (W : World) (o : Obj) (a : Addr) : (W.drew.alloc o).frozen? a = (W.alloc o).frozen? a := rfl
/-- What lies in the middle of a round. -/
def Mid (J : World → Prop) (Bs Bp xb : Nat) (sl : Value) (s : Int × Int × Int) (f0 f1 f2 : Int) (W : World) : Prop :=
  J W ∧ StackAt W Bs sl s ∧ Boxed W Bp 56 (.pointer (some ⟨Bs, 0, none⟩)) ∧ W.heap[xb]? = some (.cells #[.int .i64 f0, .int .i64 f1, .int .i64 f2] 42 (0, 0))
theorem Mid.step {J : World → Prop} {Bs Bp xb : Nat} {sl : Value} {s s' : Int × Int × Int} {f0 f1 f2 : Int} {W W' : World} (hJ : ∀ W W', J W → W.grownBy W' (some Bs) → (∃ cs, W.heap[Bs]? = some (.cells cs 64 (0, 0))) → J W')
    (h : Mid J Bs Bp xb sl s f0 f1 f2 W) (hg : W.grownBy W' (some Bs)) (hs : StackAt W' Bs sl s') : Mid J Bs Bp xb sl s' f0 f1 f2 W' := by
  obtain ⟨h1, ⟨n, h2⟩, h3, h4⟩ := h
  exact ⟨hJ _ _ h1 hg ⟨_, h2⟩, hs, blk_grown h3 hg (fun e => by injection e with e; subst e; exact blk_ne h3 h2 (by decide) rfl), blk_grown h4 hg (fun e => by injection e with e; subst e; exact blk_ne h4 h2 (by decide) rfl)⟩
theorem grown_alloc' {W W1 W' : World} {row : Option Nat} (o : Obj) (e : W1 = W.alloc o) (hg : W1.grownBy W' row) : W.grownBy W' row := by
  subst e; exact grown_trans (World.grownBy_alloc W o row) hg

/-- .. and where it begins. -/
def Mid2 (J : World → Prop) (Bs Bp xb pb : Nat) (sl : Value) (s : Int × Int × Int) (f0 f1 f2 : Int) (p : Int × Int) (W : World) : Prop :=
  Mid J Bs Bp xb sl s f0 f1 f2 W ∧ W.heap[pb]? = some (.cells #[.int .i64 p.1, .int .i64 p.2] 60 (0, 0))
theorem Mid2.step {J : World → Prop} {Bs Bp xb pb : Nat} {sl : Value} {s s' : Int × Int × Int} {f0 f1 f2 : Int} {p : Int × Int} {W W' : World} (hJ : ∀ W W', J W → W.grownBy W' (some Bs) → (∃ cs, W.heap[Bs]? = some (.cells cs 64 (0, 0))) → J W')
    (h : Mid2 J Bs Bp xb pb sl s f0 f1 f2 p W) (hg : W.grownBy W' (some Bs)) (hs : StackAt W' Bs sl s') : Mid2 J Bs Bp xb pb sl s' f0 f1 f2 p W' := by
  obtain ⟨h1, h5⟩ := h
  refine ⟨h1.step hJ hg hs, ?_⟩
  obtain ⟨_, ⟨n, h2⟩, _, _⟩ := h1
  exact blk_grown h5 hg (fun e => by injection e with e; subst e; exact blk_ne h5 h2 (by decide) rfl)
/-- The stack behind the margins ahead of an item that has an H. -/
def midS (e u d f1 : Int) : Int × Int × Int := if 0 < f1 then (e + (u + d) + f1, 0, 0) else (e, u, d)

attribute [local go_sem] cell_ad froz_ad cell_ad1 froz_ad1
set_option maxRecDepth 100000 in
set_option maxHeartbeats 4000000 in
theorem places1_in (m : Nat) (hm : 6 ≤ m) (l Bs Bp : Nat) (A : Option Addr) (its : List S42) (w0 : World) (hr : Kd.C k42 w0 A its.length its) (hok : its.all itemB = true) (hlen : its.length ≤ 200) (J : List (Int × Int) → World → Prop)
    (hJ : ∀ s W W', J s W → W.grownBy W' (some Bs) → (∃ cs, W.heap[Bs]? = some (.cells cs 64 (0, 0))) → J s W') (hJB : ∀ s W, J s W → Below w0.heap.size w0 W)
    (hY : ∀ (pre : List (Int × Int)) (x : Int × Int) W, J pre W → pre.length < 200 → (∃ cs, W.heap[Bs]? = some (.cells cs 64 (0, 0))) → (∃ v, Boxed W Bp 56 v) → YieldAt Fence.wide (m - 1) Tryd.prog l #[.int .i64 (pre.length : Int), .agg #[.int .i64 x.1, .int .i64 x.2]] W fun e W' => e = .returned (.bool true) ∧ J (pre ++ [x]) W' ∧ W'.heap[Bs]? = W.heap[Bs]? ∧ W'.heap[Bp]? = W.heap[Bp]?)
    (W : World) (hs : W.heap[Bs]? = some (.cells #[.slice A its.length its.length, .int .i64 0, .int .i64 0, .int .i64 0, .int .i64 0] 64 (0, 0))) (hp : Boxed W Bp 56 (.pointer (some ⟨Bs, 0, none⟩))) (h0 : J [] W) :
    CallsIn Fence.wide m Tryd.prog 44 #[.func (.yield l) #[] #[], .pointer (some ⟨Bp, 0, none⟩)] W fun e W' => (∃ v, e = .returned v) ∧ J (runL its).2 W' ∧ StackAt W' Bs (.slice A its.length its.length) (runL its).1 := by
  refine callsIn_of_wp Tryd.func44 rfl trivial ?_ rfl
  simp only [Tryd.ntmps44, List.size_toArray, List.length_cons, List.length_nil, Nat.reduceAdd, Nat.reduceSub, Array.replicate_succ, Array.replicate_zero, List.push_toArray, List.append_toArray, List.nil_append, List.cons_append]
  have cp := hp.cell
  have c0 : W.cell? ⟨Bs, 0, none⟩ = some (.slice A its.length its.length) := (blk_cell hs 0).trans rfl
  have HR := Aside0.mk hr
  have HOK := Aside0.mk hok
  have HS := Aside0.mk hs
  have HP := Aside0.mk hp
  clear hr hok hs hp
  gi_wp2
  refine wpIn_scope_wide ?_
  gi_wp2
  refine wpIn_label ?_
  gi_wp2
  gi_loopw [11] (fun i wr => ∃ k : Nat, k ≤ its.length ∧ i = .int .i64 k ∧ Aside0 (J (runL (its.take k)).2 wr) ∧ Aside0 (StackAt wr Bs (.slice A its.length its.length) (runL (its.take k)).1) ∧ Aside0 (Boxed wr Bp 56 (.pointer (some ⟨Bs, 0, none⟩)))) (fun i _ => its.length - (intOf i).toNat)
  case atStart => exact ⟨0, Nat.zero_le _, rfl, ⟨h0⟩, ⟨_, HS.out⟩, HP⟩
  case round =>
    clear cp c0 HS HP h0
    obtain ⟨k, hk, rfl, hJk, hS, hP⟩ := hrel
    by_cases hlt : k < its.length
    · obtain ⟨ad, ea, hx0, hx1, hx2⟩ := at_T42 (Kd.C_below HR.out (hJB _ _ hJk.out)) (k : Int) (by omega) (by omega)
      cases ea
      simp only [Int.toNat_natCast] at hx0 hx1 hx2
      have ht := Aside0.mk (takeT_rd its k hlt)
      have hin := Aside0.mk (runL_in _ (items_take HOK.out k))
      have hle := Aside0.mk (show ((its.take k).length : Int) ≤ 200 by rw [List.length_take]; omega)
      have hitem := Aside0.mk (itemB_in (item_at HOK.out k hlt))
      have hlen2 := Aside0.mk (runL_len (its.take k))
      generalize hx : rd_T42 its k = x at *
      obtain ⟨f0, f1, f2⟩ := x
      generalize hrun : runL (its.take k) = s at *
      obtain ⟨⟨e, u, d⟩, pre⟩ := s
      dsimp only at hx0 hx1 hx2 hin hitem hJk hS hlen2
      obtain ⟨nn, hv⟩ := hS.out
      have HV := Aside0.mk hv
      have HRUN := Aside0.mk hrun
      clear hv hS hx hrun
      gi_upto_region 3 with fail
      have hM0 : Mid (J pre) Bs Bp wr.heap.size (.slice (some ad) its.length its.length) (e, u, d) f0 f1 f2 (wr.alloc (.cells #[.int .i64 f0, .int .i64 f1, .int .i64 f2] 42)) :=
        ⟨hJ _ _ _ hJk.out (World.grownBy_alloc _ _ _) ⟨_, HV.out⟩, ⟨nn, blk_alloc HV.out _⟩, blk_alloc hP.out _, blk_new _ _⟩
      generalize wr.alloc (.cells #[.int .i64 f0, .int .i64 f1, .int .i64 f2] 42) = W1 at *
      generalize wr.heap.size = xb at *
      have HM0 := Aside0.mk hM0
      clear hM0 HV hP hJk hx0 hx1 hx2
      gi_cut [] from 16 (fun wx => Aside0 (Mid (J pre) Bs Bp xb (.slice (some ad) its.length its.length) (e, mx u f0, mn d f0) f0 f1 f2 wx))
      case first =>
        obtain ⟨n, hb⟩ := HM0.out.2.1
        have c1 := HM0.out.2.2.1.cell
        have c2 : W1.cell? ⟨xb, 0, none⟩ = some (.int .i64 f0) := (blk_cell HM0.out.2.2.2 0).trans rfl
        have HB := Aside0.mk hb
        clear hb
        refine wpIn_wide.2 ?_
        go_region_held3 (fun w' => w'.cell? ⟨Bp, 0, none⟩ = some (.pointer (some ⟨Bs, 0, none⟩)) ∧ w'.cell? ⟨xb, 0, none⟩ = some (.int .i64 f0)) (first | exact ⟨k1, k2⟩ | go_keep) (first | (go_at_call 27; have hq := add_2 Bs W1.heap.size (.slice (some ad) its.length its.length) e u d n f0 (W1.alloc (Obj.cells #[Value.int IntKind.i64 f0] 2)).drew (blk_drew (blk_alloc HB.out _)) (by simp); refine hq.mono ?_; clear hq; rintro ev w2 ⟨rfl, hg, n2, hb2⟩; have HS2 := Aside0.mk (HM0.out.step (s' := (e, mx u f0, mn d f0)) (fun _ _ => hJ _ _ _) (grown_trans (grown_drew' (World.grownBy_alloc W1 _ _)) hg) ⟨n2, hb2⟩); have k1 := HS2.out.2.2.1.cell; have k2 : w2.cell? ⟨xb, 0, none⟩ = some (.int .i64 f0) := (blk_cell HS2.out.2.2.2 0).trans rfl; clear hg hb2))
        all_goals (go_wp2_with fail; gi_meet; exact HS2)
      case rest =>
        have hu := mx_in (a := u) (b := f0) (by have := hin.out; omega) (by have := hitem.out; omega)
        have hd := mn_in (a := d) (b := f0) (by have := hin.out; omega) (by have := hitem.out; omega)
        generalize hu1 : mx u f0 = u1 at *
        generalize hd1 : mn d f0 = d1 at *
        have HU1 := Aside0.mk hu1
        have HD1 := Aside0.mk hd1
        clear hu1 hd1
        clear HM0
        rename World => W3
        have HM3 := hcut
        clear hcut
        gi_upto_region 4 with fail
        gi_cut [5] from 16 (fun s5 wx => ∃ pb : Nat, s5 = .pointer (some ⟨pb, 0, none⟩) ∧ Aside0 (Mid2 (J pre) Bs Bp xb pb (.slice (some ad) its.length its.length) (e, u1, d1) f0 f1 f2 (e + (u1 + d1), u1 + d1) wx))
        case first =>
          obtain ⟨n, hb⟩ := HM3.out.2.1
          have c1 := HM3.out.2.2.1.cell
          have c3 : W3.cell? ⟨Bs, 1, none⟩ = some (.int .i64 e) := (blk_cell hb 1).trans rfl
          have HB := Aside0.mk hb
          have n1 := World.new_ne W3 _ c1
          have n3 := World.new_ne W3 _ c3
          have hw1 : IntKind.i64.wrap (e + (u1 + d1)) = e + (u1 + d1) := i64_in (by have := hin.out; have := hle.out; omega) (by have := hin.out; have := hle.out; omega)
          clear hb
          refine wpIn_wide.2 ?_
          go_region_held3 (fun w' => w'.cell? ⟨Bp, 0, none⟩ = some (.pointer (some ⟨Bs, 0, none⟩)) ∧ w'.cell? ⟨Bs, 1, none⟩ = some (.int .i64 e)) (go_keep) (first | (go_at_call 28; refine (one_2 Bs (.slice (some ad) its.length its.length) e u1 d1 n _ ?hb ?h1 ?h2).mono ?_; (case hb => repeat (first | exact HB.out | refine blk_alloc ?_ _ | refine blk_drew ?_ | refine blk_drewN ?_ _)); (case h1 => omega); (case h2 => omega); rintro ev w2 ⟨rfl, nq, rfl⟩))
          all_goals
            go_wp2_with fail
            gi_meet
            refine ⟨W3.heap.size, rfl, ⟨Mid.step (s' := (e, u1, d1)) (fun _ _ => hJ _ _ _) HM3.out (grown_of_below (?bel : Below W3.heap.size W3 _) _) ⟨n, blk_below HB.out ?bel⟩, ?blk⟩⟩
            case bel => repeat (first | exact Below.refl _ _ | refine Below.setCell ?_ (Nat.le_refl W3.heap.size) _ | refine below_alloc ?_ _ | refine pw_below_drewN ?_ _)
            case blk => first | exact blk_put (blk_put (blk_new (W3.drewN _) _) 0 _ rfl) 1 _ rfl | exact blk_put (blk_put (blk_drewN (blk_new (W3.drewN _) _) _) 0 _ rfl) 1 _ rfl | exact blk_put (blk_put (blk_drewN (blk_new W3 _) _) 0 _ rfl) 1 _ rfl
        case rest =>
          clear HM3
          rename World => W4
          obtain ⟨pb, rfl, HM4⟩ := hcut
          have hfx : W4.cell? ⟨xb, 1, none⟩ = some (.int .i64 f1) := (blk_cell HM4.out.1.2.2.2 1).trans rfl
          gi_upto_if 39 with fail
          gi_cut [] from 16 (fun wx => Aside0 (Mid2 (J pre) Bs Bp xb pb (.slice (some ad) its.length its.length) (midS e u1 d1 f1) f0 f1 f2 (e + (u1 + d1), u1 + d1) wx))
          case first =>
            by_cases hf : 0 < f1
            · obtain ⟨n, hb⟩ := HM4.out.1.2.1
              have c0 := HM4.out.1.2.2.1.cell
              have c1 : W4.cell? ⟨Bs, 1, none⟩ = some (.int .i64 e) := (blk_cell hb 1).trans rfl
              have c2 : W4.cell? ⟨Bs, 2, none⟩ = some (.int .i64 u1) := (blk_cell hb 2).trans rfl
              have c3 : W4.cell? ⟨Bs, 3, none⟩ = some (.int .i64 d1) := (blk_cell hb 3).trans rfl
              have c4 : W4.cell? ⟨Bs, 4, none⟩ = some (.int .i64 n) := (blk_cell hb 4).trans rfl
              have g1 := blk_frozen hb 1
              have g2 := blk_frozen hb 2
              have g3 := blk_frozen hb 3
              have g4 := blk_frozen hb 4
              have p0 : W4.cell? ⟨pb, 0, none⟩ = some (.int .i64 (e + (u1 + d1))) := (blk_cell HM4.out.2 0).trans rfl
              have hw2 : IntKind.i64.wrap (e + (u1 + d1) + f1) = e + (u1 + d1) + f1 := i64_in (by have := hin.out; have := hle.out; have := hitem.out; omega) (by have := hin.out; have := hle.out; have := hitem.out; omega)
              have HB := Aside0.mk hb
              clear hb
              gi_wp2
              refine wpIn_wide.2 ?_
              go_region
              all_goals go_wp2_with fail
              all_goals
                gi_meet
                exact ⟨by rw [midS, if_pos hf]; exact HM4.out.step (s' := (e + (u1 + d1) + f1, 0, 0)) (fun _ _ => hJ _ _ _) (grown_drew' (grown_set (grown_set (grown_set (grown_set (grown_refl _ _) 1 _) 2 _) 3 _) 4 _)) ⟨0, blk_drew (blk_put (blk_put (blk_put (blk_put HB.out 1 _ rfl) 2 _ rfl) 3 _ rfl) 4 _ rfl)⟩⟩
            · have HX := Aside0.mk (show Mid2 (J pre) Bs Bp xb pb (.slice (some ad) its.length its.length) (midS e u1 d1 f1) f0 f1 f2 (e + (u1 + d1), u1 + d1) W4 by rw [midS, if_neg hf]; exact HM4.out)
              gi_wp2
              gi_meet
              exact HX
          case rest =>
            clear HM4 hfx
            rename World => W5
            have HM5 := hcut
            clear hcut
            obtain ⟨e2, u2, d2, hmid⟩ : ∃ e2 u2 d2 : Int, midS e u1 d1 f1 = (e2, u2, d2) := ⟨_, _, _, rfl⟩
            rw [hmid] at HM5
            have HMID := Aside0.mk hmid
            clear hmid
            gi_upto_region 7 with fail
            gi_cut [] from 16 (fun wx => Aside0 (Mid2 (J pre) Bs Bp xb pb (.slice (some ad) its.length its.length) (e2, mx u2 f2, mn d2 f2) f0 f1 f2 (e + (u1 + d1), u1 + d1) wx))
            case first =>
              obtain ⟨n, hb⟩ := HM5.out.1.2.1
              have c1 := HM5.out.1.2.2.1.cell
              have c2 : W5.cell? ⟨xb, 2, none⟩ = some (.int .i64 f2) := (blk_cell HM5.out.1.2.2.2 2).trans rfl
              have HB := Aside0.mk hb
              clear hb
              refine wpIn_wide.2 ?_
              go_region_held3 (fun w' => w'.cell? ⟨Bp, 0, none⟩ = some (.pointer (some ⟨Bs, 0, none⟩)) ∧ w'.cell? ⟨xb, 2, none⟩ = some (.int .i64 f2)) (first | exact ⟨k1, k2⟩ | go_keep) (first | (go_at_call 27; have hq := add_2 Bs W5.heap.size (.slice (some ad) its.length its.length) e2 u2 d2 n f2 (W5.alloc (Obj.cells #[Value.int IntKind.i64 f2] 2)).drew (blk_drew (blk_alloc HB.out _)) (by simp); refine hq.mono ?_; clear hq; rintro ev w2 ⟨rfl, hg, n2, hb2⟩; have HS2 := Aside0.mk (HM5.out.step (s' := (e2, mx u2 f2, mn d2 f2)) (fun _ _ => hJ _ _ _) (grown_trans (grown_drew' (World.grownBy_alloc W5 _ _)) hg) ⟨n2, hb2⟩); have k1 := HS2.out.1.2.2.1.cell; have k2 : w2.cell? ⟨xb, 2, none⟩ = some (.int .i64 f2) := (blk_cell HS2.out.1.2.2.2 2).trans rfl; clear hg hb2))
              all_goals (go_wp2_with fail; gi_meet; exact HS2)
            case rest =>
              clear HM5
              rename World => W6
              have HM6 := hcut
              clear hcut
              have p0 : W6.cell? ⟨pb, 0, none⟩ = some (.int .i64 (e + (u1 + d1))) := (blk_cell HM6.out.2 0).trans rfl
              have p1 : W6.cell? ⟨pb, 1, none⟩ = some (.int .i64 (u1 + d1)) := (blk_cell HM6.out.2 1).trans rfl
              have hpk : pre.length = k := by have := hlen2.out; rw [List.length_take] at this; omega
              obtain ⟨fn, tmps, assign, body, hy, hR⟩ := hY pre (e + (u1 + d1), u1 + d1) W6 HM6.out.1.1 (by omega) (by obtain ⟨n, hb⟩ := HM6.out.1.2.1; exact ⟨_, hb⟩) ⟨_, HM6.out.1.2.2.1⟩
              rw [hpk] at hy
              gi_wp2
              refine ⟨fun _ => by omega, hR.mono ?_⟩
              rintro ev W7 ⟨rfl, hJ7, hk1, hk2⟩
              have HJ7 := Aside0.mk hJ7
              have HS7 := Aside0.mk (show StackAt W7 Bs (.slice (some ad) its.length its.length) (e2, mx u2 f2, mn d2 f2) from by obtain ⟨n, hb⟩ := HM6.out.1.2.1; exact ⟨n, hk1.trans hb⟩)
              have HP7 := Aside0.mk (show Boxed W7 Bp 56 (.pointer (some ⟨Bs, 0, none⟩)) from hk2.trans HM6.out.1.2.2.1)
              have HRUN7 := Aside0.mk (show runL (its.take (k + 1)) = ((e2, mx u2 f2, mn d2 f2), pre ++ [(e + (u1 + d1), u1 + d1)]) by
                rw [ht.out, runL_snoc, HRUN.out, plS, stS]
                have hmid := HMID.out
                rw [midS] at hmid
                dsimp only
                rw [HU1.out, HD1.out]
                by_cases hf : 0 < f1
                · rw [if_pos hf] at hmid ⊢
                  injection hmid with q1 q2
                  injection q2 with q2 q3
                  rw [q1, ← q2, ← q3]
                · rw [if_neg hf] at hmid ⊢
                  injection hmid with q1 q2
                  injection q2 with q2 q3
                  rw [q1, ← q2, ← q3])
              clear hJ7 hk1 hk2 p0 p1 hy
              gi_wp2
              go_roundw
              case rel => exact ⟨k + 1, by omega, by go_num, ⟨by rw [HRUN7.out]; exact HJ7.out⟩, ⟨by rw [HRUN7.out]; exact HS7.out⟩, HP7⟩
              case measure => simp [intOf]; omega
    · have ek : k = its.length := by omega
      subst ek
      rw [List.take_length] at hJk hS
      gi_wp2
      rw [Exit.noGoto_normal]
      go_end0
      exact ⟨⟨_, rfl⟩, hJk.out, hS.out⟩
end Go.Proofs.YtiodlbfdfnideaaDoor.G
