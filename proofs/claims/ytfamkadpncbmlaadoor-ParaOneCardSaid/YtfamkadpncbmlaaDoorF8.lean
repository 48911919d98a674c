/- Chapter 9: Deal. -/
import Derived.Test.YtfamkadpncbmlaaDoorF7
namespace Go.Proofs.YtfamkadpncbmlaaDoor.G
open Go.RowKit Go.Shelf Go.Proofs.YtfamkadpncbmlaaDoorW.PrintWords Go.Proofs.YtfamkadpncbmlaaDoorW.PrintLast Go.Proofs.YtfamkadpncbmlaaDoorW.PrintMore

theorem snoc_ind {α : Type} {Q : List α → Prop} (h0 : Q []) (h1 : ∀ l x, Q l → Q (l ++ [x])) (l : List α) : Q l := by
  rw [← List.reverse_reverse l]
  induction l.reverse with
  | nil => exact h0
  | cons x r ih => rw [List.reverse_cons]; exact h1 _ _ ih
theorem mem_upTo {n o d x : Int} {k : Nat} (h : x ∈ upTo n o d k) : 1 ≤ x ∧ x ≤ k ∧ mayB n o d x = true := by
  unfold upTo at h
  rw [List.mem_filter, List.mem_map] at h
  obtain ⟨⟨i, hi, rfl⟩, hm⟩ := h
  rw [List.mem_range] at hi
  exact ⟨by omega, by omega, hm⟩
theorem bestL_mem (r : Int) (l : List Int) : bestL r l = 0 ∨ bestL r l ∈ l ∧ bestL r l ≤ r := by
  induction l using snoc_ind with
  | h0 => exact .inl rfl
  | h1 l x ih =>
    rw [bestL_snoc]
    split
    · exact .inr ⟨by simp, by assumption⟩
    · rcases ih with h | ⟨h, h2⟩
      · exact .inl h
      · exact .inr ⟨by simp [h], h2⟩
theorem bestZ_range {n o d r : Int} (hn : 0 ≤ n) : 0 ≤ bestZ n o d r ∧ bestZ n o d r ≤ n := by
  unfold bestZ
  split
  · omega
  · rcases bestL_mem r (upTo n o d (n.toNat - 1)) with h | ⟨h, _⟩
    · omega
    · have := mem_upTo h
      omega
def dealS (o d : Int) (s : Int × List Int) (room : Int) : Int × List Int := if s.1 = 0 then s else (s.1 - bestZ s.1 o d room, s.2 ++ [bestZ s.1 o d room])
def dealL (n o d : Int) (rs : List Int) : Int × List Int := rs.foldl (dealS o d) (n, [])
theorem dealL_snoc (n o d : Int) (rs : List Int) (r : Int) : dealL n o d (rs ++ [r]) = dealS o d (dealL n o d rs) r := by simp [dealL]
theorem dealL_n (n o d : Int) (hn : 0 ≤ n) (rs : List Int) : 0 ≤ (dealL n o d rs).1 ∧ (dealL n o d rs).1 ≤ n := by
  induction rs using snoc_ind with
  | h0 => exact ⟨hn, Int.le_refl _⟩
  | h1 l x ih =>
    rw [dealL_snoc, dealS]
    split
    · exact ih
    · have := bestZ_range (n := (dealL n o d l).1) (o := o) (d := d) (r := x) ih.1
      dsimp only
      omega
theorem dealL_len (n o d : Int) (rs : List Int) : (dealL n o d rs).2.length ≤ rs.length := by
  induction rs using snoc_ind with
  | h0 => exact Nat.le_refl _
  | h1 l x ih =>
    rw [dealL_snoc, dealS]
    split
    · simp; omega
    · simp; exact ih

theorem deal_zero (o d r : Int) (v : Value) (g : Nat) (w : World) (hb : w.heap[g]? = some (.cells #[.int .i64 0, .int .i64 o, .int .i64 d, v] 53 (0, 0))) :
    Calls Tryd.prog 28 #[.pointer (some ⟨g, 0, none⟩), .int .i64 r] w fun e w' => e = .returned (.tuple #[]) ∧ w = w' := by
  have c0 : w.cell? ⟨g, 0, none⟩ = some (.int .i64 0) := (blk_cell hb 0).trans rfl
  clear hb
  go_enter Tryd.func28, Tryd.ntmps28
  go_wp2
  refine bodyPost_ret (results_none rfl _ _ _) rfl ?_
  exact ⟨rfl, rfl⟩

def DealPost (n₀ g : Nat) (n o d r : Int) (xs : List Int) (w : World) (e : Ending) (w' : World) : Prop :=
  e = .returned (.tuple #[]) ∧ Below n₀ w w' ∧ ∃ v', w'.heap[g]? = some (.cells #[.int .i64 (n - bestZ n o d r), .int .i64 o, .int .i64 d, v'] 53 (0, 0)) ∧ w'.ownsRow n₀ 3 1 v' (xs.length + 1) ((xs ++ [bestZ n o d r]).map (Value.int .i64))

set_option maxRecDepth 100000 in
set_option maxHeartbeats 2000000 in
theorem deal_some (n₀ g : Nat) (n o d r : Int) (v : Value) (xs : List Int) (w : World) (hn : 1 ≤ n) (hn5 : n ≤ 500) (hr : 0 ≤ r) (hg : n₀ ≤ g) (hn0 : n₀ ≤ w.heap.size) (hx : xs.length ≤ 1000)
    (hb : w.heap[g]? = some (.cells #[.int .i64 n, .int .i64 o, .int .i64 d, v] 53 (0, 0))) (ho : w.ownsRow n₀ 3 1 v xs.length (xs.map (Value.int .i64))) :
    Calls Tryd.prog 28 #[.pointer (some ⟨g, 0, none⟩), .int .i64 r] w (DealPost n₀ g n o d r xs w) := by
  obtain ⟨i0, hi, hz0, hz1, hz2⟩ := info_parts infoE3
  have c0 : w.cell? ⟨g, 0, none⟩ = some (.int .i64 n) := (blk_cell hb 0).trans rfl
  have c1 : w.cell? ⟨g, 1, none⟩ = some (.int .i64 o) := (blk_cell hb 1).trans rfl
  have c2 : w.cell? ⟨g, 2, none⟩ = some (.int .i64 d) := (blk_cell hb 2).trans rfl
  have HB := Aside0.mk hb
  have HO := Aside0.mk ho
  have hk := bestZ_range (n := n) (o := o) (d := d) (r := r) (by omega)
  generalize hbz : bestZ n o d r = k at hk
  have HK := Aside0.mk hbz
  clear hb ho hbz
  go_enter Tryd.func28, Tryd.ntmps28
  go_wp2_with (first | (go_at_call 24; refine (best_any _ _ _ _ _ hr hn5).mono ?_; rintro e w2 ⟨rfl, hb2⟩; rw [HK.out]; have HB2 := Aside0.mk (blk_below HB.out hb2); have HO2 := Aside0.mk (pw_own_below HO.out hb2); have d0 : w2.cell? ⟨g, 0, none⟩ = some (.int .i64 n) := (blk_cell HB2.out 0).trans rfl; have d3 : w2.cell? ⟨g, 3, none⟩ = some v := (blk_cell HB2.out 3).trans rfl; have HL := Aside0.mk hb2; have hz := hb2.size; clear hb2) | (at_builtin; refine wpList_append_own _ rfl _ _ 22 rfl n₀ 3 i0 (.int .i64 0) 1 8 Tryd.underlying22 hi hz0 hz1 hz2 rfl (by decide) _ _ _ rfl (HO2.out.alloc _) ⟨_, 0, none⟩ 1 1 [_] rfl rfl (cell_one_new _ _ _) (by simp [Value.oneCell']) (by unfold maxLen; omega) (by omega) (by simp; omega) ?_; intro v' w4 hown' hgrow _; obtain ⟨g', cap', rfl⟩ := ownsRow_succ hown'; have HB4 := Aside0.mk (app_blk HO2.out hgrow HB2.out (by intro cs e; cases e)); have e0 : w4.cell? ⟨g, 0, none⟩ = some (.int .i64 n) := (blk_cell HB4.out 0).trans rfl; have e3 : w4.cell? ⟨g, 3, none⟩ = some v := (blk_cell HB4.out 3).trans rfl; have f0 := blk_frozen HB4.out 0; have f3 := blk_frozen HB4.out 3; have HG := Aside0.mk hgrow; have HW := Aside0.mk hown'; clear hgrow hown'))
  go_end0
  rw [HK.out.symm]
  have hne := own_ne HW.out HB4.out (by decide)
  refine ⟨rfl, ((app_below HO2.out HG.out ((HL.out.mono hn0)) (by omega) (Nat.le_refl _)).setCell (p := ⟨g, 3, none⟩) hg _).setCell (p := ⟨g, 0, none⟩) hg _, .slice (some ⟨g', 0, none⟩) (xs.length + 1) cap', ?_, ?_⟩
  · rw [HK.out]; exact blk_put (blk_set HB4.out 3 _) 0 _ rfl
  · rw [HK.out, List.map_append]; exact own_setCell (own_setCell HW.out hne _) hne _

theorem deal_any (n₀ g : Nat) (o d r : Int) (s : Int × List Int) (v : Value) (w : World) (hn : 0 ≤ s.1) (hn5 : s.1 ≤ 500) (hr : 0 ≤ r) (hg : n₀ ≤ g) (hn0 : n₀ ≤ w.heap.size) (hx : s.2.length ≤ 1000)
    (hb : w.heap[g]? = some (.cells #[.int .i64 s.1, .int .i64 o, .int .i64 d, v] 53 (0, 0))) (ho : w.ownsRow n₀ 3 1 v s.2.length (s.2.map (Value.int .i64))) :
    Calls Tryd.prog 28 #[.pointer (some ⟨g, 0, none⟩), .int .i64 r] w fun e w' => e = .returned (.tuple #[]) ∧ Below n₀ w w' ∧ ∃ v', w'.heap[g]? = some (.cells #[.int .i64 (dealS o d s r).1, .int .i64 o, .int .i64 d, v'] 53 (0, 0)) ∧ w'.ownsRow n₀ 3 1 v' (dealS o d s r).2.length ((dealS o d s r).2.map (Value.int .i64)) := by
  unfold dealS
  by_cases h : s.1 = 0
  · rw [if_pos h]
    rw [h] at hb ⊢
    refine (deal_zero o d r v g w hb).mono ?_
    rintro e w' ⟨rfl, rfl⟩
    exact ⟨rfl, Below.refl _ _, v, hb, ho⟩
  · rw [if_neg h]
    refine (deal_some n₀ g s.1 o d r v s.2 w (by omega) hn5 hr hg hn0 hx hb ho).mono ?_
    rintro e w' ⟨rfl, hB, v', h1, h2⟩
    exact ⟨rfl, hB, v', h1, by simpa using h2⟩

def para_Deal.f (a0 a1 a2 : Int) (l3 : List Int) : Option (List Int × Int × Int) := if l3.length ≤ 1000 then some (if chkB a0 a1 a2 l3 then ((dealL a0 a1 a2 l3).2, (dealL a0 a1 a2 l3).1, 0) else ([], 0, 90)) else none
theorem room_at {rs : List Int} (h : rs.all roomB = true) (k : Nat) (hk : k < rs.length) : 0 ≤ rd rs k := by
  have := List.all_eq_true.1 h rs[k] (List.getElem_mem hk)
  simp [roomB] at this
  simpa [rd, hk] using this.1
theorem take_rd (rs : List Int) (k : Nat) (hk : k < rs.length) : rs.take (k + 1) = rs.take k ++ [rd rs k] := by
  rw [List.take_succ_eq_append_getElem hk]
  simp [rd, hk]

set_option maxRecDepth 100000 in
set_option maxHeartbeats 2000000 in
theorem deal_yes (a0 : Int) (a1 : Int) (a2 : Int) (A3 : Option Addr) (c3 : Nat) (l3 : List Int) (w : World) (hr3 : Kd.C (Kd.int .i64) w A3 l3.length l3) (hl : l3.length ≤ 1000) (hok : chkB a0 a1 a2 l3 = true) :
    Calls Tryd.prog 13 #[.int .i64 a0, .int .i64 a1, .int .i64 a2, .slice A3 l3.length c3] w fun e w' => ∃ v0_ : Value, e = .returned (.tuple #[v0_, .int .i64 (dealL a0 a1 a2 l3).1, .int .i64 0]) ∧ Kd.R (Kd.int .i64) 3 w' w.heap.size (fun _ => True) v0_ (dealL a0 a1 a2 l3).2 ∧ Below w.heap.size w w' := by
  have hB0 := Aside0.mk (below_alloc (Below.refl w.heap.size w) (.cells #[.int .i64 a0, .int .i64 a1, .int .i64 a2, .slice none 0 0] 53))
  have HR := Aside0.mk hr3
  clear hr3
  obtain ⟨hn1, hn2⟩ := chk_n hok
  have hall : l3.all roomB = true := by simp only [chkB, Bool.and_eq_true] at hok; exact hok.2
  have HA := Aside0.mk hall
  have HO := Aside0.mk hok
  clear hok hall
  go_enter Tryd.func13, Tryd.ntmps13
  go_wp2_with (first | (go_at_call 22; refine (checked_yes a0 a1 a2 A3 c3 l3 _ (Kd.C_below HR.out hB0.out) (by omega) HO.out).mono ?_; rintro e w1 ⟨rfl, hb⟩; have hc := Aside0.mk (blk_below (blk_new _ _) hb); have hB1 := Aside0.mk (below_then hB0.out hB0.out.size hb); clear hb))
  clear hB0 HO
  go_loopw [33] (fun i wr => ∃ k : Nat, k ≤ l3.length ∧ i = .int .i64 k ∧ Aside0 (Below w.heap.size w wr) ∧ Aside0 (∃ v, wr.heap[w.heap.size]? = some (.cells #[.int .i64 (dealL a0 a1 a2 (l3.take k)).1, .int .i64 a1, .int .i64 a2, v] 53 (0, 0)) ∧ wr.ownsRow w.heap.size 3 1 v (dealL a0 a1 a2 (l3.take k)).2.length ((dealL a0 a1 a2 (l3.take k)).2.map (Value.int .i64)))) (fun i _ => l3.length - (intOf i).toNat)
  case atStart => exact ⟨0, Nat.zero_le _, rfl, hB1, ⟨_, hc.out, World.ownsRow_nil _ _ _ _⟩⟩
  case round =>
    clear hc hB1
    obtain ⟨k, hk, rfl, hB, hS⟩ := hrel
    by_cases hlt : k < l3.length
    · obtain ⟨ad, ea, hx⟩ := Kd.at_int (Kd.C_below HR.out hB.out) (k : Int) (by omega) (by omega)
      cases ea
      rw [Int.toNat_natCast] at hx
      have ht := Aside0.mk (take_rd l3 k hlt)
      have hr0 := room_at HA.out k hlt
      have hn := dealL_n a0 a1 a2 hn1 (l3.take k)
      have hlen := dealL_len a0 a1 a2 (l3.take k)
      rw [List.length_take] at hlen
      have hsz := hB.out.size
      obtain ⟨v, hv, ho⟩ := hS.out
      have hC := Aside0.mk (deal_any w.heap.size w.heap.size a1 a2 (rd l3 k) (dealL a0 a1 a2 (l3.take k)) v wr hn.1 (by omega) hr0 (Nat.le_refl _) hsz (by omega) hv ho)
      clear hv ho hS hn hlen hr0
      go_wp2_with (first | (go_at_call 28; refine hC.out.mono ?_; rintro e w2 ⟨rfl, hb, hS2⟩; have HS2 := Aside0.mk hS2; have HB2 := Aside0.mk (hB.out.trans hb); clear hb hS2))
      go_roundw
      case rel => exact ⟨k + 1, by omega, by go_num, HB2, ⟨by rw [ht.out, dealL_snoc]; exact HS2.out⟩⟩
      case measure => simp [intOf]; omega
    · have e : k = l3.length := by omega
      subst e
      obtain ⟨v, hv, ho⟩ := hS.out
      rw [List.take_length] at hv ho
      have c0 : wr.cell? ⟨w.heap.size, 0, none⟩ = some (.int .i64 (dealL a0 a1 a2 l3).1) := (blk_cell hv 0).trans rfl
      have c3 : wr.cell? ⟨w.heap.size, 3, none⟩ = some v := (blk_cell hv 3).trans rfl
      have HW := Aside0.mk ho
      clear hv ho hS
      go_wp2
      go_quiet (fail)
      go_wp2
      go_ret3
      exact ⟨v, rfl, R_of_row HW.out, pw_below_drewN hB.out _⟩

set_option maxRecDepth 100000 in
set_option maxHeartbeats 1000000 in
theorem para_Deal.calls (a0 : Int) (a1 : Int) (a2 : Int) (A3 : Option Addr) (c3 : Nat) (l3 : List Int) (r1 : List Int) (r2 : Int) (r3 : Int) (w : World) (hr3 : Kd.C (Kd.int .i64) w A3 l3.length l3) (hc3 : l3.length ≤ c3) (h : para_Deal.f a0 a1 a2 l3 = some (r1, r2, r3)) (hG : GOK w) :
    Calls Tryd.prog 13 #[.int .i64 a0, .int .i64 a1, .int .i64 a2, .slice A3 l3.length c3] w fun e w' => ∃ v0_ : Value, e = .returned (.tuple #[v0_, .int .i64 r2, .int .i64 r3]) ∧ Kd.R (Kd.int .i64) 3 w' w.heap.size (fun _ => True) v0_ r1 ∧ Below w.heap.size w w' := by
  have _hc := hc3
  unfold para_Deal.f at h
  by_cases hl : l3.length ≤ 1000
  · rw [if_pos hl] at h
    have hr := Option.some.inj h
    by_cases hok : chkB a0 a1 a2 l3 = true
    · rw [if_pos hok, Prod.mk.injEq, Prod.mk.injEq] at hr
      obtain ⟨rfl, rfl, rfl⟩ := hr
      exact deal_yes a0 a1 a2 A3 c3 l3 w hr3 hl hok
    · rw [if_neg hok, Prod.mk.injEq, Prod.mk.injEq] at hr
      obtain ⟨rfl, rfl, rfl⟩ := hr
      clear h
      obtain ⟨a, hg⟩ := hG
      have hB0 := Aside0.mk (below_alloc (Below.refl w.heap.size w) (.cells #[.int .i64 a0, .int .i64 a1, .int .i64 a2, .slice none 0 0] 53))
      have HR := Aside0.mk hr3
      have HO := Aside0.mk (Bool.eq_false_iff.mpr hok)
      have hg0 := Aside0.mk (pw_cell_below hB0.out hg)
      clear hok hg hr3
      go_enter Tryd.func13, Tryd.ntmps13
      go_wp2_with (first | (go_at_call 22; refine (checked_no a0 a1 a2 A3 c3 l3 _ a (Kd.C_below HR.out hB0.out) (by omega) HO.out hg0.out).mono ?_; rintro e w1 ⟨rfl, hb⟩; have hg1 := Aside0.mk (pw_cell_below hb hg0.out); have hB1 := Aside0.mk (below_then hB0.out hB0.out.size hb); clear hb) | (go_at_call 23; refine (told_some a _ hg1.out).mono ?_; rintro e w2 ⟨rfl, rfl⟩))
      go_ret3
      exact ⟨_, rfl, Kd.R_nil _ _ _ _ _, hB1.out⟩
  · rw [if_neg hl] at h
    cases h
end Go.Proofs.YtfamkadpncbmlaaDoor.G
