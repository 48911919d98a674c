/- Chapter 10: Collapse. -/
import Derived.Test.YtiodlbfdfnideaaDoorF3
namespace Go.Proofs.YtiodlbfdfnideaaDoor.G
open Go.RowKit Go.Proofs.YtiodlbfdfnideaaDoorW.PrintWords Go.Proofs.YtiodlbfdfnideaaDoorW.PrintLast Go.Proofs.YtiodlbfdfnideaaDoorW.PrintMore

/-- The greatest and the least of some margins, and 0. -/
def colS (s : Int × Int) (x : Int) : Int × Int := (mx s.1 x, mn s.2 x)
def colL (l : List Int) : Int × Int := l.foldl colS (0, 0)
theorem colL_snoc (l : List Int) (x : Int) : colL (l ++ [x]) = colS (colL l) x := by simp [colL]
theorem snoc_ind {α : Type} {Q : List α → Prop} (h0 : Q []) (h1 : ∀ l x, Q l → Q (l ++ [x])) (l : List α) : Q l := by
  rw [← List.reverse_reverse l]
  induction l.reverse with
  | nil => exact h0
  | cons x r ih => rw [List.reverse_cons]; exact h1 _ _ ih
theorem marB_in {a : Int} (h : marB a = true) : -1048576 ≤ a ∧ a ≤ 1048576 := by simpa [marB] using h
theorem colL_in (l : List Int) (h : l.all marB = true) : (0 ≤ (colL l).1 ∧ (colL l).1 ≤ 1048576) ∧ (-1048576 ≤ (colL l).2 ∧ (colL l).2 ≤ 0) := by
  induction l using snoc_ind with
  | h0 => simp [colL]
  | h1 l x ih =>
    rw [List.all_append, Bool.and_eq_true] at h
    obtain ⟨h1, h2⟩ := ih h.1
    have hx := marB_in (by simpa using h.2 : marB x = true)
    rw [colL_snoc, colS]
    dsimp only
    unfold mx mn
    constructor <;> split <;> omega
theorem take_rd (rs : List Int) (k : Nat) (hk : k < rs.length) : rs.take (k + 1) = rs.take k ++ [rd rs k] := by
  rw [List.take_succ_eq_append_getElem hk]
  simp [rd, hk]
theorem mar_at {rs : List Int} (h : rs.all marB = true) (k : Nat) (hk : k < rs.length) : marB (rd rs k) = true := by
  have := List.all_eq_true.1 h rs[k] (List.getElem_mem hk)
  simpa [rd, hk] using this
theorem all_take {rs : List Int} (h : rs.all marB = true) (k : Nat) : (rs.take k).all marB = true := by
  rw [List.all_eq_true] at h ⊢
  exact fun x hx => h x (List.mem_of_mem_take hx)

set_option maxRecDepth 100000 in
set_option maxHeartbeats 2000000 in
theorem collapse_yes (A : Option Addr) (c : Nat) (l : List Int) (w : World) (hr : Kd.C (Kd.int .i64) w A l.length l) (hl : l.length ≤ 1000) (hall : l.all marB = true) :
    Calls Tryd.prog 12 #[.slice A l.length c] w fun e w' => e = .returned (.tuple #[.int .i64 ((colL l).1 + (colL l).2), .int .i64 0]) ∧ Below w.heap.size w w' := by
  have HR := Aside0.mk hr
  have HA := Aside0.mk hall
  have hB0 := Aside0.mk (below_alloc (Below.refl w.heap.size w) (.cells #[.int .i64 0, .int .i64 0, .int .i64 0] 47))
  have hv0 := Aside0.mk (blk_new w (.cells #[.int .i64 0, .int .i64 0, .int .i64 0] 47))
  clear hr hall
  go_enter Tryd.func12, Tryd.ntmps12
  go_wp2
  go_loopw [11] (fun i wr => ∃ k : Nat, k ≤ l.length ∧ i = .int .i64 k ∧ Aside0 (Below w.heap.size w wr) ∧ Aside0 (∃ n : Int, wr.heap[w.heap.size]? = some (.cells #[.int .i64 (colL (l.take k)).1, .int .i64 (colL (l.take k)).2, .int .i64 n] 47 (0, 0)))) (fun i _ => l.length - (intOf i).toNat)
  case atStart => exact ⟨0, Nat.zero_le _, rfl, hB0, ⟨_, hv0.out⟩⟩
  case round =>
    clear hB0 hv0
    obtain ⟨k, hk, rfl, hB, hS⟩ := hrel
    by_cases hlt : k < l.length
    · obtain ⟨ad, ea, hx⟩ := Kd.at_int (Kd.C_below HR.out hB.out) (k : Int) (by omega) (by omega)
      cases ea
      rw [Int.toNat_natCast] at hx
      have ht := Aside0.mk (take_rd l k hlt)
      have HM := Aside0.mk (mar_at HA.out k hlt)
      have hsz := hB.out.size
      obtain ⟨n, hv⟩ := hS.out
      have HV := Aside0.mk hv
      clear hv hS
      go_wp2_with (first | (go_at_call 24; refine (isMargin_any _ _).mono ?_; rintro e w' ⟨rfl, rfl⟩; rw [HM.out]) | (go_at_call 27; refine (add_0 w.heap.size wr.heap.size _ _ n (rd l k) _ (blk_alloc HV.out _) (by simp)).mono ?_; rintro e w2 ⟨rfl, hg, n2, hb2⟩; have HB2 := Aside0.mk ((hB.out.alloc hsz (.cells #[.int .i64 (rd l k)] 2)).grown hg (by simp; omega) (fun j hj => by cases hj; exact Nat.le_refl _)); have HV2 := Aside0.mk hb2; clear hb2 hg))
      go_roundw
      case rel => exact ⟨k + 1, by omega, by go_num, HB2, ⟨n2, by rw [ht.out, colL_snoc]; exact HV2.out⟩⟩
      case measure => simp [intOf]; omega
    · have e : k = l.length := by omega
      subst e
      obtain ⟨n, hv⟩ := hS.out
      rw [List.take_length] at hv
      have HV := Aside0.mk hv
      have hin := Aside0.mk (colL_in l HA.out)
      clear hv hS
      go_wp2_with (go_at_call 28; refine (one_0 w.heap.size _ _ n _ HV.out ?h1 ?h2).mono ?_; (case h1 => have := hin.out; omega); (case h2 => have := hin.out; omega); rintro e w2 ⟨rfl, nq, rfl⟩)
      go_ret2
      exact ⟨rfl, pw_below_drewN hB.out _⟩

set_option maxRecDepth 100000 in
set_option maxHeartbeats 2000000 in
theorem collapse_no (A : Option Addr) (c : Nat) (l : List Int) (w : World) (hr : Kd.C (Kd.int .i64) w A l.length l) (hl : l.length ≤ 1000) (hall : l.all marB = false) (hG : GOK w) :
    Calls Tryd.prog 12 #[.slice A l.length c] w fun e w' => e = .returned (.tuple #[.int .i64 0, .int .i64 100]) ∧ Below w.heap.size w w' := by
  have HR := Aside0.mk hr
  have HA := Aside0.mk hall
  have HG := Aside0.mk hG
  have hB0 := Aside0.mk (below_alloc (Below.refl w.heap.size w) (.cells #[.int .i64 0, .int .i64 0, .int .i64 0] 47))
  have hv0 := Aside0.mk (blk_new w (.cells #[.int .i64 0, .int .i64 0, .int .i64 0] 47))
  clear hr hall hG
  go_enter Tryd.func12, Tryd.ntmps12
  go_wp2
  go_loopw [11] (fun i wr => ∃ k : Nat, k ≤ l.length ∧ i = .int .i64 k ∧ Aside0 ((l.take k).all marB = true) ∧ Aside0 (Below w.heap.size w wr) ∧ Aside0 (∃ u d n : Int, wr.heap[w.heap.size]? = some (.cells #[.int .i64 u, .int .i64 d, .int .i64 n] 47 (0, 0)))) (fun i _ => l.length - (intOf i).toNat)
  case atStart => exact ⟨0, Nat.zero_le _, rfl, ⟨rfl⟩, hB0, ⟨_, _, _, hv0.out⟩⟩
  case round =>
    clear hB0 hv0
    obtain ⟨k, hk, rfl, hT, hB, hS⟩ := hrel
    by_cases hlt : k < l.length
    · obtain ⟨ad, ea, hx⟩ := Kd.at_int (Kd.C_below HR.out hB.out) (k : Int) (by omega) (by omega)
      cases ea
      rw [Int.toNat_natCast] at hx
      have ht := Aside0.mk (take_rd l k hlt)
      have hsz := hB.out.size
      obtain ⟨u, d, n, hv⟩ := hS.out
      have HV := Aside0.mk hv
      clear hv hS
      by_cases hm : marB (rd l k) = true
      · have HM := Aside0.mk hm
        clear hm
        go_wp2_with (first | (go_at_call 24; refine (isMargin_any _ _).mono ?_; rintro e w' ⟨rfl, rfl⟩; rw [HM.out]) | (go_at_call 27; refine (add_0 w.heap.size wr.heap.size _ _ n (rd l k) _ (blk_alloc HV.out _) (by simp)).mono ?_; rintro e w2 ⟨rfl, hg, n2, hb2⟩; have HB2 := Aside0.mk ((hB.out.alloc hsz (.cells #[.int .i64 (rd l k)] 2)).grown hg (by simp; omega) (fun j hj => by cases hj; exact Nat.le_refl _)); have HV2 := Aside0.mk hb2; clear hb2 hg))
        go_roundw
        case rel => exact ⟨k + 1, by omega, by go_num, ⟨by rw [ht.out, List.all_append, hT.out]; simpa using HM.out⟩, HB2, ⟨_, _, _, HV2.out⟩⟩
        case measure => simp [intOf]; omega
      · have HM := Aside0.mk (Bool.eq_false_iff.mpr hm)
        clear hm
        go_wp2_with (first | (go_at_call 24; refine (isMargin_any _ _).mono ?_; rintro e w' ⟨rfl, rfl⟩; rw [HM.out]) | (go_at_call 26; refine (none_any _).mono ?_; rintro e w' ⟨rfl, rfl⟩) | (go_at_call 25; refine (told_none _ (GOK.below HG.out hB.out)).mono ?_; rintro e w2 ⟨rfl, hb⟩; have HB2 := Aside0.mk (below_then hB.out hsz hb); clear hb))
        go_ret2
        exact ⟨rfl, HB2.out⟩
    · have e : k = l.length := by omega
      subst e
      have := hT.out
      rw [List.take_length, HA.out] at this
      cases this

def margin_Collapse.f (l0 : List Int) : Option (Int × Int) := if l0.length ≤ 1000 then some (if l0.all marB then ((colL l0).1 + (colL l0).2, 0) else (0, 100)) else none
theorem margin_Collapse.calls (A0 : Option Addr) (c0 : Nat) (l0 : List Int) (r1 : Int) (r2 : Int) (w : World) (hr0 : Kd.C (Kd.int .i64) w A0 l0.length l0) (hc0 : l0.length ≤ c0) (h : margin_Collapse.f l0 = some (r1, r2)) (hG : GOK w) :
    Calls Tryd.prog 12 #[.slice A0 l0.length c0] w fun e w' => e = .returned (.tuple #[.int .i64 r1, .int .i64 r2]) ∧ Below w.heap.size w w' := by
  have _hc := hc0
  unfold margin_Collapse.f at h
  by_cases hl : l0.length ≤ 1000
  · rw [if_pos hl] at h
    have hr := Option.some.inj h
    by_cases hok : l0.all marB = true
    · rw [if_pos hok, Prod.mk.injEq] at hr
      obtain ⟨rfl, rfl⟩ := hr
      exact collapse_yes A0 c0 l0 w hr0 hl hok
    · rw [if_neg hok, Prod.mk.injEq] at hr
      obtain ⟨rfl, rfl⟩ := hr
      exact collapse_no A0 c0 l0 w hr0 hl (Bool.eq_false_iff.mpr hok) hG
  · rw [if_neg hl] at h
    cases h
end Go.Proofs.YtiodlbfdfnideaaDoor.G
