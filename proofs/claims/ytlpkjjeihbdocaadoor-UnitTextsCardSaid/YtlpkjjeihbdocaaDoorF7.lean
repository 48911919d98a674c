/- Chapter 1: the iterator over the sums. -/
import Derived.Test.YtlpkjjeihbdocaaDoorF6
import Derived.RangeFuncNested
import Derived.RangeFuncBound
import Derived.RangeFuncCalls
import Derived.RangeFuncLeaves
import Derived.RangeFuncBox
import Derived.Shelf.Abstract
import Derived.Shelf.RegionOpen
import Derived.OwnWalkIn
import Derived.TacticsInMore
import Derived.LoopNIn
import Derived.LoopIn
namespace Go.Proofs.YtlpkjjeihbdocaaDoor.G
open Go.RowKit Go.Shelf Go.Proofs.YtlpkjjeihbdocaaDoorW.PrintWords Go.Proofs.YtlpkjjeihbdocaaDoorW.PrintLast Go.Proofs.YtlpkjjeihbdocaaDoorW.PrintMore
attribute [local go_sem] Oper.semAt_some

theorem wpIn_scope_wide {n : Nat} {P : Program} {c : Code} {Q : Exit → Act → World → Prop} {a : Act} {w : World} (h : c.wpIn Fence.wide n P (Exit.noGoto Q) a w) : (Code.scope c).wpIn Fence.wide n P Q a w :=
  wpIn_wide.2 (wp_scope_straight (wpIn_wide.1 h))
def sumG (l : List Int) : Int := l.foldl (· + ·) 0
theorem sumG_snoc (l : List Int) (x : Int) : sumG (l ++ [x]) = sumG l + x := by simp [sumG]
/-- What is told, of the first ones: what they are together; whether the last one is a length. -/
def partS (l : List Int) : Nat → List (Int × Bool)
  | 0 => []
  | k + 1 => partS l k ++ [(wrap64 (sumG (l.take k) + rd l k), lenB (rd l k))]
theorem partS_len (l : List Int) (k : Nat) : (partS l k).length = k := by
  induction k with
  | zero => rfl
  | succ k ih => simp [partS, ih]
theorem take_rd (rs : List Int) (k : Nat) (hk : k < rs.length) : rs.take (k + 1) = rs.take k ++ [rd rs k] := by
  rw [List.take_succ_eq_append_getElem hk]
  simp [rd, hk]
theorem snoc_ind {α : Type} {Q : List α → Prop} (h0 : Q []) (h1 : ∀ l x, Q l → Q (l ++ [x])) (l : List α) : Q l := by
  rw [← List.reverse_reverse l]
  induction l.reverse with
  | nil => exact h0
  | cons x r ih => rw [List.reverse_cons]; exact h1 _ _ ih
theorem sumG_in (l : List Int) (h : l.all lenB = true) : -(1073741824 * (l.length : Int)) ≤ sumG l ∧ sumG l ≤ 1073741824 * (l.length : Int) := by
  induction l using snoc_ind with
  | h0 => simp [sumG]
  | h1 r x ih =>
    rw [List.all_append, Bool.and_eq_true] at h
    have hx : lenB x = true := by simpa using h.2
    simp [lenB] at hx
    have := ih h.1
    rw [sumG_snoc]
    have e : ((r ++ [x]).length : Int) = (r.length : Int) + 1 := by simp
    rw [e]
    omega

set_option maxRecDepth 100000 in
set_option maxHeartbeats 2000000 in
theorem sums1_in (m : Nat) (hm : 3 ≤ m) (yl Bp : Nat) (A : Option Addr) (c : Nat) (l : List Int) (w0 : World) (hr : Kd.C (Kd.int .i64) w0 A l.length l) (hl : l.length ≤ 1000) (J Jx : List (Int × Bool) → World → Prop)
    (hY : ∀ pre (x : Int × Bool) W, J pre W → pre.length < 1000 → YieldAt Fence.wide (m - 1) Tryd.prog yl #[.int .i64 x.1, .bool x.2] W fun e W' =>
      (e = .returned (.bool true) ∧ J (pre ++ [x]) W' ∧ Below w0.heap.size W W') ∨ (e = .returned (.bool false) ∧ Jx (pre ++ [x]) W'))
    (W : World) (hB : Below w0.heap.size w0 W) (hp : Boxed W Bp 33 (.slice A l.length c)) (h0 : J [] W) :
    CallsIn Fence.wide m Tryd.prog 47 #[.func (.yield yl) #[] #[], .pointer (some ⟨Bp, 0, none⟩)] W fun e W' => (∃ v, e = .returned v) ∧
      ((∃ ys, (∃ k, k ≤ l.length ∧ ys = partS l k ∧ (l.take (k - 1)).all lenB = true ∧ (k = l.length ∨ 0 < k ∧ lenB (rd l (k - 1 : Nat)) = false)) ∧ J ys W') ∨ (∃ pre, (∃ k, k < l.length ∧ pre = partS l (k + 1)) ∧ Jx pre W')) := by
  refine callsIn_of_wp Tryd.func47 rfl trivial ?_ rfl
  simp only [Tryd.ntmps47, List.size_toArray, List.length_cons, List.length_nil, Nat.reduceAdd, Nat.reduceSub, Array.replicate_succ, Array.replicate_zero, List.push_toArray, List.append_toArray, List.nil_append, List.cons_append]
  have cp := hp.cell
  have HR := Aside0.mk hr
  have HB := Aside0.mk hB
  clear hr hB hp
  gi_wp2
  refine wpIn_scope_wide ?_
  gi_wp2
  refine wpIn_label ?_
  gi_wp2
  clear cp
  gi_loopw [3, 8] (fun n i wr => ∃ k : Nat, k ≤ l.length ∧ n = .int .i64 (sumG (l.take k)) ∧ i = .int .i64 k ∧ Aside0 ((l.take k).all lenB = true) ∧ Aside0 (J (partS l k) wr) ∧ Aside0 (Below w0.heap.size w0 wr)) (fun _ i _ => l.length - (intOf i).toNat)
  case atStart => exact ⟨0, Nat.zero_le _, rfl, rfl, ⟨rfl⟩, ⟨h0⟩, HB⟩
  case round =>
    clear HB h0
    obtain ⟨k, hk, rfl, rfl, hall, hJk, hBk⟩ := hrel
    by_cases hlt : k < l.length
    · obtain ⟨ad, ea, hx⟩ := Kd.at_int (Kd.C_below HR.out hBk.out) (k : Int) (by omega) (by omega)
      cases ea
      rw [Int.toNat_natCast] at hx
      have ht := Aside0.mk (take_rd l k hlt)
      obtain ⟨s, hs⟩ : ∃ s, wrap64 (sumG (l.take k) + rd l k) = s := ⟨_, rfl⟩
      have HS := Aside0.mk hs
      have hpl := partS_len l k
      obtain ⟨g, hg⟩ : ∃ g, lenB (rd l k) = g := ⟨_, rfl⟩
      have HGD := Aside0.mk hg
      have hY1 := hY (partS l k) (s, g) wr hJk.out (by omega)
      obtain ⟨fn, tmps, assign, body, hy, hR⟩ := hY1
      clear hg
      gi_wp2_with fail
      refine ⟨trivial, fun _ => by omega, ?_⟩
      refine (callsIn_wide.2 (right_any _ _)).mono ?_
      rintro e w' ⟨rfl, rfl⟩
      rw [HGD.out]
      gi_wp2
      refine ⟨fun _ => by omega, hR.mono ?_⟩
      have hps : partS l (k + 1) = partS l k ++ [(s, g)] := by rw [partS, HS.out, HGD.out]
      have HPS := Aside0.mk hps
      clear hps hs hy hR
      rintro ev W3 (⟨rfl, hJ3, hk3⟩ | ⟨rfl, hJx3⟩)
      · have HJ3 := Aside0.mk hJ3
        have HB3 := Aside0.mk (hBk.out.trans hk3)
        clear hJ3 hk3
        cases g with
        | true =>
          have hsum : s = sumG (l.take (k + 1)) := by
            have hin := sumG_in (l.take k) hall.out
            have hle : ((l.take k).length : Int) ≤ 1000 := by rw [List.length_take]; omega
            have hx1 := HGD.out
            simp [lenB] at hx1
            rw [← HS.out, ht.out, sumG_snoc, i64_in (by omega) (by omega)]
          have HSUM := Aside0.mk hsum
          clear hsum
          gi_wp2_with fail
          refine ⟨trivial, fun _ => by omega, ?_⟩
          refine (callsIn_wide.2 (right_any _ _)).mono ?_
          rintro e w' ⟨rfl, rfl⟩
          rw [HGD.out]
          gi_wp2
          go_roundw
          case rel => exact ⟨k + 1, by omega, by rw [HSUM.out], by go_num, ⟨by rw [ht.out, List.all_append, hall.out]; simpa using HGD.out⟩, ⟨by rw [HPS.out]; exact HJ3.out⟩, HB3⟩
          case measure => simp [intOf]; omega
        | false =>
          gi_wp2_with fail
          refine ⟨trivial, fun _ => by omega, ?_⟩
          refine (callsIn_wide.2 (right_any _ _)).mono ?_
          rintro e w' ⟨rfl, rfl⟩
          rw [HGD.out]
          gi_wp2
          rw [Exit.noGoto_normal]
          go_end0
          exact ⟨⟨_, rfl⟩, .inl ⟨partS l (k + 1), ⟨k + 1, by omega, rfl, by simpa using hall.out, .inr ⟨by omega, by simpa using HGD.out⟩⟩, by rw [HPS.out]; exact HJ3.out⟩⟩
      · gi_wp2
        refine ⟨trivial, ?_⟩
        gi_wp2
        rw [Exit.noGoto_normal]
        go_end0
        exact ⟨⟨_, rfl⟩, .inr ⟨partS l (k + 1), ⟨k, by omega, rfl⟩, by rw [HPS.out]; exact hJx3⟩⟩
    · have e : k = l.length := by omega
      subst e
      gi_wp2
      rw [Exit.noGoto_normal]
      go_end0
      exact ⟨⟨_, rfl⟩, .inl ⟨partS l l.length, ⟨l.length, Nat.le_refl _, rfl, by have h := hall.out; rw [List.take_length] at h; exact List.all_eq_true.2 fun x hx => List.all_eq_true.1 h x (List.mem_of_mem_take hx), .inl rfl⟩, hJk.out⟩⟩
end Go.Proofs.YtlpkjjeihbdocaaDoor.G
