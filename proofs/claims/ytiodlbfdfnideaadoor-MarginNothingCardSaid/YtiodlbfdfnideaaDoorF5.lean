/- Chapter 10: Right. -/
import Derived.Test.YtiodlbfdfnideaaDoorF4
namespace Go.Proofs.YtiodlbfdfnideaaDoor.G
open Go.RowKit Go.Proofs.YtiodlbfdfnideaaDoorW.PrintWords Go.Proofs.YtiodlbfdfnideaaDoorW.PrintLast Go.Proofs.YtiodlbfdfnideaaDoorW.PrintMore
attribute [local go_sem] max2_int min2_int max_two min_two

def itemB (x : S42) : Bool := decide (0 ≤ x.f1) && (decide (x.f1 ≤ 1048576) && (marB x.f0 && marB x.f2))
def stackB (l : List S42) : Bool := l.all itemB && decide (l.length ≤ 200)
theorem takeT_rd (rs : List S42) (k : Nat) (hk : k < rs.length) : rs.take (k + 1) = rs.take k ++ [rd_T42 rs k] := by
  rw [List.take_succ_eq_append_getElem hk]
  simp [rd_T42, hk]

set_option maxRecDepth 100000 in
set_option maxHeartbeats 4000000 in
theorem right_items (A : Option Addr) (c : Nat) (l : List S42) (w : World) (hr : Kd.C k42 w A l.length l) (hl : l.length ≤ 1000) :
    Calls Tryd.prog 21 #[.slice A l.length c] w fun e w' => e = .returned (.bool (stackB l)) ∧ Below w.heap.size w w' := by
  have HR := Aside0.mk hr
  have hB0 := Aside0.mk (Below.refl w.heap.size w)
  clear hr
  go_enter Tryd.func21, Tryd.ntmps21
  go_wp2
  go_loopw [8] (fun i wr => ∃ k : Nat, k ≤ l.length ∧ i = .int .i64 k ∧ Aside0 (Below w.heap.size w wr) ∧ Aside0 ((l.take k).all itemB = true)) (fun i _ => l.length - (intOf i).toNat)
  case atStart => exact ⟨0, Nat.zero_le _, rfl, hB0, ⟨rfl⟩⟩
  case round =>
    clear hB0
    obtain ⟨k, hk, rfl, hB, hT⟩ := hrel
    by_cases hlt : k < l.length
    · obtain ⟨ad, ea, hx0, hx1, hx2⟩ := at_T42 (Kd.C_below HR.out hB.out) (k : Int) (by omega) (by omega)
      cases ea
      simp only [Int.toNat_natCast] at hx0 hx1 hx2
      have ht := Aside0.mk (takeT_rd l k hlt)
      have hbad : ∀ b : Bool, itemB (rd_T42 l k) = b → b = false → stackB l = false := by
        rintro b hb rfl
        have : l.all itemB = false := by
          rw [Bool.eq_false_iff]
          intro h
          have := List.all_eq_true.1 h l[k] (List.getElem_mem hlt)
          have e : rd_T42 l k = l[k] := by simp [rd_T42, hlt]
          rw [e, this] at hb
          cases hb
        rw [stackB, this]; rfl
      have hbad' := Aside0.mk hbad
      clear hbad
      generalize hx : rd_T42 l k = x at *
      obtain ⟨f0, f1, f2⟩ := x
      dsimp only at hx0 hx1 hx2
      by_cases h1 : 0 ≤ f1
      · by_cases h2 : f1 ≤ 1048576
        · by_cases h3 : marB f0 = true
          · by_cases h4 : marB f2 = true
            · have HI := Aside0.mk (show itemB ⟨f0, f1, f2⟩ = true by simp [itemB, h1, h2, h3, h4])
              have H3 := Aside0.mk h3
              have H4 := Aside0.mk h4
              clear h3 h4
              go_wp2_with (first | (go_at_call 24; refine (isMargin_any _ _).mono ?_; rintro e w' ⟨rfl, rfl⟩; first | rw [H3.out] | rw [H4.out]))
              go_roundw
              case rel => exact ⟨k + 1, by omega, by go_num, ⟨below_alloc (below_alloc hB.out _) _⟩, ⟨by rw [ht.out, List.all_append, hT.out]; simpa using HI.out⟩⟩
              case measure => simp [intOf]; omega
            · have h4' := Bool.eq_false_iff.mpr h4
              have HX := Aside0.mk (hbad'.out (itemB ⟨f0, f1, f2⟩) rfl (by simp [itemB, h4']))
              have H3 := Aside0.mk h3
              have H4 := Aside0.mk h4'
              clear h3 h4 h4'
              go_wp2_with (first | (go_at_call 24; refine (isMargin_any _ _).mono ?_; rintro e w' ⟨rfl, rfl⟩; first | rw [H3.out] | rw [H4.out]))
              go_ret
              exact ⟨by rw [HX.out]; rfl, below_alloc (below_alloc hB.out _) _⟩
          · have h3' := Bool.eq_false_iff.mpr h3
            have HX := Aside0.mk (hbad'.out (itemB ⟨f0, f1, f2⟩) rfl (by simp [itemB, h3']))
            have H3 := Aside0.mk h3'
            clear h3 h3'
            go_wp2_with (first | (go_at_call 24; refine (isMargin_any _ _).mono ?_; rintro e w' ⟨rfl, rfl⟩; rw [H3.out]))
            go_ret
            exact ⟨by rw [HX.out]; rfl, below_alloc (below_alloc hB.out _) _⟩
        · have h2' : 1048576 < f1 := by omega
          have HX := Aside0.mk (hbad'.out (itemB ⟨f0, f1, f2⟩) rfl (by simp [itemB]; omega))
          clear h2
          go_wp2
          go_ret
          exact ⟨by rw [HX.out]; rfl, below_alloc (below_alloc hB.out _) _⟩
      · have h1' : f1 < 0 := by omega
        have HX := Aside0.mk (hbad'.out (itemB ⟨f0, f1, f2⟩) rfl (by simp [itemB]; omega))
        clear h1
        go_wp2
        go_ret
        exact ⟨by rw [HX.out]; rfl, below_alloc (below_alloc hB.out _) _⟩
    · have e : k = l.length := by omega
      subst e
      have hT' := hT.out
      rw [List.take_length] at hT'
      have HX := Aside0.mk (show stackB l = decide (l.length ≤ 200) by rw [stackB, hT']; rfl)
      clear hT'
      go_wp2
      go_ret
      exact ⟨by rw [HX.out]; simp; omega, hB.out⟩

def margin_Right.f (l0 : List (S42)) : Option (Bool) := if l0.length ≤ 1000 then some (stackB l0) else none
theorem margin_Right.calls (A0 : Option Addr) (c0 : Nat) (l0 : List (S42)) (r : Bool) (w : World) (hr0 : Kd.C k42 w A0 l0.length l0) (hc0 : l0.length ≤ c0) (h : margin_Right.f l0 = some r) (hG : GOK w) :
    Calls Tryd.prog 21 #[.slice A0 l0.length c0] w fun e w' => e = .returned (.bool r) ∧ Below w.heap.size w w' := by
  have _hc := hc0
  have _hg := hG
  unfold margin_Right.f at h
  by_cases hl : l0.length ≤ 1000
  · rw [if_pos hl] at h
    obtain rfl := Option.some.inj h
    exact right_items A0 c0 l0 w hr0 hl
  · rw [if_neg hl] at h
    cases h
end Go.Proofs.YtiodlbfdfnideaaDoor.G
