/- Chapter 1: the length of a text. -/
import Derived.Test.YtlpkjjeihbdocaaDoorF15
namespace Go.Proofs.YtlpkjjeihbdocaaDoor.G
open Go.RowKit Go.Shelf Go.Maps Go.Proofs.YtlpkjjeihbdocaaDoorW.PrintWords Go.Proofs.YtlpkjjeihbdocaaDoorW.PrintLast Go.Proofs.YtlpkjjeihbdocaaDoorW.PrintMore

def bitZ (b : Bool) : Int := if b then 1 else 0
theorem bit_any (b : Bool) (w : World) : Calls Tryd.prog 38 #[.bool b] w fun e w' => e = .returned (.int .i64 (bitZ b)) ∧ w = w' := by
  cases b
  · go_enter Tryd.func38, Tryd.ntmps38
    go_wp2
    go_ret
    exact ⟨rfl, rfl⟩
  · go_enter Tryd.func38, Tryd.ntmps38
    go_wp2
    go_ret
    exact ⟨rfl, rfl⟩
/-- The j-th length of n pixels, below 0 or not. -/
def aOf (n : Nat) (neg : Bool) (j : Nat) : Int := if neg then -((n * 64 + j : Nat) : Int) else ((n * 64 + j : Nat) : Int)
def goodJ (l : List UInt8) (n : Nat) (neg : Bool) (tl : List UInt8) (j : Nat) : Bool := (j == 0 || restF 6 j == tl) && (printZ (aOf n neg j) == (l, 0))
def parseZ (l : List UInt8) : Int × Int :=
  match wholeL 0 (cutL (dashL l).1).1 with
  | none => (0, 12)
  | some n => match (List.range 64).find? (goodJ l n (dashL l).2 (cutL (dashL l).1).2) with
    | none => (0, 12)
    | some j => (aOf n (dashL l).2 j, 0)
/-- What the map holds behind k rounds. -/
def Filled (n k : Nat) (D : DataW Unit) : Prop := IsMap D ∧ ∀ (j : Nat) (b : Bool) (kl : Lit), j < k → keyOf Tryd.prog 53 (pairV j (bitZ b)) = some kl → D.atKey kl (.lit (.int .i64 0)) = .lit (.int .i64 (aOf n b j))
theorem filled_zero (n : Nat) : Filled n 0 (.map []) := ⟨isMap_empty, fun _ _ _ h => by omega⟩
theorem filled_step (n k : Nat) (D : DataW Unit) (h : Filled n k D) (k0 k1 : Lit) (h0 : keyOf Tryd.prog 53 (pairV k 0) = some k0) (h1 : keyOf Tryd.prog 53 (pairV k 1) = some k1) :
    Filled n (k + 1) ((D.put k0 (.lit (.int .i64 (aOf n false k)))).put k1 (.lit (.int .i64 (aOf n true k)))) := by
  obtain ⟨hm, ha⟩ := h
  refine ⟨(hm.put _ _).put _ _, fun j b kl hj hk => ?_⟩
  by_cases e : j = k
  · subst e
    cases b with
    | true =>
      obtain rfl : kl = k1 := Option.some.inj (hk.symm.trans h1)
      exact atKey_put_same (hm.put _ _) (pairLaw.key h1) _ _
    | false =>
      obtain rfl : kl = k0 := Option.some.inj (hk.symm.trans h0)
      rw [atKey_put_other (fun e => ?_)]
      · exact atKey_put_same hm (pairLaw.key h0) _ _
      · have := pairLaw.inj h0 (e ▸ h1)
        simp [pairV] at this
  · have n0 : kl ≠ k0 := fun e' => by
      have := pairLaw.inj hk (e' ▸ h0)
      simp [pairV] at this
      omega
    have n1 : kl ≠ k1 := fun e' => by
      have := pairLaw.inj hk (e' ▸ h1)
      simp [pairV] at this
      omega
    rw [atKey_put_other n1, atKey_put_other n0]
    exact ha j b kl (by omega) hk
theorem wholeL_le (l : List UInt8) : ∀ m n, m ≤ 10737418249 → wholeL m l = some n → n ≤ 10737418249 := by
  induction l with
  | nil => intro m n hm h; simp [wholeL] at h; omega
  | cons c l ih =>
    intro m n hm h
    rw [wholeL] at h
    split at h
    · exact ih _ n (by omega) h
    · cases h
theorem cutL_len (l : List UInt8) : (cutL l).1.length ≤ l.length ∧ (cutL l).2.length ≤ l.length := by
  induction l with
  | nil => simp [cutL]
  | cons c l ih => unfold cutL; split <;> simp <;> omega
theorem dashL_len (l : List UInt8) : (dashL l).1.length ≤ l.length := by
  cases l with
  | nil => simp [dashL]
  | cons c l => by_cases h : c = 45 <;> simp [dashL, h]

theorem find_hit (f : Nat → Bool) (k : Nat) (hk : k < 64) (h : ∀ j, j < k → f j = false) (h1 : f k = true) : (List.range 64).find? f = some k := by
  rw [List.find?_eq_some_iff_append]
  refine ⟨h1, List.range k, (List.range' (k + 1) (63 - k)), ?_, fun a ha => by rw [h a (List.mem_range.1 ha)]; rfl⟩
  have e : List.range 64 = List.range (k + (1 + (63 - k))) := by congr 1; omega
  rw [e, List.range_add, List.range_add]
  simp [List.range'_eq_map_range]
  intro a _
  omega
theorem find_miss (f : Nat → Bool) (h : ∀ j, j < 64 → f j = false) : (List.range 64).find? f = none := by
  rw [List.find?_eq_none]
  intro x hx
  rw [h x (List.mem_range.1 hx)]
  simp
theorem rest_small (k : Nat) (w : World) (h : k < 64) : Calls Tryd.prog 33 #[.int .u64 k] w fun e w' => e = .returned (.string (dotted (restF 6 k))) ∧ w = w' := by
  have h1 := rest_any k w (by omega)
  rw [Nat.mod_eq_of_lt h] at h1
  exact h1
theorem dotted_eq (a b : List UInt8) : ((dotted a).toList == (dotted b).toList) = (a == b) := by
  rw [Lib.toList_data, Lib.toList_data]
  simp [dotted]
theorem bstr_eq (a b : List UInt8) : ((bstr a).toList == (bstr b).toList) = (a == b) := by
  rw [Lib.toList_data, Lib.toList_data]
  simp [bstr]
set_option maxRecDepth 1000000 in
set_option maxHeartbeats 4000000 in
theorem parse_any (l : List UInt8) (w : World) (hl : l.length ≤ 1000) (sa sb sc : Addr) (hS : Sent w sa sb sc) (r1 r2 : Int) (HR : Aside0 (parseZ l = (r1, r2))) :
    Calls Tryd.prog 14 #[.string (bstr l)] w fun e w' => e = .returned (.tuple #[.int .i64 r1, .int .i64 r2]) ∧ Below w.heap.size w w' := by
  have l1 := dashL_len l
  have l2 := cutL_len (dashL l).1
  have HP := HR.out
  clear HR
  unfold parseZ at HP
  have HCUT := Aside0.mk (fun w' => cut_any (dashL l).1 w' (by omega))
  generalize hneg : (dashL l).2 = neg at HP
  have HNEG := Aside0.mk hneg
  clear hneg
  generalize (cutL (dashL l).1).1 = hd at *
  generalize htl : (cutL (dashL l).1).2 = tl at *
  have HTL : tl.length ≤ 1000 := by omega
  clear htl
  cases hw : wholeL 0 hd with
  | none =>
    rw [hw] at HP
    obtain ⟨rfl, rfl⟩ := Prod.mk.inj HP
    have HW := Aside0.mk hw
    have HS := Aside0.mk hS
    clear hw hS HP l1 l2
    go_enter Tryd.func14, Tryd.ntmps14
    go_wp2_with (first | (go_at_call 35; refine (cutPrefix_any _ _).mono ?_; rintro e w' ⟨rfl, rfl⟩) | (go_at_call 36; refine (HCUT.out _).mono ?_; rintro e w' ⟨⟨b, rfl⟩, hb⟩; have HB := Aside0.mk hb; clear hb) | (go_at_call 37; refine (whole_any _ _).mono ?_; rintro e w' ⟨rfl, hb⟩; rw [HW.out, wholeR_none]; have HB2 := Aside0.mk (below_step HB.out hb); clear hb; have g0 := (HS.out.below HB2.out).2.1) | (go_at_call 31; refine (told_text sa sb sc _ (HS.out.below HB2.out)).mono ?_; rintro e w2 ⟨rfl, rfl⟩))
    go_ret2
    exact ⟨rfl, HB2.out⟩
  | some n =>
    rw [hw] at HP
    have HW := Aside0.mk hw
    have hn := wholeL_le hd 0 n (by omega) hw
    have HS := Aside0.mk hS
    have hmm := @run_makeMap Tryd.prog
    have HPP := Aside0.mk HP
    clear hw hS HP l1 l2
    go_enter Tryd.func14, Tryd.ntmps14
    go_wp2_with (first | (go_at_call 35; refine (cutPrefix_any _ _).mono ?_; rintro e w' ⟨rfl, rfl⟩) | (go_at_call 36; refine (HCUT.out _).mono ?_; rintro e w' ⟨⟨b, rfl⟩, hb⟩; have HB := Aside0.mk hb; clear hb) | (go_at_call 37; refine (whole_any _ _).mono ?_; rintro e w1 ⟨rfl, hb⟩; rw [HW.out, wholeR_some]; have HB2 := Aside0.mk (below_step HB.out hb); clear hb))
    rw [HNEG.out]
    clear hmm
    go_loopw [39] (fun i wr => ∃ (k : Nat) (D : DataW Unit), k ≤ 64 ∧ i = .int .i64 k ∧ Aside0 (Filled n k D) ∧ Aside0 (wr.ownsMap Tryd.prog 53 (plainElem Tryd.prog 2) w1.heap.size (2 * k) D) ∧ Aside0 (Below w.heap.size w wr)) (fun i _ => 64 - (intOf i).toNat)
    case atStart => exact ⟨0, .map [], by omega, rfl, ⟨filled_zero n⟩, ⟨World.ownsMap_made _ _ _ _⟩, ⟨below_alloc HB2.out _⟩⟩
    case round =>
      obtain ⟨k, D, hk, rfl, HF, HM, HBR⟩ := hrel
      by_cases hlt : k < 64
      · have hor := or_add n k hn hlt
        have hlt' : (k : Int) < 64 := by omega
        obtain ⟨k0, hk0⟩ := pairKey k 0 (WalkArith.wf_i64 (by omega)) (WalkArith.wf_i64 (by omega))
        obtain ⟨k1, hk1⟩ := pairKey k 1 (WalkArith.wf_i64 (by omega)) (WalkArith.wf_i64 (by omega))
        have K0 := Aside0.mk hk0
        have K1 := Aside0.mk hk1
        clear hk0 hk1
        have wf0 : (Lit.int .i64 (((n * 64 + k : Nat) : Int))).wf = true := WalkArith.wf_i64 (by omega)
        have wf1 : (Lit.int .i64 (-((n * 64 + k : Nat) : Int))).wf = true := WalkArith.wf_i64 (by omega)
        have W0 := Aside0.mk wf0
        have W1 := Aside0.mk wf1
        clear wf0 wf1
        have b0 : (0 : Int) ≤ ((n * 64 + k : Nat) : Int) := by omega
        have b1 : ((n * 64 + k : Nat) : Int) ≤ 1000000000000 := by omega
        generalize hA : ((n * 64 + k : Nat) : Int) = A at *
        have HA := Aside0.mk hA
        clear hA
        go_wp2_with (first | (at_mapUpdate; refine wpList_mapUpdate_own _ rfl _ _ _ 51 rfl 53 2 pairLaw Tryd.underlying51 _ w1.heap.size (2 * k) _ rfl HM.out (by unfold maxLen; omega) _ _ _ rfl rfl K0.out _ [] (plainElem_int Tryd.underlying2 W0.out) ?_; intro w2 hown1 hgrow1; have HM1 := Aside0.mk hown1; have HG1 := Aside0.mk hgrow1; clear hown1 hgrow1) | (at_mapUpdate; refine wpList_mapUpdate_own _ rfl _ _ _ 51 rfl 53 2 pairLaw Tryd.underlying51 _ w1.heap.size (2 * k + 1) _ rfl HM1.out (by unfold maxLen; omega) _ _ _ rfl rfl K1.out _ [] (plainElem_int Tryd.underlying2 W1.out) ?_; intro w3 hown2 hgrow2; have HM2 := Aside0.mk hown2; have HG2 := Aside0.mk hgrow2; clear hown2 hgrow2))
        go_roundw
        case rel =>
          have a0 : aOf n false k = A := by rw [← HA.out]; rfl
          have a1 : aOf n true k = -A := by rw [← HA.out]; rfl
          have hf := filled_step n k D HF.out k0 k1 K0.out K1.out
          rw [a0, a1] at hf
          have hz := below_size HB2.out
          have hb1 := HBR.out.grown HG1.out (below_size HBR.out) (fun j e => by cases e; exact hz)
          exact ⟨k + 1, _, by omega, by go_num, ⟨hf⟩, HM2, ⟨hb1.grown HG2.out (below_size hb1) (fun j e => by cases e; exact hz)⟩⟩
        case measure => simp [intOf]; omega
      · obtain rfl : k = 64 := by omega
        have HSW := Aside0.mk (HS.out.below HBR.out)
        have l3 : (bstr tl).size ≤ 1000 := by rw [bstr_size]; exact HTL
        have g0 := HSW.out.2.1
        clear hlt hk
        rw [show ((64 : Nat) : Int) = 64 from rfl]
        go_wp2
        go_loop [56] (fun i => ∃ k : Nat, k ≤ 64 ∧ i = .int .i64 k ∧ Aside0 (∀ j, j < k → goodJ l n neg tl j = false)) (fun i => 64 - (intOf i).toNat)
        case atStart => exact ⟨0, by omega, rfl, ⟨fun _ h => by omega⟩⟩
        case round =>
          obtain ⟨k, hk, rfl, HN⟩ := hrel
          by_cases hlt : k < 64
          · have hlt' : (k : Int) < 64 := by omega
            obtain ⟨kl, hkl⟩ := pairKey k (bitZ neg) (WalkArith.wf_i64 (by omega)) (by cases neg <;> exact WalkArith.wf_i64 (by decide))
            have KK := Aside0.mk hkl
            have HFA := HF.out.2 k neg kl hlt hkl
            clear hkl
            have hgood : ∀ b, goodJ l n neg tl k = b → Aside0 (goodJ l n neg tl k = b) := fun _ h => ⟨h⟩
            obtain ⟨gd, hgd⟩ : ∃ gd, goodJ l n neg tl k = gd := ⟨_, rfl⟩
            have HGD := Aside0.mk hgd
            unfold goodJ at hgd
            generalize hao : aOf n neg k = A at *
            have HAO := Aside0.mk hao
            clear hao
            obtain ⟨u, e, hp⟩ : ∃ u e, printZ A = (u, e) := ⟨_, _, rfl⟩
            rw [hp] at hgd
            have HPZ := Aside0.mk hp
            have HFA2 := Aside0.mk HFA
            clear hp HFA hgood
            have e0 : (⟨#[46]⟩ : ByteArray) ++ bstr tl = dotted tl := str_app [46] tl
            have hr := Aside0.mk (fun w' => rest_small k w' hlt)
            by_cases hk0 : k = 0
            · have hk1 : ¬ 0 < (k : Int) := by omega
              have hk2 : decide (0 < (k : Int)) = false := decide_eq_false hk1
              have HK0 := Aside0.mk hk0
              have hq := hk0
              by_cases he : e = 0
              · subst he
                have e1 : ((0 : Int) == 0) = true := rfl
                by_cases hu : u = l
                · subst hu
                  have tu : ((bstr u).toList == (bstr u).toList) = true := by rw [bstr_eq]; simp
                  have hfin : (List.range 64).find? (goodJ u n neg tl) = some k := find_hit _ k hlt HN.out (by rw [HGD.out, ← hgd]; simp; exact .inl HK0.out)
                  have hres := HPP.out
                  rw [hfin] at hres
                  obtain ⟨q1, q2⟩ := Prod.mk.inj hres
                  have HQ1 := Aside0.mk ((show aOf n neg k = A from HAO.out).symm.trans q1)
                  have HQ2 := Aside0.mk q2
                  clear hfin hres q1 q2 hgd hq hk0
                  go_wp2_with (first | (go_at_call 38; refine (bit_any _ _).mono ?_; rintro e' w' ⟨rfl, rfl⟩) | (at_lookup; refine wpList_lookup_own_int _ rfl _ _ 51 rfl 53 2 .i64 pairLaw Tryd.underlying51 Tryd.underlying2 (zero2 _) w1.heap.size (2 * 64) D rfl HM.out _ _ rfl KK.out ?_; intro c hat hwc; obtain rfl : A = c := by (have h := HFA2.out.symm.trans hat; simpa using h)) | (go_at_call 12; refine (print_any _ _ sa sb sc HSW.out).mono ?_; rintro e' w' ⟨rfl, rfl⟩; rw [HPZ.out]))
                  go_ret2
                  rw [← HQ1.out, ← HQ2.out]
                  exact ⟨rfl, HBR.out⟩
                · have tu : ((bstr u).toList == (bstr l).toList) = false := by rw [bstr_eq]; simpa using hu
                  obtain rfl : gd = false := by rw [← hgd]; simp [hu]
                  clear hgd hq hu hk0
                  go_wp2_with (first | (go_at_call 38; refine (bit_any _ _).mono ?_; rintro e' w' ⟨rfl, rfl⟩) | (at_lookup; refine wpList_lookup_own_int _ rfl _ _ 51 rfl 53 2 .i64 pairLaw Tryd.underlying51 Tryd.underlying2 (zero2 _) w1.heap.size (2 * 64) D rfl HM.out _ _ rfl KK.out ?_; intro c hat hwc; obtain rfl : A = c := by (have h := HFA2.out.symm.trans hat; simpa using h)) | (go_at_call 12; refine (print_any _ _ sa sb sc HSW.out).mono ?_; rintro e' w' ⟨rfl, rfl⟩; rw [HPZ.out]))
                  go_round
                  case rel => exact ⟨k + 1, by omega, by go_num, ⟨fun j hj => by
                    by_cases ej : j = k
                    · rw [ej, HGD.out]
                    · exact HN.out j (by omega)⟩⟩
                  case measure => simp [intOf]; omega
              · have e1 : (e == 0) = false := by simpa using he
                obtain rfl : gd = false := by rw [← hgd]; simp [he]
                clear hgd hq he hk0
                go_wp2_with (first | (go_at_call 38; refine (bit_any _ _).mono ?_; rintro e' w' ⟨rfl, rfl⟩) | (at_lookup; refine wpList_lookup_own_int _ rfl _ _ 51 rfl 53 2 .i64 pairLaw Tryd.underlying51 Tryd.underlying2 (zero2 _) w1.heap.size (2 * 64) D rfl HM.out _ _ rfl KK.out ?_; intro c hat hwc; obtain rfl : A = c := by (have h := HFA2.out.symm.trans hat; simpa using h)) | (go_at_call 12; refine (print_any _ _ sa sb sc HSW.out).mono ?_; rintro e' w' ⟨rfl, rfl⟩; rw [HPZ.out]))
                go_round
                case rel => exact ⟨k + 1, by omega, by go_num, ⟨fun j hj => by
                  by_cases ej : j = k
                  · rw [ej, HGD.out]
                  · exact HN.out j (by omega)⟩⟩
                case measure => simp [intOf]; omega
            · have hk1 : 0 < (k : Int) := by omega
              have hk2 : decide (0 < (k : Int)) = true := decide_eq_true hk1
              by_cases hq : restF 6 k = tl
              · have tf : ((dotted (restF 6 k)).toList == (dotted tl).toList) = true := by rw [dotted_eq]; simpa using hq
                by_cases he : e = 0
                · subst he
                  have e1 : ((0 : Int) == 0) = true := rfl
                  by_cases hu : u = l
                  · subst hu
                    have tu : ((bstr u).toList == (bstr u).toList) = true := by rw [bstr_eq]; simp
                    have hfin : (List.range 64).find? (goodJ u n neg tl) = some k := find_hit _ k hlt HN.out (by rw [HGD.out, ← hgd]; simp; exact .inr hq)
                    have hres := HPP.out
                    rw [hfin] at hres
                    obtain ⟨q1, q2⟩ := Prod.mk.inj hres
                    have HQ1 := Aside0.mk ((show aOf n neg k = A from HAO.out).symm.trans q1)
                    have HQ2 := Aside0.mk q2
                    clear hfin hres q1 q2 hgd hq hk0
                    go_wp2_with (first | (go_at_call 38; refine (bit_any _ _).mono ?_; rintro e' w' ⟨rfl, rfl⟩) | (at_lookup; refine wpList_lookup_own_int _ rfl _ _ 51 rfl 53 2 .i64 pairLaw Tryd.underlying51 Tryd.underlying2 (zero2 _) w1.heap.size (2 * 64) D rfl HM.out _ _ rfl KK.out ?_; intro c hat hwc; obtain rfl : A = c := by (have h := HFA2.out.symm.trans hat; simpa using h)) | (go_at_call 33; refine (hr.out _).mono ?_; rintro e' w' ⟨rfl, rfl⟩) | (go_at_call 12; refine (print_any _ _ sa sb sc HSW.out).mono ?_; rintro e' w' ⟨rfl, rfl⟩; rw [HPZ.out]))
                    go_ret2
                    rw [← HQ1.out, ← HQ2.out]
                    exact ⟨rfl, HBR.out⟩
                  · have tu : ((bstr u).toList == (bstr l).toList) = false := by rw [bstr_eq]; simpa using hu
                    obtain rfl : gd = false := by rw [← hgd]; simp [hu]
                    clear hgd hq hu hk0
                    go_wp2_with (first | (go_at_call 38; refine (bit_any _ _).mono ?_; rintro e' w' ⟨rfl, rfl⟩) | (at_lookup; refine wpList_lookup_own_int _ rfl _ _ 51 rfl 53 2 .i64 pairLaw Tryd.underlying51 Tryd.underlying2 (zero2 _) w1.heap.size (2 * 64) D rfl HM.out _ _ rfl KK.out ?_; intro c hat hwc; obtain rfl : A = c := by (have h := HFA2.out.symm.trans hat; simpa using h)) | (go_at_call 33; refine (hr.out _).mono ?_; rintro e' w' ⟨rfl, rfl⟩) | (go_at_call 12; refine (print_any _ _ sa sb sc HSW.out).mono ?_; rintro e' w' ⟨rfl, rfl⟩; rw [HPZ.out]))
                    go_round
                    case rel => exact ⟨k + 1, by omega, by go_num, ⟨fun j hj => by
                      by_cases ej : j = k
                      · rw [ej, HGD.out]
                      · exact HN.out j (by omega)⟩⟩
                    case measure => simp [intOf]; omega
                · have e1 : (e == 0) = false := by simpa using he
                  obtain rfl : gd = false := by rw [← hgd]; simp [he]
                  clear hgd hq he hk0
                  go_wp2_with (first | (go_at_call 38; refine (bit_any _ _).mono ?_; rintro e' w' ⟨rfl, rfl⟩) | (at_lookup; refine wpList_lookup_own_int _ rfl _ _ 51 rfl 53 2 .i64 pairLaw Tryd.underlying51 Tryd.underlying2 (zero2 _) w1.heap.size (2 * 64) D rfl HM.out _ _ rfl KK.out ?_; intro c hat hwc; obtain rfl : A = c := by (have h := HFA2.out.symm.trans hat; simpa using h)) | (go_at_call 33; refine (hr.out _).mono ?_; rintro e' w' ⟨rfl, rfl⟩) | (go_at_call 12; refine (print_any _ _ sa sb sc HSW.out).mono ?_; rintro e' w' ⟨rfl, rfl⟩; rw [HPZ.out]))
                  go_round
                  case rel => exact ⟨k + 1, by omega, by go_num, ⟨fun j hj => by
                    by_cases ej : j = k
                    · rw [ej, HGD.out]
                    · exact HN.out j (by omega)⟩⟩
                  case measure => simp [intOf]; omega
              · have tf : ((dotted (restF 6 k)).toList == (dotted tl).toList) = false := by rw [dotted_eq]; simpa using hq
                obtain rfl : gd = false := by rw [← hgd]; simp [hq, hk0]
                clear hgd hq hk0
                go_wp2_with (first | (go_at_call 38; refine (bit_any _ _).mono ?_; rintro e' w' ⟨rfl, rfl⟩) | (at_lookup; refine wpList_lookup_own_int _ rfl _ _ 51 rfl 53 2 .i64 pairLaw Tryd.underlying51 Tryd.underlying2 (zero2 _) w1.heap.size (2 * 64) D rfl HM.out _ _ rfl KK.out ?_; intro c hat hwc; obtain rfl : A = c := by (have h := HFA2.out.symm.trans hat; simpa using h)) | (go_at_call 33; refine (hr.out _).mono ?_; rintro e' w' ⟨rfl, rfl⟩))
                go_round
                case rel => exact ⟨k + 1, by omega, by go_num, ⟨fun j hj => by
                  by_cases ej : j = k
                  · rw [ej, HGD.out]
                  · exact HN.out j (by omega)⟩⟩
                case measure => simp [intOf]; omega
          · have hfin : (List.range 64).find? (goodJ l n neg tl) = none := find_miss _ (fun j hj => HN.out j (by omega))
            have hres := HPP.out
            rw [hfin] at hres
            obtain ⟨q1, q2⟩ := Prod.mk.inj hres
            have HQ1 := Aside0.mk q1
            have HQ2 := Aside0.mk q2
            clear hfin hres q1 q2
            have hk1 : ¬ (k : Int) < 64 := by omega
            go_wp2_with (go_at_call 31; refine (told_text sa sb sc _ HSW.out).mono ?_; rintro e w2 ⟨rfl, rfl⟩)
            go_ret2
            rw [← HQ1.out, ← HQ2.out]
            exact ⟨rfl, HBR.out⟩
theorem bstr_back (s : ByteArray) : bstr s.data.toList = s := by
  apply ByteArray.ext; simp [bstr]
def unit_Parse.f (a0 : ByteArray) : Option (Int × Int) := if a0.size ≤ 1000 then some (parseZ a0.data.toList) else none
theorem unit_Parse.calls (a0 : ByteArray) (r1 : Int) (r2 : Int) (w : World) (h : unit_Parse.f a0 = some (r1, r2)) (hG : GOK w) :
    Calls Tryd.prog 14 #[.string a0] w fun e w' => e = .returned (.tuple #[.int .i64 r1, .int .i64 r2]) ∧ Below w.heap.size w w' := by
  unfold unit_Parse.f at h
  obtain ⟨sa, sb, sc, hS⟩ := hG
  by_cases hl : a0.size ≤ 1000
  · rw [if_pos hl] at h
    have h1 := parse_any a0.data.toList w (by rw [← Lib.size_eq]; exact hl) sa sb sc hS r1 r2 ⟨Option.some.inj h⟩
    rw [bstr_back] at h1
    exact h1
  · rw [if_neg hl] at h; cases h
end Go.Proofs.YtlpkjjeihbdocaaDoor.G
