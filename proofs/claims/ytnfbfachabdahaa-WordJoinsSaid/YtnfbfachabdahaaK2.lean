/- Chapter 7: WordJoins, walked by hand. Written by mkK2.py. -/
import Derived.Test.YtnfbfachabdahaaH9
import Derived.Deep.QuietTactic
import Derived.BigQuiet
namespace Go.Proofs.Ytnfbfachabdahaa.G
open Go.RowKit Go.Shelf Go.Proofs.YtnfbfachabdahaaW.PrintWords Go.Proofs.YtnfbfachabdahaaW.PrintLast Go.Proofs.YtnfbfachabdahaaW.PrintMore

attribute [local go_sem high] eqW34
attribute [local go_sem] max2_int min2_int max_two min_two max_three min_three max_four min_four
theorem cut_bstr (a : ByteArray) (n : Nat) : a.extract 0 n = bstr (a.data.toList.take n) := by
  apply ByteArray.ext
  apply Array.ext'
  simp [bstr, List.extract_eq_take_drop]
theorem cell_old {W : World} {a : Addr} {v : Value} (h : W.cell? a = some v) (o : Obj) : (W.alloc o).cell? a = some v := by
  have hl : a.block < W.heap.size := by
    unfold World.cell? at h
    split at h
    · rename_i e
      exact (Array.getElem?_eq_some_iff.1 e).1
    · cases h
  rw [← h]
  unfold World.cell?
  rw [Below.heap_alloc W o a.block hl]
theorem rd_all (ws wt : List S34) (k : Nat) : rd_T34 (ws ++ bumpL wt) ((ws.length : Int) + (k : Int)) = rd_T34 (bumpL wt) k := by
  unfold rd_T34
  rw [show ((ws.length : Int) + (k : Int)).toNat = ws.length + k by omega, Int.toNat_natCast, List.getD_eq_getElem?_getD, List.getD_eq_getElem?_getD, List.getElem?_append_right (by omega), Nat.add_sub_cancel_left]
theorem rd_bump (wt : List S34) (k : Nat) (h : k ≠ 0) : rd_T34 (bumpL wt) (k : Int) = rd_T34 (headL wt) (k : Int) := by
  obtain ⟨k, rfl⟩ : ∃ m, k = m + 1 := ⟨k - 1, by omega⟩
  cases wt <;> rfl
set_option maxRecDepth 1000000 in
set_option maxHeartbeats 8000000 in
theorem joins_any (a0 a1 : ByteArray) (w : World) : Calls Try.prog 6 #[.string a0, .string a1] w fun e w' => e = .returned (.bool true) ∧ Below w.heap.size w w' := by
  have HS := Aside0.mk (fun w => gutterlaw07_shown.calls 10 true w shown_ok trivial)
  have HCS := Aside0.mk (cut_bstr a0 199)
  have HCT := Aside0.mk (cut_bstr a1 200)
  go_enter Try.func6, Try.ntmps6
  go_upto_region 2 with (go_at_call 11; refine (HS.out _).mono ?_; rintro e w1 ⟨rfl, hb⟩; have HB1 := Aside0.mk hb; clear hb)
  go_cut [0] from 15 to 20 (fun s0 wx => s0 = .string (bstr (a0.data.toList.take 199)) ∧ Aside0 (Below w.heap.size w wx))
  case first =>
    by_cases hz : a0.size ≤ 199
    · have hm : min (a0.size : Int) 199 = a0.size := by omega
      have HE := Aside0.mk (show a0 = bstr (a0.data.toList.take 199) by rw [List.take_of_length_le (by rw [Array.length_toList]; exact hz)]; rfl)
      go_wp2
      go_meet
      exact ⟨congrArg Value.string HE.out, HB1⟩
    · have hm : min (a0.size : Int) 199 = 199 := by omega
      go_wp2
      go_meet
      exact ⟨congrArg Value.string HCS.out, HB1⟩
  case rest =>
    obtain ⟨rfl, HB2⟩ := hcut
    rename World => w2
    clear HB1
    have hSl : (a0.data.toList.take 199).length ≤ 199 := List.length_take_le _ _
    generalize a0.data.toList.take 199 = S at *
    go_upto_region 3 with fail
    go_cut [1] from 20 to 25 (fun s1 wx => s1 = .string (bstr (a1.data.toList.take 200)) ∧ Aside0 (Below w.heap.size w wx))
    case first =>
      by_cases hz : a1.size ≤ 200
      · have hm : min (a1.size : Int) 200 = a1.size := by omega
        have HE := Aside0.mk (show a1 = bstr (a1.data.toList.take 200) by rw [List.take_of_length_le (by rw [Array.length_toList]; exact hz)]; rfl)
        go_wp2
        go_meet
        exact ⟨congrArg Value.string HE.out, HB2⟩
      · have hm : min (a1.size : Int) 200 = 200 := by omega
        go_wp2
        go_meet
        exact ⟨congrArg Value.string HCT.out, HB2⟩
    case rest =>
      obtain ⟨rfl, HB3⟩ := hcut
      rename World => w3
      clear HB2
      have hTl : (a1.data.toList.take 200).length ≤ 200 := List.length_take_le _ _
      generalize a1.data.toList.take 200 = T at *
      clear HCS HCT
      have hbs := bstr_size S
      have hbt := bstr_size T
      by_cases h0 : S = []
      · subst h0
        have e1 : (bstr []).toList = [] := by rw [Lib.toList_data]; rfl
        go_wp2
        go_ret
        exact ⟨rfl, HB3.out⟩
      · obtain ⟨U, c, rfl⟩ : ∃ u d, S = u ++ [d] := ⟨_, _, (List.dropLast_concat_getLast h0).symm⟩
        have e1 : (bstr (U ++ [c])).toList = U ++ [c] := by rw [Lib.toList_data]; rfl
        have e2 : (U ++ [c]).isEmpty = false := by simp
        have hlen : (U ++ [c]).length = U.length + 1 := by simp
        rw [hlen] at hbs hSl
        have hp : U.length < (bstr (U ++ [c])).size := by omega
        have hc : (bstr (U ++ [c]))[U.length]'hp = c := by rw [bstr_get]; simp
        clear hlen h0
        cases hg : gapB c
        · have h32 : ((c.toNat : Int) == 32) = false := by
            unfold gapB at hg
            rw [Bool.or_eq_false_iff] at hg
            exact hg.1
          have h10 : ((c.toNat : Int) == 10) = false := by
            unfold gapB at hg
            rw [Bool.or_eq_false_iff] at hg
            exact hg.2
          have hends : endsT (U ++ [c]) := fun u d e => by
            have := List.append_inj_right' e rfl
            injection this with e2 _
            rw [← e2]
            exact hg
          have hcat : (bstr (U ++ [c]) ++ (⟨#[10]⟩ : ByteArray)) ++ bstr T = bstr ((U ++ [c]) ++ 10 :: T) := by
            rw [show (⟨#[10]⟩ : ByteArray) = bstr [10] from rfl, bstr_app, bstr_app, List.append_assoc]
            rfl
          have hUl : (U ++ [c]).length ≤ 199 := by rw [List.length_append]; exact hSl
          obtain ⟨hj, hj0⟩ := words_join (U ++ [c]) T hends (by simp)
          have hwa : headL (wordsL ((U ++ [c]) ++ 10 :: T)) = headL (wordsL (U ++ [c])) ++ bumpL (wordsL T) := by rw [hj, head_app hj0]
          have HW1 := Aside0.mk (fun w => word_Words.calls (bstr (U ++ [c])) (headL (wordsL (U ++ [c]))) 0 w (by unfold word_Words.f; rw [if_pos (by rw [bstr_size]; omega)]; rfl) trivial)
          have HW2 := Aside0.mk (fun w => word_Words.calls (bstr T) (headL (wordsL T)) 0 w (by unfold word_Words.f; rw [if_pos (by rw [bstr_size]; omega)]; rfl) trivial)
          have HW3 := Aside0.mk (fun w => word_Words.calls (bstr ((U ++ [c]) ++ 10 :: T)) (headL (wordsL (U ++ [c])) ++ bumpL (wordsL T)) 0 w (by
            unfold word_Words.f
            rw [if_pos (by rw [bstr_size, List.length_append, List.length_cons]; omega)]
            show some (headL (wordsL ((U ++ [c]) ++ 10 :: T)), (0 : Int)) = _
            rw [hwa]) trivial)
          have hok := words_ok T
          have hlen : (wordsL T).length ≤ 200 := Nat.le_trans (wordsL_len T) hTl
          have hlen2 : (headL (wordsL (U ++ [c]))).length ≤ 199 := by rw [headL_len]; exact Nat.le_trans (wordsL_len _) hUl
          have hb1 : (bumpL (wordsL T)).length = (wordsL T).length := by cases wordsL T <;> rfl
          have hb2 : (headL (wordsL T)).length = (wordsL T).length := headL_len _
          have HCAT := Aside0.mk hcat
          have HLEN := Aside0.mk hb1
          have HLEN2 := Aside0.mk hb2
          have HOK := Aside0.mk hok
          clear hj hj0 hwa hends hcat hg hok hb1 hb2
          generalize headL (wordsL (U ++ [c])) = ws at *
          generalize wordsL T = wt at *
          go_upto_region 9 with (first | (go_at_call 12; (with_reducible refine (HW1.out _).mono ?_); rintro e w4 ⟨v1, rfl, hr, hb⟩; have HB4 := Aside0.mk (below_then HB3.out HB3.out.size hb); obtain ⟨A1, c1, rfl⟩ := Kd.R_slice hr; have HC1 := Aside0.mk (Kd.R_reads' hr).2; clear hb hr) | (go_at_call 12; (with_reducible refine (HW2.out _).mono ?_); rintro e w5 ⟨v2, rfl, hr, hb⟩; have HB5 := Aside0.mk (below_then HB4.out HB4.out.size hb); have HC15 := Aside0.mk (Kd.C_below HC1.out.2 hb); obtain ⟨A2, c2, rfl⟩ := Kd.R_slice hr; have HC2 := Aside0.mk (Kd.R_reads' hr).2; clear hb hr) | (go_at_call 12; refine calls_of_args (args' := #[.string (bstr ((U ++ [c]) ++ 10 :: T))]) (by rw [← HCAT.out]) ?_; (with_reducible refine (HW3.out _).mono ?_); rintro e w6 ⟨v3, rfl, hr, hb⟩; have HB6 := Aside0.mk (below_then HB5.out HB5.out.size hb); have HC16 := Aside0.mk (Kd.C_below HC15.out hb); have HC26 := Aside0.mk (Kd.C_below HC2.out.2 hb); obtain ⟨A3, c3, rfl⟩ := Kd.R_slice hr; have HC3 := Aside0.mk (Kd.R_reads' hr).2; clear hb hr))
          rw [HLEN.out, HLEN2.out]
          have hq : (((ws.length + wt.length : Nat) : Int) != (ws.length : Int) + (wt.length : Int)) = false := by simp
          clear e1 e2 h32 h10 hp hc hbs hbt hSl hUl
          go_wp2
          have hal : ((ws ++ bumpL wt).length : Int) = (ws.length : Int) + (wt.length : Int) := by rw [List.length_append, HLEN.out]; omega
          have hml : ((headL wt).length : Int) = (wt.length : Int) := by rw [HLEN2.out]
          have HAL := Aside0.mk hal
          have HML := Aside0.mk hml
          clear hal hml hq
          go_loopw [12] (fun i wr => ∃ k : Nat, k ≤ wt.length ∧ i = .int .i64 k ∧ Aside0 (Below w6.heap.size w6 wr)) (fun i _ => wt.length - (intOf i).toNat)
          case atStart => exact ⟨0, Nat.zero_le _, rfl, ⟨Below.refl _ _⟩⟩
          case round =>
            obtain ⟨k, hk, rfl, HB⟩ := hrel
            by_cases hlt : k < wt.length
            · have hkm : (k : Int) < ((headL wt).length : Int) := by rw [HML.out]; omega
              have hka : (ws.length : Int) + (k : Int) < ((ws ++ bumpL wt).length : Int) := by rw [HAL.out]; omega
              obtain ⟨ad2, ea2, hx0, hx1, hx2, hx3⟩ := at_T34 (Kd.C_below HC26.out HB.out) (k : Int) (by omega) hkm
              obtain ⟨ad3, ea3, hy0, hy1, hy2, hy3⟩ := at_T34 (Kd.C_below HC3.out.2 HB.out) ((ws.length : Int) + (k : Int)) (by omega) hka
              cases ea2
              cases ea3
              simp only [Int.toNat_natCast] at hx0 hx1 hx2 hx3
              rw [rd_all] at hy0 hy1 hy2 hy3
              have HBX := Aside0.mk (below_alloc HB.out (.cells #[.string (rd_T34 (headL wt) k).f0, .int .i64 (rd_T34 (headL wt) k).f1, .int .i64 (rd_T34 (headL wt) k).f2, .int .i64 (rd_T34 (headL wt) k).f3] 34))
              clear hkm hka
              by_cases hk0 : k = 0
              · subst hk0
                obtain ⟨x, m, rfl⟩ : ∃ x m, wt = x :: m := by
                  cases wt with
                  | nil => simp at hlt
                  | cons x m => exact ⟨x, m, rfl⟩
                obtain ⟨x0, x1, x2, x3⟩ := x
                obtain ⟨t, q1, q2, q3, q4, q5, q6, g1, g2⟩ := HOK.out _ (List.mem_cons_self)
                clear q1 q2 q3 q4 q5 q6
                have hg1 : 0 ≤ x3 := g1
                have hg2 : x3 ≤ 200 := by have : x3 ≤ (T.length : Int) := g2; omega
                clear g1 g2
                simp only [Nat.zero_mul, Addr.add_zero'] at hx0 hx1 hx2 hx3
                replace hx0 : wr.cell? ad2 = some (.string x0) := hx0
                replace hx1 : wr.cell? ⟨ad2.block, ad2.off + 1, none⟩ = some (.int .i64 x1) := hx1
                replace hx2 : wr.cell? ⟨ad2.block, ad2.off + 2, none⟩ = some (.int .i64 0) := hx2
                replace hx3 : wr.cell? ⟨ad2.block, ad2.off + 3, none⟩ = some (.int .i64 x3) := hx3
                have en : ((ws.length : Int) + ((0 : Nat) : Int)).toNat = ws.length := by omega
                rw [en] at hy0 hy1 hy2 hy3
                have yA0 : (wr.alloc (.cells #[.string x0, .int .i64 x1, .int .i64 0, .int .i64 (x3 + 1)] 34)).cell? (ad3.add (ws.length * 4)) = some (.string x0) := cell_old hy0 _
                have yA1 : (wr.alloc (.cells #[.string x0, .int .i64 x1, .int .i64 0, .int .i64 (x3 + 1)] 34)).cell? ⟨(ad3.add (ws.length * 4)).block, (ad3.add (ws.length * 4)).off + 1, none⟩ = some (.int .i64 x1) := cell_old hy1 _
                have yA2 : (wr.alloc (.cells #[.string x0, .int .i64 x1, .int .i64 0, .int .i64 (x3 + 1)] 34)).cell? ⟨(ad3.add (ws.length * 4)).block, (ad3.add (ws.length * 4)).off + 2, none⟩ = some (.int .i64 x2) := cell_old hy2 _
                have yA3 : (wr.alloc (.cells #[.string x0, .int .i64 x1, .int .i64 0, .int .i64 (x3 + 1)] 34)).cell? ⟨(ad3.add (ws.length * 4)).block, (ad3.add (ws.length * 4)).off + 3, none⟩ = some (.int .i64 (x3 + 1)) := cell_old hy3 _
                have yB0 : (wr.alloc (.cells #[.string x0, .int .i64 x1, .int .i64 x2, .int .i64 (x3 + 1)] 34)).cell? (ad3.add (ws.length * 4)) = some (.string x0) := cell_old hy0 _
                have yB1 : (wr.alloc (.cells #[.string x0, .int .i64 x1, .int .i64 x2, .int .i64 (x3 + 1)] 34)).cell? ⟨(ad3.add (ws.length * 4)).block, (ad3.add (ws.length * 4)).off + 1, none⟩ = some (.int .i64 x1) := cell_old hy1 _
                have yB2 : (wr.alloc (.cells #[.string x0, .int .i64 x1, .int .i64 x2, .int .i64 (x3 + 1)] 34)).cell? ⟨(ad3.add (ws.length * 4)).block, (ad3.add (ws.length * 4)).off + 2, none⟩ = some (.int .i64 x2) := cell_old hy2 _
                have yB3 : (wr.alloc (.cells #[.string x0, .int .i64 x1, .int .i64 x2, .int .i64 (x3 + 1)] 34)).cell? ⟨(ad3.add (ws.length * 4)).block, (ad3.add (ws.length * 4)).off + 3, none⟩ = some (.int .i64 (x3 + 1)) := cell_old hy3 _
                clear hy0 hy1 hy2 hy3
                have HBY := Aside0.mk (below_alloc HB.out (.cells #[.string x0, .int .i64 x1, .int .i64 x2, .int .i64 (x3 + 1)] 34))
                have hm1 : (0 : Int) ≤ (ws.length : Int) := by omega
                have hm2 : (ws.length : Int) < ((ws.length + (m.length + 1) : Nat) : Int) := by omega
                go_upto_region 18 with fail
                go_quiet (fail)
                go_wp2
                go_roundw
                case rel => exact ⟨1, by simp, by go_num, ⟨pw_below_drewN HBY.out _⟩⟩
                case measure => simp [intOf]
              · rw [rd_bump wt k hk0] at hy0 hy1 hy2 hy3
                generalize rd_T34 (headL wt) (k : Int) = x at *
                obtain ⟨x0, x1, x2, x3⟩ := x
                dsimp only at hx0 hx1 hx2 hx3 hy0 hy1 hy2 hy3 HBX
                have hz : ((k : Int) == 0) = false := by simp; omega
                have y0 : (wr.alloc (.cells #[.string x0, .int .i64 x1, .int .i64 x2, .int .i64 x3] 34)).cell? (ad3.add (((ws.length : Int) + (k : Int)).toNat * 4)) = some (.string x0) := cell_old hy0 _
                have y1 : (wr.alloc (.cells #[.string x0, .int .i64 x1, .int .i64 x2, .int .i64 x3] 34)).cell? ⟨(ad3.add (((ws.length : Int) + (k : Int)).toNat * 4)).block, (ad3.add (((ws.length : Int) + (k : Int)).toNat * 4)).off + 1, none⟩ = some (.int .i64 x1) := cell_old hy1 _
                have y2 : (wr.alloc (.cells #[.string x0, .int .i64 x1, .int .i64 x2, .int .i64 x3] 34)).cell? ⟨(ad3.add (((ws.length : Int) + (k : Int)).toNat * 4)).block, (ad3.add (((ws.length : Int) + (k : Int)).toNat * 4)).off + 2, none⟩ = some (.int .i64 x2) := cell_old hy2 _
                have y3 : (wr.alloc (.cells #[.string x0, .int .i64 x1, .int .i64 x2, .int .i64 x3] 34)).cell? ⟨(ad3.add (((ws.length : Int) + (k : Int)).toNat * 4)).block, (ad3.add (((ws.length : Int) + (k : Int)).toNat * 4)).off + 3, none⟩ = some (.int .i64 x3) := cell_old hy3 _
                clear hy0 hy1 hy2 hy3
                have i1 : (0 : Int) ≤ (ws.length : Int) + (k : Int) := by omega
                have i2 : (ws.length : Int) + (k : Int) < ((ws.length + wt.length : Nat) : Int) := by omega
                have i3 : IntKind.i64.wrap ((ws.length : Int) + (k : Int)) = (ws.length : Int) + (k : Int) := IntWalk.i64_in _ (by omega)
                go_upto_region 18 with fail
                go_quiet (fail)
                go_wp2
                go_roundw
                case rel => exact ⟨k + 1, by omega, by go_num, ⟨pw_below_drewN HBX.out _⟩⟩
                case measure => simp [intOf]; omega
            · have ek : k = wt.length := by omega
              subst ek
              obtain ⟨i0, hi, _, _, _⟩ := info_parts infoW
              have hc3 : ws.length + wt.length ≤ c3 := by have := HC3.out.1; rw [List.length_append, HLEN.out] at this; exact this
              have hcut := cut_to (P := Try.prog) 23 34 .i64 Try.underlying23 hi A3 (ws.length + wt.length) c3 (ws.length : Int) (by omega) (by omega) hc3
              rw [Int.toNat_natCast] at hcut
              have hrd : Kd.C k34 w6 A3 ws.length ws := by
                have h := Kd.C_take HC3.out.2 (m := ws.length) (by rw [List.length_append]; omega)
                have e : (ws ++ bumpL wt).take ws.length = ws := List.take_left
                rw [e] at h
                exact h
              have HSM := Aside0.mk (word_Same.calls 1000 A3 c3 ws A1 c1 ws true wr (Kd.C_below hrd HB.out) (by omega) (Kd.C_below HC16.out HB.out) HC1.out.1 (by rw [Same_is ws ws (by omega) 1000 (by omega), sameW_refl]))
              have HBF := Aside0.mk (below_then HB6.out HB6.out.size HB.out)
              clear hi hrd hc3
              go_wp2_with (go_at_call 20; refine HSM.out.mono ?_; rintro e w8 ⟨rfl, hb⟩; have HB8 := Aside0.mk (below_then HBF.out HBF.out.size hb); clear hb)
              go_ret
              exact ⟨rfl, HB8.out⟩
        · have hg2 : ((c.toNat : Int) == 32) = true ∨ (((c.toNat : Int) == 32) = false ∧ ((c.toNat : Int) == 10) = true) := by
            unfold gapB at hg
            cases h : ((c.toNat : Int) == 32)
            · rw [h, Bool.false_or] at hg; exact .inr ⟨rfl, hg⟩
            · exact .inl rfl
          clear hg
          rcases hg2 with h32 | ⟨h32, h10⟩
          · go_wp2
            go_ret
            exact ⟨rfl, HB3.out⟩
          · go_wp2
            go_ret
            exact ⟨rfl, HB3.out⟩
/-- The law's walk, in the form that a row asks for. -/
theorem gutterlaw07_WordJoins.walk (_ : True) (a0 a1 : ByteArray) (w : World) (_ : a0.size ≤ 140737488351232) (_ : a1.size ≤ 140737488351232) (_ : GOK w) : Calls Try.prog 6 #[.string a0, .string a1] w fun e w' => e = .returned (.bool true) ∧ Below w.heap.size w w' := joins_any a0 a1 w
theorem WordJoins : True := trivial
end Go.Proofs.Ytnfbfachabdahaa.G
