/- Chapter 7: WordBytes, walked by hand. Written by mkK1.py. -/
import Derived.Test.YtnfbfachabdahaaH3
namespace Go.Proofs.Ytnfbfachabdahaa.G
open Go.RowKit Go.Shelf Go.Proofs.YtnfbfachabdahaaW.PrintWords Go.Proofs.YtnfbfachabdahaaW.PrintLast Go.Proofs.YtnfbfachabdahaaW.PrintMore

def ngB (c : UInt8) : Bool := !gapB c
/-- The texts of some words, one behind the other. -/
def joinT (ws : List S34) : List UInt8 := ws.flatMap fun x => x.f0.data.toList
theorem joinT_snoc (ws : List S34) (x : S34) : joinT (ws ++ [x]) = joinT ws ++ x.f0.data.toList := by simp [joinT]
theorem join_head (ws : List S34) : joinT (headL ws) = joinT ws := by cases ws <;> rfl
theorem filter_ng (l : List UInt8) (h : ∀ c ∈ l, gapB c = false) : l.filter ngB = l := List.filter_eq_self.2 fun c hc => by unfold ngB; rw [h c hc]; rfl
theorem bytes_words (l : List UInt8) : joinT (wordsL l) = l.filter ngB := by
  refine words_ind (Q := fun l ws => joinT ws = l.filter ngB) (fun l ht => ?_) (fun l _ ih => ?_) l
  · have h1 := ahead_app l
    have ha : (aheadL l).filter ngB = [] := List.filter_eq_nil_iff.2 fun c hc => by
      have := List.all_eq_true.1 (List.all_takeWhile (p := gapB) (l := l)) c hc
      unfold ngB
      rw [this]
      decide
    have hr : afterL l = [] := by
      cases h : afterL l with
      | nil => rfl
      | cons c r =>
        have hg : gapB c = false := by
          have := List.head?_dropWhile_not gapB l
          rw [show l.dropWhile gapB = c :: r from h] at this
          simpa using this
        have : tokL l = c :: (runW (c, true) r).1 := by unfold tokL; rw [h, runW_some (stW_yes hg rfl)]
        rw [this] at ht
        cases ht
    rw [← h1, hr, List.append_nil, ha]
    rfl
  · have h1 := ahead_app l
    have h2 := tok_app l
    have ha : (aheadL l).filter ngB = [] := List.filter_eq_nil_iff.2 fun c hc => by
      have := List.all_eq_true.1 (List.all_takeWhile (p := gapB) (l := l)) c hc
      unfold ngB
      rw [this]
      decide
    have e : l.filter ngB = tokL l ++ (restL l).filter ngB := by
      conv => lhs; rw [← h1, ← h2, List.filter_append, List.filter_append, ha, List.nil_append, filter_ng (tokL l) (runW_nogap _ _)]
    rw [e, ← ih]
    rfl
theorem tI_cells (t : List UInt8) : Lib.byteCells t = nums .u8 (t.map fun b => (b.toNat : Int)) := by
  simp [Lib.byteCells, nums]
theorem str_back (t : List UInt8) : strOfNums (t.map fun b => (b.toNat : Int)) = bstr t := by
  unfold strOfNums bstr
  congr 2
  rw [List.map_map]
  conv => rhs; rw [← List.map_id t]
  apply List.map_congr_left
  intro c _
  simp
theorem conv_row {w : World} {base n : Nat} {v : Value} {t : List UInt8} (h : w.ownsRow base 5 1 v n (Lib.byteCells t)) : (convert 32 9 v).run Try.prog w = .ok (.string (bstr t)) w := by
  rw [tI_cells] at h
  rw [own_string Try.underlying32 Try.underlying5 Try.underlying9 h, str_back]
set_option maxRecDepth 1000000 in
set_option maxHeartbeats 8000000 in
theorem bytes_any (a0 : ByteArray) (w : World) : Calls Try.prog 4 #[.string a0] w fun e w' => e = .returned (.bool true) ∧ Below w.heap.size w w' := by
  obtain ⟨i0, hi, hz0, hz1, hz2⟩ := info_parts info5
  have HI := Aside0.mk hi
  obtain ⟨l, hla⟩ : ∃ l, cutL a0 = bstr l := ⟨_, (bstr_data _).symm⟩
  have hll : l.length ≤ 410 := by
    have := cutL_size a0
    rw [hla, bstr_size] at this
    exact this
  have HS := Aside0.mk (fun w => gutterlaw07_shown.calls 10 true w shown_ok trivial)
  have HC := Aside0.mk (fun w => gutterlaw07_cut.calls a0 (bstr l) w ((cut_is a0).trans (by rw [hla])))
  clear hi hla
  have hbs := bstr_size l
  by_cases h4 : l.length ≤ 400
  · have HW := Aside0.mk (fun w => word_Words.calls (bstr l) (headL (wordsL l)) 0 w (by unfold word_Words.f; rw [if_pos (by rw [bstr_size]; exact h4)]; rfl) trivial)
    go_enter Try.func4, Try.ntmps4
    go_wp2_with (first | (go_at_call 11; refine (HS.out _).mono ?_; rintro e w1 ⟨rfl, hb⟩; have HB1 := Aside0.mk hb; clear hb) | (go_at_call 13; refine (HC.out _).mono ?_; rintro e w2 ⟨rfl, hb⟩; have HB2 := Aside0.mk (below_then HB1.out HB1.out.size hb); clear hb) | (go_at_call 12; refine (HW.out _).mono ?_; rintro e w3 ⟨v, rfl, hr, hb⟩; have HB3 := Aside0.mk (below_then HB2.out HB2.out.size hb); obtain ⟨A, c, rfl⟩ := Kd.R_slice hr; have HRC := Aside0.mk (Kd.R_reads' hr).2.2; clear hb hr))
    have HJ := Aside0.mk (show joinT (headL (wordsL l)) = l.filter ngB by rw [join_head, bytes_words])
    have hwl : (headL (wordsL l)).length ≤ 400 := by rw [headL_len]; have := wordsL_len l; omega
    have HSZ := Aside0.mk (show ∀ k, (joinT ((headL (wordsL l)).take k)).length ≤ 410 from fun k => by
      have h1 : (joinT (headL (wordsL l))).length ≤ l.length := by rw [HJ.out]; exact List.length_filter_le _ _
      have h2 : joinT (headL (wordsL l)) = joinT ((headL (wordsL l)).take k) ++ joinT ((headL (wordsL l)).drop k) := by
        unfold joinT
        rw [← List.flatMap_append, List.take_append_drop]
      rw [h2, List.length_append] at h1
      omega)
    clear HS HC HW
    generalize headL (wordsL l) = ws at *
    go_loopw [6, 8] (fun a i wr => ∃ k : Nat, k ≤ l.length ∧ i = .int .i64 k ∧ Aside0 (wr.ownsRow w3.heap.size 5 1 a ((l.take k).filter ngB).length (Lib.byteCells ((l.take k).filter ngB))) ∧ Aside0 (Below w3.heap.size w3 wr)) (fun _ i _ => l.length - (intOf i).toNat)
    case atStart => exact ⟨0, Nat.zero_le _, rfl, ⟨World.ownsRow_nil _ _ _ _⟩, ⟨Below.refl _ _⟩⟩
    case round =>
      obtain ⟨k, hk, rfl, HO, HB⟩ := hrel
      by_cases hlt : k < l.length
      · have hp : k < (bstr l).size := by rw [bstr_size]; exact hlt
        have hc : (bstr l)[k]'hp = l[k] := bstr_get l k hp
        have HT := Aside0.mk (show l.take (k + 1) = l.take k ++ [l[k]] from List.take_succ_eq_append_getElem hlt)
        have hfl : ((l.take k).filter ngB).length ≤ 410 := Nat.le_trans (List.length_filter_le _ _) (by rw [List.length_take]; omega)
        have hsz := HB.out.size
        generalize l[k] = ch at *
        generalize hff : (l.take k).filter ngB = fl at *
        have HFF := Aside0.mk hff
        clear hff
        cases h32 : ((ch.toNat : Int) == 32)
        · have g32 : ((ch.toNat : Int) != 32) = true := by simp [bne, h32]
          cases h10 : ((ch.toNat : Int) == 10)
          · have g10 : ((ch.toNat : Int) != 10) = true := by simp [bne, h10]
            have HNG := Aside0.mk (show (l.take (k + 1)).filter ngB = fl ++ [ch] by rw [HT.out, List.filter_append, HFF.out]; simp [ngB, gapB, h32, h10])
            go_wp2_with (at_builtin; refine wpList_append_own _ rfl _ _ 32 rfl w3.heap.size 5 i0 (.int .u8 0) 1 1 Try.underlying32 HI.out hz0 hz1 hz2 rfl (by decide) _ _ _ rfl (HO.out.alloc _) ⟨_, 0, none⟩ 1 1 [.int .u8 ch.toNat] rfl rfl (cell_one_new _ _ _) (by simp [Value.oneCell']) (by unfold maxLen; omega) (by omega) (Nat.le_trans hsz (World.grownBy_alloc _ _ none).size) ?_; intro v' w4 hown' hgrow _; have HO4 := Aside0.mk hown'; have HB4 := Aside0.mk ((HB.out.alloc hsz _).grown hgrow (Nat.le_trans hsz (World.grownBy_alloc _ _ none).size) (fun j hj => (HO.out.lt j hj).1)); clear hown' hgrow)
            go_roundw
            case rel => exact ⟨k + 1, by omega, by go_num, ⟨by rw [HNG.out]; simpa [Lib.byteCells] using HO4.out⟩, HB4⟩
            case measure => simp [intOf]; omega
          · have g10 : ((ch.toNat : Int) != 10) = false := by simp [bne, h10]
            have HNG := Aside0.mk (show (l.take (k + 1)).filter ngB = fl by rw [HT.out, List.filter_append, HFF.out]; simp [ngB, gapB, h32, h10])
            go_wp2
            go_roundw
            case rel => exact ⟨k + 1, by omega, by go_num, ⟨by rw [HNG.out]; exact HO.out⟩, HB⟩
            case measure => simp [intOf]; omega
        · have g32 : ((ch.toNat : Int) != 32) = false := by simp [bne, h32]
          have HNG := Aside0.mk (show (l.take (k + 1)).filter ngB = fl by rw [HT.out, List.filter_append, HFF.out]; simp [ngB, gapB, h32])
          go_wp2
          go_roundw
          case rel => exact ⟨k + 1, by omega, by go_num, ⟨by rw [HNG.out]; exact HO.out⟩, HB⟩
          case measure => simp [intOf]; omega
      · have ek : k = l.length := by omega
        subst ek
        rw [List.take_length] at HO
        rename World => w4
        have HRC4 := Aside0.mk (Kd.C_below HRC.out HB.out)
        have HB5 := Aside0.mk (below_then HB3.out HB3.out.size HB.out)
        clear HRC HB3 HB2 HB1
        go_wp2
        go_loopw [7, 9] (fun b i wr => ∃ k : Nat, k ≤ ws.length ∧ i = .int .i64 k ∧ Aside0 (wr.ownsRow w4.heap.size 5 1 b (joinT (ws.take k)).length (Lib.byteCells (joinT (ws.take k)))) ∧ Aside0 (Below w4.heap.size w4 wr)) (fun _ i _ => ws.length - (intOf i).toNat)
        case atStart => exact ⟨0, Nat.zero_le _, rfl, ⟨World.ownsRow_nil _ _ _ _⟩, ⟨Below.refl _ _⟩⟩
        case round =>
          obtain ⟨k, hk, rfl, HO2, HB2⟩ := hrel
          rename World => w5
          by_cases hlt : k < ws.length
          · obtain ⟨ad, ea, hx0, _, _, _⟩ := at_T34 (Kd.C_below HRC4.out HB2.out) (k : Int) (by omega) (by omega)
            cases ea
            simp only [Int.toNat_natCast] at hx0
            have hsz := HB2.out.size
            have HT := Aside0.mk (show joinT (ws.take (k + 1)) = joinT (ws.take k) ++ (rd_T34 ws k).f0.data.toList by rw [take34_rd ws k hlt, joinT_snoc])
            have hle := HSZ.out (k + 1)
            rw [HT.out, List.length_append, Array.length_toList] at hle
            generalize (rd_T34 ws k).f0 = x0 at *
            have hle2 : (joinT (ws.take k)).length + x0.size ≤ 410 := hle
            clear hle
            generalize joinT (ws.take k) = jt at *
            go_wp2_with (at_builtin; refine Lib.wpList_append_own_string _ rfl _ _ 32 9 rfl w4.heap.size 5 i0 Try.underlying32 Try.underlying9 HI.out hz0 hz1 hz2 _ _ _ rfl HO2.out x0 rfl (by unfold maxLen; omega) (by omega) hsz ?_; intro v' w6 hown' hgrow _; have HO6 := Aside0.mk hown'; have HB6 := Aside0.mk (HB2.out.grown hgrow hsz (fun j hj => (HO2.out.lt j hj).1)); clear hown' hgrow)
            go_roundw
            case rel => exact ⟨k + 1, by omega, by go_num, ⟨by rw [HT.out, List.length_append, Array.length_toList]; simpa [Lib.byteCells, Lib.strCells] using HO6.out⟩, HB6⟩
            case measure => simp [intOf]; omega
          · have ek : k = ws.length := by omega
            subst ek
            rw [List.take_length, HJ.out] at HO2
            have k1 := conv_row (pw_own_below HO.out HB2.out)
            have k2 := conv_row HO2.out
            have HBF := Aside0.mk (below_then HB5.out HB5.out.size HB2.out)
            clear HO HO2 HB HB2 HRC4 HJ HSZ
            go_wp2
            go_ret
            exact ⟨by first | rfl | (simp; done), HBF.out⟩
  · have HW := Aside0.mk (fun w => word_Words.calls (bstr l) [] 70 w (by unfold word_Words.f; rw [if_neg (by rw [bstr_size]; exact h4), if_pos (by rw [bstr_size]; omega)]) trivial)
    go_enter Try.func4, Try.ntmps4
    go_wp2_with (first | (go_at_call 11; refine (HS.out _).mono ?_; rintro e w1 ⟨rfl, hb⟩; have HB1 := Aside0.mk hb; clear hb) | (go_at_call 13; refine (HC.out _).mono ?_; rintro e w2 ⟨rfl, hb⟩; have HB2 := Aside0.mk (below_then HB1.out HB1.out.size hb); clear hb) | (go_at_call 12; refine (HW.out _).mono ?_; rintro e w3 ⟨v, rfl, hr, hb⟩; have HB3 := Aside0.mk (below_then HB2.out HB2.out.size hb); clear hb hr))
    go_ret
    exact ⟨rfl, HB3.out⟩
/-- The law's walk, in the form that a row asks for. -/
theorem gutterlaw07_WordBytes.walk (_ : True) (a0 : ByteArray) (w : World) (_ : a0.size ≤ 140737488351232) (_ : GOK w) : Calls Try.prog 4 #[.string a0] w fun e w' => e = .returned (.bool true) ∧ Below w.heap.size w w' := bytes_any a0 w
theorem WordBytes : True := trivial
end Go.Proofs.Ytnfbfachabdahaa.G
