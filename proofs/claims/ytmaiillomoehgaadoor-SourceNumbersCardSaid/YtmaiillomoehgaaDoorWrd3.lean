/- Walks of the reference of package source: blank, words. -/
import Derived.Test.YtmaiillomoehgaaDoorWrd1
import Derived.Test.YtmaiillomoehgaaDoorEq
namespace Go.Proofs.YtmaiillomoehgaaDoor
open Go.RowKit
theorem ref_blank (c : UInt8) {b : Bool} (hb : blk c = b) (w : World) :
    Calls Tryd.prog 49 #[.int .u8 c.toNat] w fun e w' => e = .returned (.bool b) ∧ w = w' := by
  have hc8 := UInt8.toNat_lt c
  have H := Lib.hid hb
  clear hb
  by_cases h1 : c.toNat = 32
  · have : b = true := by rw [← H.out, blk, show c = 32 from UInt8.toNat_inj.1 h1]; rfl
    subst this
    have g1 := (eqB 32 (show (c.toNat : Int) = 32 by omega)).2
    clear h1 H
    go_enter Tryd.func49, Tryd.ntmps49
    go_wp2
    go_ret
    exact ⟨rfl, rfl⟩
  · have g1 := (neqB 32 (show (c.toNat : Int) ≠ 32 by omega)).2
    by_cases h2 : c.toNat = 9
    · have : b = true := by rw [← H.out, blk, show c = 9 from UInt8.toNat_inj.1 h2]; rfl
      subst this
      have g2 := (eqB 9 (show (c.toNat : Int) = 9 by omega)).2
      clear h1 h2 H
      go_enter Tryd.func49, Tryd.ntmps49
      go_wp2
      go_ret
      exact ⟨rfl, rfl⟩
    · have : b = false := by
        rw [← H.out, blk, Bool.or_eq_false_iff, beq_eq_false_iff_ne, beq_eq_false_iff_ne]
        exact ⟨fun h => h1 (by rw [h]; rfl), fun h => h2 (by rw [h]; rfl)⟩
      subst this
      have g2 := (neqB 9 (show (c.toNat : Int) ≠ 9 by omega)).2
      clear h1 h2 H
      go_enter Tryd.func49, Tryd.ntmps49
      go_wp2
      go_ret
      exact ⟨rfl, rfl⟩
theorem sepB_iff (c : UInt8) : sepB c = true ↔ c.toNat = 44 ∨ c.toNat = 61 := by
  simp only [sepB, Bool.or_eq_true, beq_iff_eq]
  constructor
  · rintro (rfl | rfl)
    · exact .inl rfl
    · exact .inr rfl
  · rintro (h | h)
    · exact .inl (UInt8.toNat_inj.1 h)
    · exact .inr (UInt8.toNat_inj.1 h)
theorem wGo_blank {c : UInt8} (l cur : List UInt8) (h35 : ¬ c = 35) (h : blk c = true) : wGo (c :: l) cur = flush cur ++ wGo l [] := by
  rw [wGo, if_neg h35, if_pos h]
theorem wGo_sep {c : UInt8} (l cur : List UInt8) (h35 : ¬ c = 35) (h0 : blk c = false) (h : sepB c = true) : wGo (c :: l) cur = flush cur ++ [c] :: wGo l [] := by
  rw [wGo, if_neg h35, h0, if_neg Bool.false_ne_true, if_pos h]
theorem wGo_stop (l cur : List UInt8) (h35 : ∀ c ∈ l, c ≠ 35) (h : l = [] ∨ ∃ c t, l = c :: t ∧ (blk c = true ∨ sepB c = true)) : wGo l cur = flush cur ++ wGo l [] := by
  rcases h with rfl | ⟨c, t, rfl, h⟩
  · simp [wGo, flush]
  · have hc := h35 c (by simp)
    by_cases hb : blk c = true
    · rw [wGo_blank t cur hc hb, wGo_blank t [] hc hb]; simp [flush]
    · rcases h with h | h
      · exact absurd h hb
      · have hb' : blk c = false := by simpa using hb
        rw [wGo_sep t cur hc hb' h, wGo_sep t [] hc hb' h]; simp [flush]
set_option maxHeartbeats 8000000 in
theorem ref_words (s : ByteArray) (hs : s.size ≤ 4398046511104) (h35 : ∀ c ∈ s.data.toList, c ≠ 35) (w : World) :
    Calls Tryd.prog 43 #[.string s] w fun e w' => ∃ v, e = .returned v ∧ w'.ownsRow w.heap.size 9 1 v (wordsL s.data.toList).length (strCells (wordsL s.data.toList)) ∧ Below w.heap.size w w' := by
  have HLN := Lib.hid (size_len s)
  have H35 := Lib.hid h35
  clear h35
  go_enter Tryd.func43, Tryd.ntmps43
  go_wp2
  go_loopw [3, 4] (fun v i wr => ∃ (k : Nat) (out : List (List UInt8)), k ≤ s.size ∧ i = .int .i64 k ∧ wr.ownsRow w.heap.size 9 1 v out.length (strCells out) ∧ wordsL s.data.toList = out ++ wGo (s.data.toList.drop k) [] ∧ Below w.heap.size w wr ∧ out.length ≤ k)
    (fun _ i _ => s.size - (intOf i).toNat)
  case atStart => exact ⟨0, [], by omega, rfl, World.ownsRow_nil _ _ _ _, rfl, Below.refl _ _, by simp⟩
  case round =>
    obtain ⟨k, out, hk, rfl, hown, hg, hb, hol⟩ := hrel
    have HO := Lib.hid hown
    have HG := Lib.hid hg
    have HB := Lib.hid hb
    have hsz := hb.size
    obtain ⟨wo, rfl⟩ : ∃ wo : World, wo = wr := ⟨_, rfl⟩
    clear hown hg hb
    by_cases hlt : k < s.size
    · have hltL : k < s.data.toList.length := by rw [← HLN.out]; exact hlt
      have hc8 := UInt8.toNat_lt s[k]
      have hc35 : ¬ s.data.toList[k] = 35 := H35.out _ (List.getElem_mem hltL)
      have HC35 := Lib.hid hc35
      clear hc35
      obtain ⟨bb, hbb⟩ : ∃ b, blk s[k] = b := ⟨_, rfl⟩
      have HBB := Lib.hid hbb
      clear hbb
      cases bb
      · by_cases hsp : sepB s[k] = true
        · have hx := (sepB_iff s[k]).1 hsp
          have HN : Hid (wordsL s.data.toList = (out ++ [[s.data.toList[k]]]) ++ wGo (s.data.toList.drop (k + 1)) []) := Lib.hid (by rw [HG.out, List.drop_eq_getElem_cons hltL, wGo_sep _ _ HC35.out HBB.out hsp]; simp [flush])
          have HONE : Hid ((s.data.toList.drop k).take (k + 1 - k) = [s.data.toList[k]]) := Lib.hid (by rw [show k + 1 - k = 1 by omega, List.drop_eq_getElem_cons hltL]; rfl)
          clear hsp
          rcases hx with h | h
          · have g1 := (eqB 44 (show (s[k].toNat : Int) = 44 by omega)).1
            clear h
            go_wp2_with (first | (go_at_call 49; refine (ref_blank s[k] HBB.out _).mono ?_; rintro e w' ⟨rfl, rfl⟩) | (at_builtin; refine wpList_append_new rfl _ _ 29 rfl w.heap.size 9 _ (.string ⟨#[]⟩) 1 16 Tryd.underlying29 infoStr rfl (by decide) _ _ _ rfl HO.out _ rfl rfl (by intro u hu; simp at hu; subst hu; rfl) (by omega) (by decide) hsz ?_; intro v1 w1 h1 hb1 _ _))
            go_roundw
            case rel => exact ⟨k + 1, out ++ [[s.data.toList[k]]], by omega, by go_num, by rw [strCells_snoc, List.length_append, ← HONE.out, ← ext_str]; exact h1, HN.out, HB.out.trans hb1, by simp; omega⟩
            case measure => simp [intOf]; omega
          · have g1 := (neqB 44 (show (s[k].toNat : Int) ≠ 44 by omega)).1
            have g2 := (eqB 61 (show (s[k].toNat : Int) = 61 by omega)).1
            clear h
            go_wp2_with (first | (go_at_call 49; refine (ref_blank s[k] HBB.out _).mono ?_; rintro e w' ⟨rfl, rfl⟩) | (at_builtin; refine wpList_append_new rfl _ _ 29 rfl w.heap.size 9 _ (.string ⟨#[]⟩) 1 16 Tryd.underlying29 infoStr rfl (by decide) _ _ _ rfl HO.out _ rfl rfl (by intro u hu; simp at hu; subst hu; rfl) (by omega) (by decide) hsz ?_; intro v1 w1 h1 hb1 _ _))
            go_roundw
            case rel => exact ⟨k + 1, out ++ [[s.data.toList[k]]], by omega, by go_num, by rw [strCells_snoc, List.length_append, ← HONE.out, ← ext_str]; exact h1, HN.out, HB.out.trans hb1, by simp; omega⟩
            case measure => simp [intOf]; omega
        · have hsp' : sepB s[k] = false := by simpa using hsp
          have hx : ¬ (s[k].toNat = 44 ∨ s[k].toNat = 61) := fun h => hsp ((sepB_iff _).2 h)
          have g1 := (neqB 44 (show (s[k].toNat : Int) ≠ 44 by omega)).1
          have g2 := (neqB 61 (show (s[k].toNat : Int) ≠ 61 by omega)).1
          have HPL : Hid (plainB s[k] = true) := Lib.hid (by rw [plainB, HBB.out, hsp']; rfl)
          clear hsp hsp' hx
          go_wp2_with (go_at_call 49; refine (ref_blank s[k] HBB.out _).mono ?_; rintro e w' ⟨rfl, rfl⟩)
          clear g1 g2
          go_loop [5] (fun n => ∃ m : Nat, 1 ≤ m ∧ k + m ≤ s.size ∧ n = .int .i64 m ∧ ∀ c ∈ (s.data.toList.drop k).take m, plainB c = true) (fun n => s.size - (intOf n).toNat)
          case atStart =>
            refine ⟨1, by omega, by omega, rfl, fun c hc => ?_⟩
            rw [List.drop_eq_getElem_cons hltL] at hc
            simp at hc
            rw [hc]; exact HPL.out
          case round =>
            obtain ⟨m, hm1, hm2, rfl, hpl⟩ := hrel
            have HM := Lib.hid hpl
            clear hpl
            have hkm : ((k : Int) + (m : Int)).toNat = k + m := by omega
            have stop : ∀ l : List UInt8, s.data.toList.drop (k + m) = l → (l = [] ∨ ∃ c t, l = c :: t ∧ (blk c = true ∨ sepB c = true)) → wGo (s.data.toList.drop k) [] = (s.data.toList.drop k).take m :: wGo (s.data.toList.drop (k + m)) [] := fun l hl hs' => by
              have h1 : s.data.toList.drop k = (s.data.toList.drop k).take m ++ s.data.toList.drop (k + m) := by
                rw [← List.drop_drop]; exact (List.take_append_drop m _).symm
              have hne : ¬ (s.data.toList.drop k).take m = [] := by
                intro h; have := congrArg List.length h; simp at this; omega
              conv => lhs; rw [h1]
              rw [wGo_plain _ _ _ fun c hc => ⟨HM.out c hc, H35.out c (List.mem_of_mem_drop (List.mem_of_mem_take hc))⟩, List.nil_append,
                wGo_stop _ _ (fun c hc => H35.out c (List.mem_of_mem_drop hc)) (by rw [hl]; exact hs'), flush, if_neg hne]
              rfl
            have STOP := Lib.hid stop
            clear stop
            have fin : ∀ v1 w1, Below w.heap.size wo w1 → w1.ownsRow w.heap.size 9 1 v1 (out.length + 1) (strCells out ++ [.string (s.extract k (k + m))]) → wGo (s.data.toList.drop k) [] = (s.data.toList.drop k).take m :: wGo (s.data.toList.drop (k + m)) [] →
                ∃ (k' : Nat) (out' : List (List UInt8)), k' ≤ s.size ∧ Value.int .i64 ((k : Int) + (m : Int)) = .int .i64 k' ∧ w1.ownsRow w.heap.size 9 1 v1 out'.length (strCells out') ∧ wordsL s.data.toList = out' ++ wGo (s.data.toList.drop k') [] ∧ Below w.heap.size w w1 ∧ out'.length ≤ k' := fun v1 w1 hb1 h1 hs' => by
              refine ⟨k + m, out ++ [(s.data.toList.drop k).take m], hm2, by go_num, ?_, ?_, HB.out.trans hb1, by simp; omega⟩
              · rw [strCells_snoc, List.length_append]
                rw [ext_str, show k + m - k = m by omega] at h1
                exact h1
              · rw [HG.out, hs', List.append_assoc]; rfl
            have FIN := Lib.hid fin
            clear fin
            by_cases hlm : k + m < s.size
            · have hlmL : k + m < s.data.toList.length := by rw [← HLN.out]; exact hlm
              have hd8 := UInt8.toNat_lt s[k + m]
              have hlm' : (k : Int) + (m : Int) < (s.size : Int) := by omega
              obtain ⟨b2, hb2⟩ : ∃ b, blk s[k + m] = b := ⟨_, rfl⟩
              have HB2 := Lib.hid hb2
              clear hb2
              cases b2
              · by_cases hsp2 : sepB s[k + m] = true
                · have hx := (sepB_iff s[k + m]).1 hsp2
                  have HSP := Lib.hid hsp2
                  clear hsp2
                  rcases hx with h | h
                  · have g1 := (eqB 44 (show (s[k + m].toNat : Int) = 44 by omega)).1
                    clear h
                    have HS := Lib.hid (STOP.out _ (List.drop_eq_getElem_cons hlmL) (.inr ⟨_, _, rfl, .inr HSP.out⟩))
                    go_wp2_with (first | (go_at_call 49; refine (ref_blank s[k + m] HB2.out _).mono ?_; rintro e w' ⟨rfl, rfl⟩) | (at_builtin; refine wpList_append_new rfl _ _ 29 rfl w.heap.size 9 _ (.string ⟨#[]⟩) 1 16 Tryd.underlying29 infoStr rfl (by decide) _ _ _ rfl HO.out _ rfl rfl (by intro u hu; simp at hu; subst hu; rfl) (by omega) (by decide) hsz ?_; intro v1 w1 h1 hb1 _ _))
                    go_roundw
                    case rel => exact FIN.out _ _ hb1 h1 HS.out
                    case measure => simp [intOf]; omega
                  · have g1 := (neqB 44 (show (s[k + m].toNat : Int) ≠ 44 by omega)).1
                    have g2 := (eqB 61 (show (s[k + m].toNat : Int) = 61 by omega)).1
                    clear h
                    have HS := Lib.hid (STOP.out _ (List.drop_eq_getElem_cons hlmL) (.inr ⟨_, _, rfl, .inr HSP.out⟩))
                    go_wp2_with (first | (go_at_call 49; refine (ref_blank s[k + m] HB2.out _).mono ?_; rintro e w' ⟨rfl, rfl⟩) | (at_builtin; refine wpList_append_new rfl _ _ 29 rfl w.heap.size 9 _ (.string ⟨#[]⟩) 1 16 Tryd.underlying29 infoStr rfl (by decide) _ _ _ rfl HO.out _ rfl rfl (by intro u hu; simp at hu; subst hu; rfl) (by omega) (by decide) hsz ?_; intro v1 w1 h1 hb1 _ _))
                    go_roundw
                    case rel => exact FIN.out _ _ hb1 h1 HS.out
                    case measure => simp [intOf]; omega
                · have hsp' : sepB s[k + m] = false := by simpa using hsp2
                  have hx : ¬ (s[k + m].toNat = 44 ∨ s[k + m].toNat = 61) := fun h => hsp2 ((sepB_iff _).2 h)
                  have g1 := (neqB 44 (show (s[k + m].toNat : Int) ≠ 44 by omega)).1
                  have g2 := (neqB 61 (show (s[k + m].toNat : Int) ≠ 61 by omega)).1
                  have HPM : Hid (plainB s[k + m] = true) := Lib.hid (by rw [plainB, HB2.out, hsp']; rfl)
                  have HTK : Hid ((s.data.toList.drop k).take (m + 1) = (s.data.toList.drop k).take m ++ [s[k + m]]) := Lib.hid (by
                    rw [List.take_succ_eq_append_getElem (by simp; omega), List.getElem_drop]; rfl)
                  clear hsp2 hsp' hx
                  go_wp2_with (go_at_call 49; refine (ref_blank s[k + m] HB2.out _).mono ?_; rintro e w' ⟨rfl, rfl⟩)
                  go_round
                  case rel =>
                    refine ⟨m + 1, by omega, by omega, by go_num, fun c hc => ?_⟩
                    rw [HTK.out, List.mem_append] at hc
                    rcases hc with hc | hc
                    · exact HM.out c hc
                    · rw [List.mem_singleton.1 hc]; exact HPM.out
                  case measure => simp [intOf]; omega
              · have HSP := HB2
                have HS := Lib.hid (STOP.out _ (List.drop_eq_getElem_cons hlmL) (.inr ⟨_, _, rfl, .inl HSP.out⟩))
                go_wp2_with (first | (go_at_call 49; refine (ref_blank s[k + m] HB2.out _).mono ?_; rintro e w' ⟨rfl, rfl⟩) | (at_builtin; refine wpList_append_new rfl _ _ 29 rfl w.heap.size 9 _ (.string ⟨#[]⟩) 1 16 Tryd.underlying29 infoStr rfl (by decide) _ _ _ rfl HO.out _ rfl rfl (by intro u hu; simp at hu; subst hu; rfl) (by omega) (by decide) hsz ?_; intro v1 w1 h1 hb1 _ _))
                go_roundw
                case rel => exact FIN.out _ _ hb1 h1 HS.out
                case measure => simp [intOf]; omega
            · have hlm' : ¬ ((k : Int) + (m : Int) < (s.size : Int)) := by omega
              have HS := Lib.hid (STOP.out [] (List.drop_of_length_le (by rw [← HLN.out]; omega)) (.inl rfl))
              go_wp2_with (at_builtin; refine wpList_append_new rfl _ _ 29 rfl w.heap.size 9 _ (.string ⟨#[]⟩) 1 16 Tryd.underlying29 infoStr rfl (by decide) _ _ _ rfl HO.out _ rfl rfl (by intro u hu; simp at hu; subst hu; rfl) (by omega) (by decide) hsz ?_; intro v1 w1 h1 hb1 _ _)
              go_roundw
              case rel => exact FIN.out _ _ hb1 h1 HS.out
              case measure => simp [intOf]; omega
      · have HN : Hid (wordsL s.data.toList = out ++ wGo (s.data.toList.drop (k + 1)) []) := Lib.hid (by rw [HG.out, List.drop_eq_getElem_cons hltL, wGo_blank _ _ HC35.out HBB.out]; simp [flush])
        go_wp2_with (go_at_call 49; refine (ref_blank s[k] HBB.out _).mono ?_; rintro e w' ⟨rfl, rfl⟩)
        go_roundw
        case rel => exact ⟨k + 1, out, by omega, by go_num, HO.out, HN.out, HB.out, by omega⟩
        case measure => simp [intOf]; omega
    · obtain rfl : k = s.size := by omega
      have hfin : wordsL s.data.toList = out := by rw [HG.out, List.drop_of_length_le (by rw [← HLN.out]; exact Nat.le_refl _), wGo]; simp [flush]
      have HF := Lib.hid hfin
      clear hfin
      go_wp2
      go_ret
      exact ⟨_, rfl, by rw [HF.out]; exact HO.out, HB.out⟩
end Go.Proofs.YtmaiillomoehgaaDoor
