/- Walks of package source: words (printed by gen_wrd2.py). -/
import Derived.Test.YtmaiillomoehgaaDoorWrd1
import Derived.Test.YtmaiillomoehgaaDoorEq
import Derived.Deep.Onto
import Derived.IntWalk
namespace Go.Proofs.YtmaiillomoehgaaDoor
open Go.RowKit
theorem plain_of {c : UInt8} (h : c.toNat ≠ 35 ∧ c.toNat ≠ 32 ∧ c.toNat ≠ 9 ∧ c.toNat ≠ 44 ∧ c.toNat ≠ 61) : ¬ c = 35 ∧ blk c = false ∧ sepB c = false := by
  have hn : ∀ d : UInt8, c.toNat ≠ d.toNat → ¬ c = d := fun d h1 h2 => h1 (by rw [h2])
  obtain ⟨h1, h2, h3, h4, h5⟩ := h
  refine ⟨hn 35 h1, ?_, ?_⟩
  · simp only [blk, Bool.or_eq_false_iff, beq_eq_false_iff_ne]; exact ⟨hn 32 h2, hn 9 h3⟩
  · simp only [sepB, Bool.or_eq_false_iff, beq_eq_false_iff_ne]; exact ⟨hn 44 h4, hn 61 h5⟩
theorem word_cases (c : Nat) : c = 35 ∨ c = 32 ∨ c = 9 ∨ c = 44 ∨ c = 61 ∨ (c ≠ 35 ∧ c ≠ 32 ∧ c ≠ 9 ∧ c ≠ 44 ∧ c ≠ 61) := by omega
/-- what the closure appends is the word that was being read -/
theorem ws_cur {B : Nat} {s : ByteArray} {out : List (List UInt8)} {st : Int} {v v' : Value} {w w' : World} {k : Nat} {cur : List UInt8} (_ : WS B s out st v w) (hc : Hid (CurAt s.data.toList k st cur)) (h : WS B s (out ++ if st < 0 then [] else [(s.data.toList.drop st.toNat).take (k - st.toNat)]) (-1) v' w') : WS B s (out ++ flush cur) (-1) v' w' := by
  rw [hc.out.flush]; exact h
set_option maxHeartbeats 8000000 in
theorem src_words (s : ByteArray) (hs : s.size ≤ 4398046511104) (w : World) :
    Calls Tryd.prog 34 #[.string s] w fun e w' => ∃ v, e = .returned v ∧ w'.ownsRow w.heap.size 9 1 v (wordsL s.data.toList).length (strCells (wordsL s.data.toList)) ∧ Below w.heap.size w w' := by
  have HLN := Lib.hid (size_len s)
  go_enter Tryd.func34, Tryd.ntmps34
  go_wp2
  have hW0 : WS w.heap.size s [] (-1) (.slice none 0 0) (((w.alloc (.cells #[.string s] 9)).alloc (.cells #[.slice none 0 0] 29)).alloc (.cells #[.int .i64 (-1)] 3)) := by
    have h1 := ((Box.new w #[.string s] 9).alloc (.cells #[.slice none 0 0] 29)).alloc (.cells #[.int .i64 (-1)] 3)
    have h2 := (Box.new (w.alloc (.cells #[.string s] 9)) #[.slice none 0 0] 29).alloc (.cells #[.int .i64 (-1)] 3)
    have h3 := Box.new ((w.alloc (.cells #[.string s] 9)).alloc (.cells #[.slice none 0 0] 29)) #[.int .i64 (-1)] 3
    rw [show (w.alloc (.cells #[.string s] 9)).heap.size = w.heap.size + 1 by simp] at h2
    rw [show ((w.alloc (.cells #[.string s] 9)).alloc (.cells #[.slice none 0 0] 29)).heap.size = w.heap.size + 2 by simp] at h3
    exact ⟨h1, h2, h3, World.ownsRow_nil _ _ _ _, by simp⟩
  go_step3
  go_wp2
  go_step3
  go_wp2
  go_loopw [6] (fun i wr => ∃ (k : Nat) (out : List (List UInt8)) (st : Int) (cur : List UInt8) (v : Value), k ≤ s.size ∧ i = .int .i64 k ∧ WS w.heap.size s out st v wr ∧ CurAt s.data.toList k st cur ∧ wordsL s.data.toList = out ++ wGo (s.data.toList.drop k) cur ∧ Below w.heap.size w wr ∧ out.length + cur.length ≤ k)
    (fun i _ => s.size - (intOf i).toNat)
  case atStart => exact ⟨0, [], -1, [], _, by omega, rfl, hW0, .inl ⟨rfl, rfl⟩, rfl, by ((repeat (first | exact Below.refl _ _ | refine Below.drew ?_ | refine Below.setCell ?_ (by first | (simp; done) | (simp; omega) | omega) _ | refine Below.alloc ?_ (by first | (simp; done) | (simp; omega) | omega) _)); done), by simp⟩
  case round =>
    obtain ⟨k, out, st, cur, v, hk, rfl, hw, hcur, hg, hb, hol⟩ := hrel
    clear hW0
    have HW := Lib.hid hw
    have HCUR := Lib.hid hcur
    have hcur' := HCUR
    have HG := Lib.hid hg
    have HB := Lib.hid hb
    have hst : st = -1 ∨ (0 ≤ st ∧ st ≤ k) := by
      rcases hcur with ⟨h, _⟩ | ⟨f, h, h1, _⟩
      · exact .inl h
      · exact .inr (by omega)
    have c0 := hw.line.cell 0 _ rfl
    have c1 := hw.outs.cell 0 _ rfl
    have c2 := hw.start.cell 0 _ rfl
    have f2 := hw.start.froz 0 _ rfl
    have z0 := hw.line.lt
    have z1 := hw.outs.lt
    have z2 := hw.start.lt
    have hsz := hb.size
    clear hw hcur hg hb
    by_cases hlt : k < s.size
    · have hltL : k < s.data.toList.length := by rw [← HLN.out]; exact hlt
      have hc8 := UInt8.toNat_lt s[k]
      rcases word_cases s[k].toNat with h | h | h | h | h | h
      · have hc : s.data.toList[k] = 35 := UInt8.toNat_inj.1 h
        have HC := Lib.hid hc
        have g35 := (eqB 35 (show (s[k].toNat : Int) = 35 by omega)).2
        clear hc h
        have hfin : wordsL s.data.toList = out ++ flush cur := by rw [HG.out, List.drop_eq_getElem_cons hltL, wGo, if_pos HC.out]
        have HF := Lib.hid hfin
        clear hfin
        go_wp2_with (go_at_call 45; refine (src_words1 w.heap.size s hs out (by omega) k (by omega) st hst v _ HW.out).mono ?_; rintro e w1 ⟨rfl, hb1, v1, hws1⟩; have HW1 := Lib.hid (ws_cur HW.out hcur' hws1); clear hws1; have d0 := HW1.out.line.cell 0 _ rfl; have d1 := HW1.out.outs.cell 0 _ rfl; have e1 := HW1.out.outs.froz 0 _ rfl; have y0 := HW1.out.line.lt; have y1 := HW1.out.outs.lt; have y3 := HW1.out.size)
        try rw [Exit.noGoto_ret]
        go_ret
        exact ⟨v1, rfl, by rw [HF.out]; exact HW1.out.own.mono (by omega), HB.out.trans hb1⟩
      · have hc : s.data.toList[k] = 32 := UInt8.toNat_inj.1 h
        have HC := Lib.hid hc
        have g35 := (neqB 35 (show (s[k].toNat : Int) ≠ 35 by omega)).2
        have g32 := (eqB 32 (show (s[k].toNat : Int) = 32 by omega)).2
        clear hc h
        have hnx : wordsL s.data.toList = (out ++ flush cur) ++ wGo (s.data.toList.drop (k + 1)) [] := by rw [HG.out, List.drop_eq_getElem_cons hltL, wGo, if_neg (by rw [HC.out]; decide), if_pos (by rw [HC.out]; rfl), List.append_assoc]
        have HN := Lib.hid hnx
        clear hnx
        go_wp2_with (go_at_call 45; refine (src_words1 w.heap.size s hs out (by omega) k (by omega) st hst v _ HW.out).mono ?_; rintro e w1 ⟨rfl, hb1, v1, hws1⟩; have HW1 := Lib.hid (ws_cur HW.out hcur' hws1); clear hws1; have d0 := HW1.out.line.cell 0 _ rfl; have d1 := HW1.out.outs.cell 0 _ rfl; have e1 := HW1.out.outs.froz 0 _ rfl; have y0 := HW1.out.line.lt; have y1 := HW1.out.outs.lt; have y3 := HW1.out.size)
        go_roundw
        case rel => exact ⟨k + 1, out ++ flush cur, -1, [], v1, by omega, by go_num, HW1.out, .inl ⟨rfl, rfl⟩, HN.out, HB.out.trans hb1, by have := flush_len cur; simp only [List.length_append, List.length_nil]; omega⟩
        case measure => simp [intOf]; omega
      · have hc : s.data.toList[k] = 9 := UInt8.toNat_inj.1 h
        have HC := Lib.hid hc
        have g35 := (neqB 35 (show (s[k].toNat : Int) ≠ 35 by omega)).2
        have g32 := (neqB 32 (show (s[k].toNat : Int) ≠ 32 by omega)).2
        have g9 := (eqB 9 (show (s[k].toNat : Int) = 9 by omega)).2
        clear hc h
        have hnx : wordsL s.data.toList = (out ++ flush cur) ++ wGo (s.data.toList.drop (k + 1)) [] := by rw [HG.out, List.drop_eq_getElem_cons hltL, wGo, if_neg (by rw [HC.out]; decide), if_pos (by rw [HC.out]; rfl), List.append_assoc]
        have HN := Lib.hid hnx
        clear hnx
        go_wp2_with (go_at_call 45; refine (src_words1 w.heap.size s hs out (by omega) k (by omega) st hst v _ HW.out).mono ?_; rintro e w1 ⟨rfl, hb1, v1, hws1⟩; have HW1 := Lib.hid (ws_cur HW.out hcur' hws1); clear hws1; have d0 := HW1.out.line.cell 0 _ rfl; have d1 := HW1.out.outs.cell 0 _ rfl; have e1 := HW1.out.outs.froz 0 _ rfl; have y0 := HW1.out.line.lt; have y1 := HW1.out.outs.lt; have y3 := HW1.out.size)
        go_roundw
        case rel => exact ⟨k + 1, out ++ flush cur, -1, [], v1, by omega, by go_num, HW1.out, .inl ⟨rfl, rfl⟩, HN.out, HB.out.trans hb1, by have := flush_len cur; simp only [List.length_append, List.length_nil]; omega⟩
        case measure => simp [intOf]; omega
      · have hc : s.data.toList[k] = 44 := UInt8.toNat_inj.1 h
        have HC := Lib.hid hc
        have g35 := (neqB 35 (show (s[k].toNat : Int) ≠ 35 by omega)).2
        have g32 := (neqB 32 (show (s[k].toNat : Int) ≠ 32 by omega)).2
        have g9 := (neqB 9 (show (s[k].toNat : Int) ≠ 9 by omega)).2
        have g44 := (eqB 44 (show (s[k].toNat : Int) = 44 by omega)).2
        clear hc h
        obtain ⟨o2, ho2⟩ : ∃ o2, o2 = out ++ flush cur := ⟨_, rfl⟩
        have hnx : wordsL s.data.toList = (o2 ++ [[(44 : UInt8)]]) ++ wGo (s.data.toList.drop (k + 1)) [] := by rw [HG.out, List.drop_eq_getElem_cons hltL, wGo, if_neg (by rw [HC.out]; decide), if_neg (by rw [HC.out]; decide), if_pos (by rw [HC.out]; rfl), HC.out, ho2]; simp
        have HN := Lib.hid hnx
        have hone : (s.data.toList.drop k).take (k + 1 - k) = [(44 : UInt8)] := by rw [show k + 1 - k = 1 by omega, List.drop_eq_getElem_cons hltL, HC.out]; rfl
        have HONE := Lib.hid hone
        have hol : o2.length ≤ k := by have := flush_len cur; rw [ho2]; simp only [List.length_append]; omega
        have HO2 := Lib.hid ho2
        clear ho2
        clear hnx hone
        go_wp2_with (go_at_call 45; refine (src_words1 w.heap.size s hs out (by omega) k (by omega) st hst v _ HW.out).mono ?_; rintro e w1 ⟨rfl, hb1, v1, hws1⟩; have HW1 := Lib.hid (ws_cur HW.out hcur' hws1); clear hws1; have d0 := HW1.out.line.cell 0 _ rfl; have d1 := HW1.out.outs.cell 0 _ rfl; have e1 := HW1.out.outs.froz 0 _ rfl; have y0 := HW1.out.line.lt; have y1 := HW1.out.outs.lt; have y3 := HW1.out.size)
        rw [← HO2.out] at HW1
        clear c0 c1 c2 f2 z0 z1 z2
        have q1 : IntKind.i64.wrap ((k : Int) + 1) = (k : Int) + 1 := IntWalk.i64_in _ ⟨by omega, by omega⟩
        have q2 : (0 : Int) ≤ (k : Int) + 1 := by omega
        have q3 : ((k : Int) + 1).toNat = k + 1 := by omega
        have q4 : (k : Int) + 1 ≤ (s.size : Int) := by omega
        have q5 : (k : Int) ≤ (k : Int) + 1 := by omega
        obtain ⟨i0, hi0, hz0, hz1, hz2⟩ := info_parts infoStr
        go_region_law ((refine step_append_lies _ rfl (.tmp 35) (.tmp 41) 29 rfl (w.heap.size + 3) 9 i0 (.string ⟨#[]⟩) 1 16 Tryd.underlying29 hi0 hz0 hz1 hz2 rfl (by decide) v1 o2.length (strCells o2) (by rfl) (own_below HW1.out.own (by ((repeat (first | exact Below.refl _ _ | refine Below.drew ?_ | refine Below.setCell ?_ (by first | (simp; done) | (simp; omega) | omega) _ | refine Below.alloc ?_ (by first | (simp; done) | (simp; omega) | omega) _)); done))) ⟨w1.heap.size, 0, none⟩ 1 1 [.string (s.extract k (k + 1))] (by rfl) rfl (World.news_of_block (by first | exact heap_alloc_new w1 _ | exact heap_alloc_new w1.drew _)) (by intro u hu; simp at hu; subst hu; rfl) (by omega) (by unfold maxLen; omega) (by omega) (by simp; omega) (w1.heap.size + 1) (by simp) ?_; intro g cap w2 hown1 hgrow hat hlt; have hb3 : Below (w.heap.size + 3) w1 w2 := (by refine Below.trans ?_ (grown_below (own_below HW1.out.own ?_) hgrow (by simp; omega)) <;> ((repeat (first | exact Below.refl _ _ | refine Below.drew ?_ | refine Below.setCell ?_ (by first | (simp; done) | (simp; omega) | omega) _ | refine Below.alloc ?_ (by first | (simp; done) | (simp; omega) | omega) _)); done)); have d1' := (hb3.cell (p := ⟨w.heap.size + 1, 0, none⟩) (by dsimp only; omega)).trans d1; have e1' := (hb3.frozen (p := ⟨w.heap.size + 1, 0, none⟩) (by dsimp only; omega)).trans e1; have HO1 := Lib.hid hown1; clear hown1 hgrow hat))
        all_goals
          have HW2 := Lib.hid (ws_app HW1.out hb3 _ (by rw [← ext_str]; exact HO1.out))
          have HB2 := Lib.hid ((HB.out.trans hb1).trans ((hb3.mono (Nat.le_add_right _ 3)).setCell (p := ⟨w.heap.size + 1, 0, none⟩) (Nat.le_add_right _ 1) (.slice (some ⟨g, 0, none⟩) (o2.length + 1) cap)))
          rw [HONE.out] at HW2
          clear q1 q2 q3 q4 q5 hb3 d1' e1' HO1 hb1 d0 d1 e1 y0 y1 y3
          go_wp2
          go_roundw
          case rel => exact ⟨k + 1, o2 ++ [[(44 : UInt8)]], -1, [], _, by omega, by go_num, HW2.out, .inl ⟨rfl, rfl⟩, HN.out, HB2.out, by simp only [List.length_append, List.length_nil, List.length_singleton] at hol ⊢; omega⟩
          case measure => simp [intOf]; omega
      · have hc : s.data.toList[k] = 61 := UInt8.toNat_inj.1 h
        have HC := Lib.hid hc
        have g35 := (neqB 35 (show (s[k].toNat : Int) ≠ 35 by omega)).2
        have g32 := (neqB 32 (show (s[k].toNat : Int) ≠ 32 by omega)).2
        have g9 := (neqB 9 (show (s[k].toNat : Int) ≠ 9 by omega)).2
        have g44 := (neqB 44 (show (s[k].toNat : Int) ≠ 44 by omega)).2
        have g61 := (eqB 61 (show (s[k].toNat : Int) = 61 by omega)).2
        clear hc h
        obtain ⟨o2, ho2⟩ : ∃ o2, o2 = out ++ flush cur := ⟨_, rfl⟩
        have hnx : wordsL s.data.toList = (o2 ++ [[(61 : UInt8)]]) ++ wGo (s.data.toList.drop (k + 1)) [] := by rw [HG.out, List.drop_eq_getElem_cons hltL, wGo, if_neg (by rw [HC.out]; decide), if_neg (by rw [HC.out]; decide), if_pos (by rw [HC.out]; rfl), HC.out, ho2]; simp
        have HN := Lib.hid hnx
        have hone : (s.data.toList.drop k).take (k + 1 - k) = [(61 : UInt8)] := by rw [show k + 1 - k = 1 by omega, List.drop_eq_getElem_cons hltL, HC.out]; rfl
        have HONE := Lib.hid hone
        have hol : o2.length ≤ k := by have := flush_len cur; rw [ho2]; simp only [List.length_append]; omega
        have HO2 := Lib.hid ho2
        clear ho2
        clear hnx hone
        go_wp2_with (go_at_call 45; refine (src_words1 w.heap.size s hs out (by omega) k (by omega) st hst v _ HW.out).mono ?_; rintro e w1 ⟨rfl, hb1, v1, hws1⟩; have HW1 := Lib.hid (ws_cur HW.out hcur' hws1); clear hws1; have d0 := HW1.out.line.cell 0 _ rfl; have d1 := HW1.out.outs.cell 0 _ rfl; have e1 := HW1.out.outs.froz 0 _ rfl; have y0 := HW1.out.line.lt; have y1 := HW1.out.outs.lt; have y3 := HW1.out.size)
        rw [← HO2.out] at HW1
        clear c0 c1 c2 f2 z0 z1 z2
        have q1 : IntKind.i64.wrap ((k : Int) + 1) = (k : Int) + 1 := IntWalk.i64_in _ ⟨by omega, by omega⟩
        have q2 : (0 : Int) ≤ (k : Int) + 1 := by omega
        have q3 : ((k : Int) + 1).toNat = k + 1 := by omega
        have q4 : (k : Int) + 1 ≤ (s.size : Int) := by omega
        have q5 : (k : Int) ≤ (k : Int) + 1 := by omega
        obtain ⟨i0, hi0, hz0, hz1, hz2⟩ := info_parts infoStr
        go_region_law ((refine step_append_lies _ rfl (.tmp 35) (.tmp 41) 29 rfl (w.heap.size + 3) 9 i0 (.string ⟨#[]⟩) 1 16 Tryd.underlying29 hi0 hz0 hz1 hz2 rfl (by decide) v1 o2.length (strCells o2) (by rfl) (own_below HW1.out.own (by ((repeat (first | exact Below.refl _ _ | refine Below.drew ?_ | refine Below.setCell ?_ (by first | (simp; done) | (simp; omega) | omega) _ | refine Below.alloc ?_ (by first | (simp; done) | (simp; omega) | omega) _)); done))) ⟨w1.heap.size, 0, none⟩ 1 1 [.string (s.extract k (k + 1))] (by rfl) rfl (World.news_of_block (by first | exact heap_alloc_new w1 _ | exact heap_alloc_new w1.drew _)) (by intro u hu; simp at hu; subst hu; rfl) (by omega) (by unfold maxLen; omega) (by omega) (by simp; omega) (w1.heap.size + 1) (by simp) ?_; intro g cap w2 hown1 hgrow hat hlt; have hb3 : Below (w.heap.size + 3) w1 w2 := (by refine Below.trans ?_ (grown_below (own_below HW1.out.own ?_) hgrow (by simp; omega)) <;> ((repeat (first | exact Below.refl _ _ | refine Below.drew ?_ | refine Below.setCell ?_ (by first | (simp; done) | (simp; omega) | omega) _ | refine Below.alloc ?_ (by first | (simp; done) | (simp; omega) | omega) _)); done)); have d1' := (hb3.cell (p := ⟨w.heap.size + 1, 0, none⟩) (by dsimp only; omega)).trans d1; have e1' := (hb3.frozen (p := ⟨w.heap.size + 1, 0, none⟩) (by dsimp only; omega)).trans e1; have HO1 := Lib.hid hown1; clear hown1 hgrow hat))
        all_goals
          have HW2 := Lib.hid (ws_app HW1.out hb3 _ (by rw [← ext_str]; exact HO1.out))
          have HB2 := Lib.hid ((HB.out.trans hb1).trans ((hb3.mono (Nat.le_add_right _ 3)).setCell (p := ⟨w.heap.size + 1, 0, none⟩) (Nat.le_add_right _ 1) (.slice (some ⟨g, 0, none⟩) (o2.length + 1) cap)))
          rw [HONE.out] at HW2
          clear q1 q2 q3 q4 q5 hb3 d1' e1' HO1 hb1 d0 d1 e1 y0 y1 y3
          go_wp2
          go_roundw
          case rel => exact ⟨k + 1, o2 ++ [[(61 : UInt8)]], -1, [], _, by omega, by go_num, HW2.out, .inl ⟨rfl, rfl⟩, HN.out, HB2.out, by simp only [List.length_append, List.length_nil, List.length_singleton] at hol ⊢; omega⟩
          case measure => simp [intOf]; omega
      · have hp : ¬ s.data.toList[k] = 35 ∧ blk s.data.toList[k] = false ∧ sepB s.data.toList[k] = false := plain_of h
        have HP := Lib.hid hp
        obtain ⟨n35, n32, n9, n44, n61⟩ := h
        have g35 := (neqB 35 (show (s[k].toNat : Int) ≠ 35 by omega)).2
        have g32 := (neqB 32 (show (s[k].toNat : Int) ≠ 32 by omega)).2
        have g9 := (neqB 9 (show (s[k].toNat : Int) ≠ 9 by omega)).2
        have g44 := (neqB 44 (show (s[k].toNat : Int) ≠ 44 by omega)).2
        have g61 := (neqB 61 (show (s[k].toNat : Int) ≠ 61 by omega)).2
        have hnx : wordsL s.data.toList = out ++ wGo (s.data.toList.drop (k + 1)) (cur ++ [s.data.toList[k]]) := by rw [HG.out, List.drop_eq_getElem_cons hltL, wGo, if_neg HP.out.1, HP.out.2.1, HP.out.2.2, if_neg Bool.false_ne_true, if_neg Bool.false_ne_true]
        have HN := Lib.hid hnx
        have hmore := HCUR.out.more hltL
        clear hp hnx n35 n32 n9 n44 n61
        by_cases hn : st < 0
        · rw [if_pos hn] at hmore
          have HM := Lib.hid hmore
          clear hmore
          go_wp2
          go_roundw
          case rel => exact ⟨k + 1, out, k, cur ++ [s.data.toList[k]], v, by omega, by go_num, ws_start HW.out k, HM.out, HN.out, HB.out.setCell (p := ⟨w.heap.size + 2, 0, none⟩) (Nat.le_add_right _ 2) _, by simp only [List.length_append, List.length_singleton]; omega⟩
          case measure => simp [intOf]; omega
        · rw [if_neg hn] at hmore
          have HM := Lib.hid hmore
          clear hmore
          go_wp2
          go_roundw
          case rel => exact ⟨k + 1, out, st, cur ++ [s.data.toList[k]], v, by omega, by go_num, HW.out, HM.out, HN.out, HB.out, by simp only [List.length_append, List.length_singleton]; omega⟩
          case measure => simp [intOf]; omega
    · obtain rfl : k = s.size := by omega
      have hfin : wordsL s.data.toList = out ++ flush cur := by rw [HG.out, List.drop_of_length_le (by rw [← HLN.out]; exact Nat.le_refl _), wGo]
      have HF := Lib.hid hfin
      clear hfin
      go_wp2_with (go_at_call 45; refine (src_words1 w.heap.size s hs out (by omega) s.size (Nat.le_refl _) st hst v _ HW.out).mono ?_; rintro e w1 ⟨rfl, hb1, v1, hws1⟩; have HW1 := Lib.hid (ws_cur HW.out hcur' hws1); clear hws1; have d1 := HW1.out.outs.cell 0 _ rfl; have y1 := HW1.out.outs.lt)
      try rw [Exit.noGoto_ret]
      go_ret
      exact ⟨v1, rfl, by rw [HF.out]; exact HW1.out.own.mono (by omega), HB.out.trans hb1⟩
end Go.Proofs.YtmaiillomoehgaaDoor
