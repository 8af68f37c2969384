/- Walks of the reference's texts: Parts, Read, Number. -/
import Derived.Test.YtekhggaafeonjaaDoorTxtM
import Derived.Test.YtekhggaafeonjaaDoorApp
namespace Go.Proofs.YtekhggaafeonjaaDoor
open Go.RowKit
theorem infoStr : (Tryd.prog.info? 9).map (fun i => (i.zero, i.size, i.bytes)) = some (some (.string ⟨#[]⟩), 1, 16) := by kernel_rfl
def strCells (xs : List (List UInt8)) : List Value := xs.map fun l => .string ⟨l.toArray⟩
theorem strCells_snoc (xs : List (List UInt8)) (l : List UInt8) : strCells (xs ++ [l]) = strCells xs ++ [.string ⟨l.toArray⟩] := by simp [strCells]
/-- where the division stands -/
def PartsAt (c : UInt8) (l : List UInt8) (k f : Nat) (done : List (List UInt8)) : Prop :=
  f ≤ k ∧ done.length ≤ k ∧ (k ≤ l.length ∧ partsL c l = done ++ glueL ((l.drop f).take (k - f)) (partsL c (l.drop k)) ∨ k = l.length + 1 ∧ partsL c l = done)
theorem PartsAt.start (c : UInt8) (l : List UInt8) : PartsAt c l 0 0 [] := ⟨by omega, by simp, .inl ⟨by omega, by simp [glueL_nil]⟩⟩
theorem PartsAt.last {c : UInt8} {l : List UInt8} {f : Nat} {done : List (List UInt8)} (h : PartsAt c l l.length f done) : PartsAt c l (l.length + 1) (l.length + 1) (done ++ [(l.drop f).take (l.length - f)]) := by
  obtain ⟨h1, h2, h3 | h3⟩ := h
  · refine ⟨by omega, by simp; omega, .inr ⟨rfl, ?_⟩⟩
    rw [h3.2, List.drop_length, partsL, glueL, List.append_nil]
  · omega
theorem PartsAt.hit {c : UInt8} {l : List UInt8} {k f : Nat} {done : List (List UInt8)} (h : PartsAt c l k f done) (hk : k < l.length) (hc : l[k] = c) : PartsAt c l (k + 1) (k + 1) (done ++ [(l.drop f).take (k - f)]) := by
  obtain ⟨h1, h2, h3 | h3⟩ := h
  · refine ⟨by omega, by simp; omega, .inl ⟨by omega, ?_⟩⟩
    rw [h3.2, List.drop_eq_getElem_cons hk, hc, partsL, if_pos rfl, glueL, List.append_nil, Nat.sub_self, List.take_zero, glueL_nil, List.append_assoc]
    rfl
  · omega
theorem PartsAt.miss {c : UInt8} {l : List UInt8} {k f : Nat} {done : List (List UInt8)} (h : PartsAt c l k f done) (hk : k < l.length) (hc : l[k] ≠ c) : PartsAt c l (k + 1) f done := by
  obtain ⟨h1, h2, h3 | h3⟩ := h
  · refine ⟨by omega, by omega, .inl ⟨by omega, ?_⟩⟩
    rw [h3.2, List.drop_eq_getElem_cons hk, partsL, if_neg hc, glueL_glue]
    congr 2
    rw [show k + 1 - f = (k - f) + 1 by omega, List.take_succ_eq_append_getElem (by simp; omega), List.getElem_drop]
    congr 2
    simp [show f + (k - f) = k by omega]
  · omega
theorem PartsAt.done {c : UInt8} {l : List UInt8} {f : Nat} {done : List (List UInt8)} (h : PartsAt c l (l.length + 1) f done) : partsL c l = done := by
  obtain ⟨h1, h2, h3 | h3⟩ := h
  · omega
  · exact h3.2
theorem ext_str (s : ByteArray) (a b : Nat) : (Value.string (s.extract a b)) = .string ⟨((s.data.toList.drop a).take (b - a)).toArray⟩ := by
  rw [← list_bytes (s.extract a b) _ (ext_list s a b)]
theorem byte_eqB (a b : UInt8) : (((a.toNat : Int) == (b.toNat : Int)) = true ↔ a = b) := by
  rw [beq_iff_eq, Int.natCast_inj, UInt8.toNat_inj]
set_option maxHeartbeats 2000000 in
theorem ref_Parts (s : ByteArray) (c : UInt8) (hs : s.size ≤ 4398046511104) (w : World) :
    Calls Tryd.prog 41 #[.string s, .int .u8 c.toNat] w fun e w' => ∃ v, e = .returned v ∧ w'.ownsRow w.heap.size 9 1 v (partsL c s.data.toList).length (strCells (partsL c s.data.toList)) ∧ Below w.heap.size w w' := by
  have hlen := size_len s
  go_enter Tryd.func41, Tryd.ntmps41
  go_wp2
  go_loopw [5, 6, 7] (fun v fr i wr => ∃ (k f : Nat) (done : List (List UInt8)), k ≤ s.size + 1 ∧ i = .int .i64 k ∧ fr = .int .i64 f ∧ PartsAt c s.data.toList k f done ∧ wr.ownsRow w.heap.size 9 1 v done.length (strCells done) ∧ Below w.heap.size w wr)
    (fun _ _ i _ => s.size + 1 - (intOf i).toNat)
  case atStart => exact ⟨0, 0, [], by omega, rfl, rfl, PartsAt.start _ _, World.ownsRow_nil _ _ _ _, by ((repeat (first | exact Below.refl _ _ | refine Below.drew ?_ | refine Below.setCell ?_ (by first | (simp; done) | (simp; omega) | omega) _ | refine Below.alloc ?_ (by first | (simp; done) | (simp; omega) | omega) _)); done)⟩
  case round =>
    obtain ⟨k, f, done, hk, rfl, rfl, hp, hown, hb⟩ := hrel
    have hsz := hb.size
    have hfk := hp.1
    have hdk := hp.2.1
    have HP := Lib.hid hp
    have HLN := Lib.hid hlen
    have HO := Lib.hid hown
    have HB := Lib.hid hb
    clear hp hlen hown hb
    by_cases hlt : k < s.size
    · have hltL : k < s.data.toList.length := by rw [← HLN.out]; exact hlt
      have g0 : ((k : Int) == (s.size : Int)) = false := by rw [beq_eq_false_iff_ne]; omega
      have g1 : (k == s.size) = false := by rw [beq_eq_false_iff_ne]; omega
      have hle : (k : Int) ≤ (s.size : Int) := by omega
      rcases Bool.eq_false_or_eq_true ((s[k].toNat : Int) == (c.toNat : Int)) with gc | gc
      · have hc : s.data.toList[k] = c := (byte_eqB _ _).1 gc
        have HC := Lib.hid hc
        clear hc
        go_wp2_with (at_builtin; refine wpList_append_new rfl _ _ 33 rfl w.heap.size 9 _ (.string ⟨#[]⟩) 1 16 Tryd.underlying33 infoStr rfl (by decide) _ _ _ rfl HO.out _ rfl rfl (by intro u hu; simp at hu; subst hu; rfl) (by omega) (by decide) hsz ?_; intro v1 w1 h1 hb1 _ _)
        go_roundw
        case rel =>
          refine ⟨k + 1, k + 1, done ++ [(s.data.toList.drop f).take (k - f)], by omega, rfl, rfl, PartsAt.hit HP.out hltL HC.out, by rw [strCells_snoc, List.length_append, ← ext_str]; exact h1, HB.out.trans hb1⟩
        case measure => simp [intOf]; omega
      · have hc : s.data.toList[k] ≠ c := fun h => absurd ((byte_eqB s[k] c).2 h) (by rw [gc]; exact Bool.false_ne_true)
        have HC := Lib.hid hc
        clear hc
        go_wp2
        go_roundw
        case rel => exact ⟨k + 1, f, done, by omega, rfl, rfl, PartsAt.miss HP.out hltL HC.out, HO.out, HB.out⟩
        case measure => simp [intOf]; omega
    · by_cases heq : k = s.size
      · subst heq
        have hL := HLN.out
        have HP' : Hid (PartsAt c s.data.toList s.data.toList.length f done) := Lib.hid (by rw [← hL]; exact HP.out)
        clear hL
        have g0 : ((s.size : Int) == (s.size : Int)) = true := by simp
        go_wp2_with (at_builtin; refine wpList_append_new rfl _ _ 33 rfl w.heap.size 9 _ (.string ⟨#[]⟩) 1 16 Tryd.underlying33 infoStr rfl (by decide) _ _ _ rfl HO.out _ rfl rfl (by intro u hu; simp at hu; subst hu; rfl) (by omega) (by decide) hsz ?_; intro v1 w1 h1 hb1 _ _)
        go_roundw
        case rel =>
          refine ⟨s.size + 1, s.size + 1, done ++ [(s.data.toList.drop f).take (s.size - f)], by omega, rfl, rfl, ?_, by rw [strCells_snoc, List.length_append, ← ext_str]; exact h1, HB.out.trans hb1⟩
          have := HP'.out.last
          rw [← HLN.out] at this
          exact this
        case measure => simp [intOf]
      · obtain rfl : k = s.size + 1 := by omega
        have hd : partsL c s.data.toList = done := by
          have h := HP.out
          rw [HLN.out] at h
          exact h.done
        have HD := Lib.hid hd
        clear hd
        go_wp2
        go_ret
        exact ⟨_, rfl, by rw [HD.out]; exact HO.out, HB.out⟩
/-- a decimal number -/
theorem str_empty (s : ByteArray) (h : s.size = 0) : s = ⟨#[]⟩ := by
  have := list_bytes s [] (by rw [size_len] at h; exact List.length_eq_zero_iff.1 h)
  simpa using this
set_option maxHeartbeats 2000000 in
theorem ref_Read (s : ByteArray) (most : Int) (hm0 : 0 ≤ most) (hm1 : most ≤ 9223372036854775807) (hs : s.size ≤ maxLen) {r : Option Int} (hr : readB s.data.toList most = r) (w : World) :
    Calls Tryd.prog 42 #[.string s, .int .i64 most] w fun e w' => e = .returned (.tuple #[.int .i64 (r.getD 0), .bool r.isSome]) ∧ w = w' := by
  unfold maxLen at hs
  have hlen := size_len s
  by_cases h0 : s.size = 0
  · obtain rfl := str_empty s h0
    have : r = none := by rw [← hr]; simp [readB]
    subst this
    clear hr hlen h0
    go_enter Tryd.func42, Tryd.ntmps42
    go_wp2
    go_ret2
    exact ⟨rfl, rfl⟩
  · have hlt : 0 < s.size := by omega
    have HL := Lib.hid hlen
    have he1 : ¬ s.toList = [] := by
      rw [ByteArray.toList_eq]; intro h; rw [h] at hlen; exact h0 (by simpa using hlen)
    have he2 : s.toList.isEmpty = false := by rw [List.isEmpty_eq_false_iff]; exact he1
    have hdl : ¬ s.data.toList = [] := by rw [← ByteArray.toList_eq]; exact he1
    have HDL := Lib.hid hdl
    have h00 : s.data.toList.getD 0 0 = s[0] := by
      rw [List.getD_eq_getElem?_getD, List.getElem?_eq_getElem (by rw [← hlen]; exact hlt)]; rfl
    have H00 := Lib.hid h00
    have HR := Lib.hid hr
    clear hr hlen h0 hdl h00
    rcases Bool.eq_false_or_eq_true (decide ((1 : Int) < (s.size : Int)) && ((s[0].toNat : Int) == 48)) with g | g
    · have : r = none := by
        simp only [Bool.and_eq_true, decide_eq_true_eq, beq_iff_eq] at g
        have hc : s.data.toList = [] ∨ 1 < s.data.toList.length ∧ (s.data.toList.getD 0 0).toNat = 48 := .inr ⟨by have := HL.out; omega, by rw [H00.out]; omega⟩
        rw [← HR.out, readB, if_pos hc]
      subst this
      have g1 : (1 : Int) < (s.size : Int) := by simp at g; omega
      have g2 : ((s[0].toNat : Int) == 48) = true := by simp at g ⊢; exact g.2
      clear g
      go_enter Tryd.func42, Tryd.ntmps42
      go_wp2
      all_goals
        go_ret2
        exact ⟨rfl, rfl⟩
    · have hz : ¬ (s.data.toList = [] ∨ 1 < s.data.toList.length ∧ (s.data.toList.getD 0 0).toNat = 48) := by
        rw [H00.out, ← HL.out]
        intro h
        rcases h with h | ⟨h1, h2⟩
        · exact HDL.out h
        · simp at g; omega
      have HZ : Hid (rdGo most s.data.toList 0 = r) := Lib.hid (by have := HR.out; rwa [readB, if_neg hz] at this)
      clear hz HR
      have g' : decide ((1 : Int) < (s.size : Int)) = false ∨ (decide ((1 : Int) < (s.size : Int)) = true ∧ ((s[0].toNat : Int) == 48) = false) := by
        cases h1 : decide ((1 : Int) < (s.size : Int)) <;> cases h2 : ((s[0].toNat : Int) == 48) <;> simp_all
      clear g
      rcases g' with g1 | ⟨g1, g2⟩
      all_goals
        go_enter Tryd.func42, Tryd.ntmps42
        go_wp2_with fail
        try clear g2
        clear g1 he1 he2
        go_loop [6, 7] (fun n i => ∃ (k : Nat) (v : Int), k ≤ s.size ∧ i = .int .i64 k ∧ n = .int .i64 v ∧ 0 ≤ v ∧ v ≤ most ∧ rdGo most (s.data.toList.drop k) v = r) (fun _ i => s.size - (intOf i).toNat)
        case atStart => exact ⟨0, 0, by omega, rfl, rfl, by omega, by omega, HZ.out⟩
        case round =>
          obtain ⟨k, v, hk, rfl, rfl, hv0, hv1, hrd⟩ := hrel
          by_cases hlt : k < s.size
          · have hc8 := UInt8.toNat_lt s[k]
            rw [drop_cons s k hlt, rdGo] at hrd
            have HRD := Lib.hid hrd
            clear hrd
            by_cases hd : 48 ≤ s[k].toNat ∧ s[k].toNat ≤ 57
            · obtain ⟨hd0, hd1⟩ := hd
              by_cases hm : most < 10 * v + ((s[k].toNat : Int) - 48)
              · have : r = none := by rw [← HRD.out, if_pos (by omega)]
                subst this
                by_cases hx : most < (s[k].toNat : Int) - 48
                · go_wp2
                  all_goals
                    go_ret2
                    exact ⟨rfl, rfl⟩
                · have hq : (most - ((s[k].toNat : Int) - 48)) / 10 < v := by omega
                  go_wp2
                  go_ret2
                  exact ⟨rfl, rfl⟩
              · have hq : ¬ (most - ((s[k].toNat : Int) - 48)) / 10 < v := by omega
                have hx : ¬ most < (s[k].toNat : Int) - 48 := by omega
                have HN : Hid (rdGo most (s.data.toList.drop (k + 1)) (10 * v + ((s[k].toNat : Int) - 48)) = r) := Lib.hid (by have := HRD.out; rwa [if_neg (by omega)] at this)
                go_wp2
                go_round
                case rel => exact ⟨k + 1, 10 * v + ((s[k].toNat : Int) - 48), by omega, rfl, rfl, by omega, by omega, HN.out⟩
                case measure => simp [intOf]; omega
            · have : r = none := by rw [← HRD.out, if_pos (by omega)]
              subst this
              by_cases hd0 : 48 ≤ s[k].toNat
              · have hd1 : 57 < s[k].toNat := by omega
                go_wp2
                go_ret2
                exact ⟨rfl, rfl⟩
              · go_wp2
                go_ret2
                exact ⟨rfl, rfl⟩
          · obtain rfl : k = s.size := by omega
            have : r = some v := by
              rw [← hrd, List.drop_of_length_le (by rw [← HL.out]; exact Nat.le_refl _), rdGo]
            subst this
            clear hrd
            go_wp2
            go_ret2
            exact ⟨rfl, rfl⟩
end Go.Proofs.YtekhggaafeonjaaDoor
