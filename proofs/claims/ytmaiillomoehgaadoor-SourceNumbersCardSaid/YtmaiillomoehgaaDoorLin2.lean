/- Walks of package source: Lines. -/
import Derived.Test.YtmaiillomoehgaaDoorLin1
import Derived.Test.YtmaiillomoehgaaDoorWrd2
import Derived.Test.YtmaiillomoehgaaDoorSplM
import Derived.Test.YtmaiillomoehgaaDoorLns
namespace Go.Proofs.YtmaiillomoehgaaDoor
open Go.RowKit
theorem own_lines_ne {ls : List (Nat × List (List UInt8))} {i : Nat} {x : List (List UInt8)} (h : ∀ q ∈ ls, q.2 ≠ []) (hx : x ≠ []) : ∀ q ∈ ls ++ [(i, x)], q.2 ≠ [] := by
  intro q hq
  rw [List.mem_append] at hq
  rcases hq with hq | hq
  · exact h q hq
  · rw [List.mem_singleton.1 hq]; exact hx
theorem src_wordsS (s : ByteArray) (hs : s.size ≤ 4398046511104) (w : World) :
    Calls Tryd.prog 34 #[.string s] w fun e w' => ∃ a cap, e = .returned (.slice a (wordsL s.data.toList).length cap) ∧ StrsAt w' (.slice a (wordsL s.data.toList).length cap) (wordsL s.data.toList) ∧
      (∀ b, (Value.slice a (wordsL s.data.toList).length cap).ownBlock = some b → w.heap.size ≤ b) ∧ Below w.heap.size w w' := by
  refine (src_words s hs w).mono fun e w' ⟨v, he, hown, hb⟩ => ?_
  have hl : (wordsL s.data.toList).length ≤ 9223372036854775807 := by
    have := wGo_len s.data.toList []
    rw [← size_len] at this
    simp only [List.length_nil] at this
    unfold wordsL; omega
  have hat := StrsAt.of_own hown hl
  have hlt := hown.lt
  obtain ⟨_, a, cap, rfl, _⟩ := hat
  exact ⟨a, cap, he, StrsAt.of_own hown hl, fun b h => (hlt b h).1, hb⟩
set_option maxHeartbeats 8000000 in
theorem src_Lines (s : ByteArray) (hs : s.size ≤ maxLen) {r : List (Nat × List (List UInt8)) × Int × Int} (hr : linesL s.data.toList = r) (w : World) (hml : ML w) :
    Calls Tryd.prog 17 #[.string s] w fun e w' => ∃ v, e = .returned (.tuple #[v, .int .i64 r.2.1, .int .i64 r.2.2]) ∧ LinesAt w' v r.1 ∧ Below w.heap.size w w' := by
  unfold maxLen at hs
  have HR := Lib.hid hr
  have HL := Lib.hid (size_len s)
  clear hr
  by_cases hbig : 16384 < s.size
  · have : r = ([], 0, 3) := by rw [← HR.out, linesL, if_pos (by rw [← HL.out]; exact hbig)]
    subst this
    go_enter Tryd.func17, Tryd.ntmps17
    go_wp2
    go_ret3
    exact ⟨_, rfl, LinesAt.nil _, Below.refl _ _⟩
  · obtain ⟨n, hn⟩ : ∃ n, (partsL 10 s.data.toList).length = n := ⟨_, rfl⟩
    have hr2 : linesR (partsL 10 s.data.toList) 0 [] = r := by have := HR.out; rwa [linesL, if_neg (by rw [← HL.out]; exact hbig)] at this
    have hnl : n ≤ 16385 := by have := partsL_len 10 s.data.toList; rw [← HL.out] at this; omega
    have hpl : ∀ x ∈ partsL 10 s.data.toList, x.length ≤ 16384 := fun x hx => by have := parts_le 10 s.data.toList x hx; rw [← HL.out] at this; omega
    have hsp : ∀ w, ML w → Calls Tryd.prog 32 #[.string s, .string ⟨#[10]⟩] w fun e w' => e = .returned (.slice (some ⟨w.heap.size, 0, none⟩) n n) ∧ w' = w.alloc (.cells (strCells (partsL 10 s.data.toList)).toArray 9) := fun w hm => by
      have h := strings_Split1 s 10 (by omega) w hm
      rw [hn] at h
      exact h
    generalize partsL 10 s.data.toList = ps at *
    have HN := Lib.hid hn
    have HPL := Lib.hid hpl
    have HSP := Lib.hid hsp
    have HR2 := Lib.hid hr2
    have HML := Lib.hid hml
    clear hn hpl hsp hr2 hml HR
    go_enter Tryd.func17, Tryd.ntmps17
    go_wp2_with (go_at_call 32; refine (HSP.out _ HML.out).mono ?_; rintro e w1 ⟨rfl, hw1'⟩; have HW1 := Lib.hid hw1'; clear hw1')
    have hw1 := HW1.out
    have hb1 : Below w.heap.size w w1 := by rw [hw1]; ((repeat (first | exact Below.refl _ _ | refine Below.drew ?_ | refine Below.setCell ?_ (by first | (simp; done) | (simp; omega) | omega) _ | refine Below.alloc ?_ (by first | (simp; done) | (simp; omega) | omega) _)); done)
    have hc1 : ∀ (j : Nat) (l : List UInt8), ps[j]? = some l → w1.cell? ⟨w.heap.size, j, none⟩ = some (.string ⟨l.toArray⟩) := fun j l h => by
      rw [hw1, World.cell?_alloc_at _ _ _ _ rfl]
      simp [strCells, h]
    have hs1 : w.heap.size + 1 ≤ w1.heap.size := by rw [hw1]; simp
    have HB1 := Lib.hid hb1
    have HC1 := Lib.hid hc1
    clear hw1 HW1 hb1 hc1
    go_loopw [5, 15] (fun v i wr => ∃ (k : Nat) (ls : List (Nat × List (List UInt8))) (us : List Value), k ≤ n ∧ i = .int .i64 k ∧ LOwn wr (w.heap.size + 1) v ls us ∧ (∀ q ∈ ls, q.2 ≠ []) ∧ ls.length ≤ k ∧ linesR (ps.drop k) k ls = r ∧ Below (w.heap.size + 1) w1 wr)
      (fun _ i _ => n - (intOf i).toNat)
    case atStart => exact ⟨0, [], [], by omega, rfl, LOwn.nil _ _, fun q h => by simp at h, by simp, HR2.out, Below.refl _ _⟩
    case round =>
      obtain ⟨k, ls, us, hk, rfl, hlo, hne, hlk, hrd, hb⟩ := hrel
      have HLO := Lib.hid hlo
      have HNE := Lib.hid hne
      have HB := Lib.hid hb
      have hsz := hb.size
      by_cases hlt : k < n
      · obtain ⟨l, hkl⟩ : ∃ l, ps[k]? = some l := ⟨_, List.getElem?_eq_getElem (by rw [HN.out]; exact hlt)⟩
        have hdr : ps.drop k = l :: ps.drop (k + 1) := by
          rw [List.drop_eq_getElem_cons (by rw [HN.out]; exact hlt)]
          rw [List.getElem?_eq_getElem (by rw [HN.out]; exact hlt)] at hkl
          rw [Option.some.inj hkl]
        rw [hdr, linesR] at hrd
        have hll := HPL.out l (List.mem_of_getElem? hkl)
        obtain ⟨sl, hsl⟩ : ∃ sl : ByteArray, sl = ⟨l.toArray⟩ := ⟨_, rfl⟩
        have c0 : wr.cell? ⟨w.heap.size, k, none⟩ = some (.string sl) := by rw [hsl]; exact (hb.cell (p := ⟨w.heap.size, k, none⟩) (by dsimp only; omega)).trans (HC1.out k l hkl)
        have z0 : w.heap.size < wr.heap.size := by omega
        have hss : sl.size ≤ 16384 := by rw [hsl, size_list]; exact hll
        have HSL : Hid (sl.data.toList = l) := Lib.hid (by rw [hsl])
        have hltI : (k : Int) < (n : Int) := by omega
        have HRD := Lib.hid hrd
        clear hkl hdr hrd hll hsl hlo hne hb
        obtain ⟨pb, hpb⟩ : ∃ b, l.all prC = b := ⟨_, rfl⟩
        have HPB : Hid (sl.data.toList.all prC = pb) := Lib.hid (by rw [HSL.out]; exact hpb)
        cases pb
        · have : r = ([], (k : Int) + 1, 4) := by rw [← HRD.out, if_pos hpb]
          subst this
          clear hpb
          go_wp2_with (go_at_call 33; refine (src_printable sl (by unfold maxLen; omega) HPB.out _).mono ?_; rintro e w' ⟨rfl, rfl⟩)
          go_ret3
          exact ⟨_, rfl, LinesAt.nil _, HB1.out.trans (HB.out.mono (by omega))⟩
        · have HR3 : Hid ((if 64 < (wordsL l).length then (([], (k : Int) + 1, 3) : List (Nat × List (List UInt8)) × Int × Int) else linesR (ps.drop (k + 1)) (k + 1) (if wordsL l = [] then ls else ls ++ [(k + 1, wordsL l)])) = r) := Lib.hid (by have h := HRD.out; rwa [if_neg (by rw [hpb]; simp)] at h)
          clear hpb HRD
          obtain ⟨wl, hwl⟩ : ∃ wl, wordsL l = wl := ⟨_, rfl⟩
          rw [hwl] at HR3
          have hsw : ∀ w, Calls Tryd.prog 34 #[.string sl] w fun e w' => ∃ a cap, e = .returned (.slice a wl.length cap) ∧ StrsAt w' (.slice a wl.length cap) wl ∧ (∀ b, (Value.slice a wl.length cap).ownBlock = some b → w.heap.size ≤ b) ∧ Below w.heap.size w w' := fun w => by
            have h := src_wordsS sl (by omega) w
            rw [HSL.out, hwl] at h
            exact h
          have hwll : wl.length ≤ 16384 := by
            have := wGo_len l []
            rw [← hwl]; unfold wordsL
            have h2 : l.length ≤ 16384 := by rw [← HSL.out, ← size_len]; exact hss
            simp only [List.length_nil] at this; omega
          have HSW := Lib.hid hsw
          clear hsw hwl
          by_cases h64 : 64 < wl.length
          · have : r = ([], (k : Int) + 1, 3) := by rw [← HR3.out, if_pos h64]
            subst this
            go_wp2_with (first | (go_at_call 33; refine (src_printable sl (by unfold maxLen; omega) HPB.out _).mono ?_; rintro e w' ⟨rfl, rfl⟩) | (go_at_call 34; refine (HSW.out _).mono ?_; rintro e w2 ⟨a8, c8, rfl, hst8, hbl8, hb2⟩))
            go_ret3
            exact ⟨_, rfl, LinesAt.nil _, HB1.out.trans ((HB.out.mono (by omega)).trans (hb2.mono (by omega)))⟩
          · have HR4 : Hid (linesR (ps.drop (k + 1)) (k + 1) (if wl = [] then ls else ls ++ [(k + 1, wl)]) = r) := Lib.hid (by have h := HR3.out; rwa [if_neg h64] at h)
            clear HR3
            by_cases h0 : wl.length = 0
            · obtain rfl := List.length_eq_zero_iff.1 h0
              have HR5 : Hid (linesR (ps.drop (k + 1)) (k + 1) ls = r) := Lib.hid (by have := HR4.out; rwa [if_pos rfl] at this)
              clear h0 HR4
              go_wp2_with (first | (go_at_call 33; refine (src_printable sl (by unfold maxLen; omega) HPB.out _).mono ?_; rintro e w' ⟨rfl, rfl⟩) | (go_at_call 34; refine (HSW.out _).mono ?_; rintro e w2 ⟨a8, c8, rfl, hst8, hbl8, hb2⟩))
              go_roundw
              case rel => exact ⟨k + 1, ls, us, by omega, by go_num, HLO.out.below hb2, HNE.out, by omega, HR5.out, HB.out.trans (hb2.mono (by omega))⟩
              case measure => simp [intOf]; omega
            · have hwn : wl ≠ [] := fun h => h0 (by rw [h]; rfl)
              have HR5 : Hid (linesR (ps.drop (k + 1)) (k + 1) (ls ++ [(k + 1, wl)]) = r) := Lib.hid (by have := HR4.out; rwa [if_neg hwn] at this)
              have HWN := Lib.hid hwn
              have hpos : 0 < wl.length := by omega
              obtain ⟨i0, hi0, hz0, hz1, hz2⟩ := info_parts infoLine
              clear HR4 hwn h0
              go_wp2_with (first | (go_at_call 33; refine (src_printable sl (by unfold maxLen; omega) HPB.out _).mono ?_; rintro e w' ⟨rfl, rfl⟩) | (go_at_call 34; refine (HSW.out _).mono ?_; rintro e w2 ⟨a8, c8, rfl, hst8, hbl8, hb2⟩; have HST8 := Lib.hid hst8; have HBL8 := Lib.hid hbl8; have hs2 := hb2.size; clear hst8 hbl8) | (at_builtin; refine wpList_append_lies _ rfl _ _ 36 rfl (w.heap.size + 1) 35 i0 (.agg #[.int .i64 0, .slice none 0 0]) 2 32 Tryd.underlying36 hi0 hz0 hz1 hz2 rfl (by decide) _ ls.length (lineCells ls us) (by rfl) ((HLO.out.below hb2).own.alloc _) ⟨w2.heap.size, 0, none⟩ 1 1 [.int .i64 ((k : Int) + 1), .slice a8 wl.length c8] (by rfl) rfl (World.news_of_block (heap_alloc_new w2 _)) (by intro u hu; simp at hu; rcases hu with rfl | rfl <;> rfl) (by omega) (by unfold maxLen; omega) (by omega) (by simp; omega) (w2.heap.size + 1) (by simp) ?_; intro g cap w3 hown3 hgrow hat hlt3))
              have e1 : (((k + 1 : Nat)) : Int) = (k : Int) + 1 := by omega
              have hlo3 := (HLO.out.below hb2).app (p := (k + 1, wl)) (g := g) (cap := cap) HNE.out HWN.out HST8.out (fun b hb hv => by
                have h1 := HBL8.out b hb
                have h2 := (HLO.out.own.lt b hv).2
                omega) hgrow hat (by
                  show w3.ownsRow _ _ _ _ _ (lineCells ls us ++ [.int .i64 ((k + 1 : Nat) : Int), _])
                  rw [e1]; exact hown3)
              have HL3 := Lib.hid hlo3
              have hb3 : Below (w.heap.size + 1) w2 w3 := ((Below.refl _ _).alloc (by omega) _).trans (grown_below ((HLO.out.below hb2).own.alloc _) hgrow (by simp; omega))
              have HB3 := Lib.hid (HB.out.trans ((hb2.mono (by omega)).trans hb3))
              clear e1 hlo3 hb3 hown3 hgrow hat
              go_roundw
              case rel => exact ⟨k + 1, ls ++ [(k + 1, wl)], us ++ [.slice a8 wl.length c8], by omega, by go_num, HL3.out, own_lines_ne HNE.out HWN.out, by simp; omega, HR5.out, HB3.out⟩
              case measure => simp [intOf]; omega
      · obtain rfl : k = n := by omega
        have : r = (ls, 0, 0) := by
          rw [← hrd, List.drop_of_length_le (by rw [HN.out]; exact Nat.le_refl _), linesR]
        subst this
        clear hrd hlo hb hne
        go_wp2
        go_ret3
        exact ⟨_, rfl, HLO.out.at (by omega), HB1.out.trans (HB.out.mono (by omega))⟩
end Go.Proofs.YtmaiillomoehgaaDoor
