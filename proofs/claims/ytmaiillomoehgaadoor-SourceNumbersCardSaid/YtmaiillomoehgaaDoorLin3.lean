/- Walks of the reference of package source: Lines. -/
import Derived.Test.YtmaiillomoehgaaDoorLin2
import Derived.Test.YtmaiillomoehgaaDoorWrd3
namespace Go.Proofs.YtmaiillomoehgaaDoor
open Go.RowKit
theorem ref_PartsS (s : ByteArray) (c : UInt8) (hs : s.size ≤ 4398046511104) (w : World) :
    Calls Tryd.prog 42 #[.string s, .int .u8 c.toNat] w fun e w' => ∃ g cap, e = .returned (.slice (some ⟨g, 0, none⟩) (partsL c s.data.toList).length cap) ∧ w.heap.size ≤ g ∧ g < w'.heap.size ∧
      (∀ (j : Nat) (l : List UInt8), (partsL c s.data.toList)[j]? = some l → w'.cell? ⟨g, j, none⟩ = some (.string ⟨l.toArray⟩)) ∧ Below w.heap.size w w' := by
  refine (ref_Parts s c hs w).mono fun e w' ⟨v, he, hown, hb⟩ => ?_
  have hc := fun g (hg : v.ownBlock = some g) => hown.cells hg
  have hlt := hown.lt
  rcases hown.2 with ⟨_, h0⟩ | ⟨g, cap, cur, rfl, _⟩
  · exact absurd (List.length_eq_zero_iff.1 h0) (partsL_ne _ _)
  · refine ⟨g, cap, he, (hlt g rfl).1, (hlt g rfl).2, fun j l e => ?_, hb⟩
    have := hc g rfl j (.string ⟨l.toArray⟩) (by simp [strCells, e])
    rwa [show (⟨g, 0, none⟩ : Addr).add j = ⟨g, j, none⟩ by simp only [Addr.add, Nat.zero_add]; split <;> simp_all] at this
theorem ref_wordsS (s : ByteArray) (hs : s.size ≤ 4398046511104) (h35 : ∀ c ∈ s.data.toList, c ≠ 35) (w : World) :
    Calls Tryd.prog 43 #[.string s] w fun e w' => ∃ a cap, e = .returned (.slice a (wordsL s.data.toList).length cap) ∧ StrsAt w' (.slice a (wordsL s.data.toList).length cap) (wordsL s.data.toList) ∧
      (∀ b, (Value.slice a (wordsL s.data.toList).length cap).ownBlock = some b → w.heap.size ≤ b) ∧ Below w.heap.size w w' := by
  refine (ref_words s hs h35 w).mono fun e w' ⟨v, he, hown, hb⟩ => ?_
  have hl : (wordsL s.data.toList).length ≤ 9223372036854775807 := by
    have := wGo_len s.data.toList []
    rw [← size_len] at this
    simp only [List.length_nil] at this
    unfold wordsL; omega
  have hat := StrsAt.of_own hown hl
  have hlt := hown.lt
  obtain ⟨_, a, cap, rfl, _⟩ := hat
  exact ⟨a, cap, he, StrsAt.of_own hown hl, fun b h => (hlt b h).1, hb⟩
theorem take_no (l : List UInt8) : ∀ c ∈ l.takeWhile (fun c => !(c == 35)), c ≠ 35 := fun c hc h => by
  have := List.all_takeWhile (l := l) (p := fun c => !(c == 35))
  rw [List.all_eq_true] at this
  have h1 := this c hc
  rw [h] at h1
  simp at h1
set_option maxRecDepth 100000 in
set_option maxHeartbeats 8000000 in
theorem ref_Lines (s : ByteArray) (hs : s.size ≤ maxLen) {r : List (Nat × List (List UInt8)) × Int × Int} (hr : linesL s.data.toList = r) (w : World) :
    Calls Tryd.prog 31 #[.string s] w fun e w' => ∃ v, e = .returned (.tuple #[v, .int .i64 r.2.1, .int .i64 r.2.2]) ∧ LinesAt w' v r.1 ∧ Below w.heap.size w w' := by
  unfold maxLen at hs
  have HR := Lib.hid hr
  have HL := Lib.hid (size_len s)
  clear hr
  by_cases hbig : 16384 < s.size
  · have : r = ([], 0, 3) := by rw [← HR.out, linesL, if_pos (by rw [← HL.out]; exact hbig)]
    subst this
    go_enter Tryd.func31, Tryd.ntmps31
    go_wp2
    go_ret3
    exact ⟨_, rfl, LinesAt.nil _, Below.refl _ _⟩
  · obtain ⟨n, hn⟩ : ∃ n, (partsL 10 s.data.toList).length = n := ⟨_, rfl⟩
    have hr2 : linesR (partsL 10 s.data.toList) 0 [] = r := by have := HR.out; rwa [linesL, if_neg (by rw [← HL.out]; exact hbig)] at this
    have hnl : n ≤ 16385 := by have := partsL_len 10 s.data.toList; rw [← HL.out] at this; omega
    have hpl : ∀ x ∈ partsL 10 s.data.toList, x.length ≤ 16384 := fun x hx => by have := parts_le 10 s.data.toList x hx; rw [← HL.out] at this; omega
    have hsp : ∀ w, Calls Tryd.prog 42 #[.string s, .int .u8 10] w fun e w' => ∃ g cap, e = .returned (.slice (some ⟨g, 0, none⟩) n cap) ∧ w.heap.size ≤ g ∧ g < w'.heap.size ∧
        (∀ (j : Nat) (l : List UInt8), (partsL 10 s.data.toList)[j]? = some l → w'.cell? ⟨g, j, none⟩ = some (.string ⟨l.toArray⟩)) ∧ Below w.heap.size w w' := fun w => by
      have h := ref_PartsS s 10 (by omega) w
      rw [hn] at h
      exact h
    generalize partsL 10 s.data.toList = ps at *
    have HN := Lib.hid hn
    have HPL := Lib.hid hpl
    have HSP := Lib.hid hsp
    have HR2 := Lib.hid hr2
    clear hn hpl hsp hr2 HR
    go_enter Tryd.func31, Tryd.ntmps31
    go_wp2_with (go_at_call 42; refine (HSP.out _).mono ?_; rintro e w1 ⟨gp, cp, rfl, hgp0, hgp1, hc1, hb1⟩; have HB1 := Lib.hid hb1; have HC1 := Lib.hid hc1; clear hb1 hc1)
    go_loopw [5, 7] (fun v i wr => ∃ (k : Nat) (ls : List (Nat × List (List UInt8))) (us : List Value), k ≤ n ∧ i = .int .i64 k ∧ LOwn wr w1.heap.size v ls us ∧ (∀ q ∈ ls, q.2 ≠ []) ∧ ls.length ≤ k ∧ linesR (ps.drop k) k ls = r ∧ Below w1.heap.size w1 wr)
      (fun _ i _ => n - (intOf i).toNat)
    case atStart => exact ⟨0, [], [], by omega, rfl, LOwn.nil _ _, fun q h => by simp at h, by simp, HR2.out, Below.refl _ _⟩
    case round =>
      obtain ⟨k, ls, us, hk, rfl, hlo, hne, hlk, hrd, hb⟩ := hrel
      have HLO := Lib.hid hlo
      have HNE := Lib.hid hne
      have HB := Lib.hid hb
      have hsz := hb.size
      obtain ⟨wo, rfl⟩ : ∃ wo : World, wo = wr := ⟨_, rfl⟩
      by_cases hlt : k < n
      · obtain ⟨l, hkl⟩ : ∃ l, ps[k]? = some l := ⟨_, List.getElem?_eq_getElem (by rw [HN.out]; exact hlt)⟩
        have hdr : ps.drop k = l :: ps.drop (k + 1) := by
          rw [List.drop_eq_getElem_cons (by rw [HN.out]; exact hlt)]
          rw [List.getElem?_eq_getElem (by rw [HN.out]; exact hlt)] at hkl
          rw [Option.some.inj hkl]
        rw [hdr, linesR] at hrd
        have hll := HPL.out l (List.mem_of_getElem? hkl)
        obtain ⟨sl, hsl⟩ : ∃ sl : ByteArray, sl = ⟨l.toArray⟩ := ⟨_, rfl⟩
        have c0 : wo.cell? ⟨gp, k, none⟩ = some (.string sl) := by rw [hsl]; exact (hb.cell (p := ⟨gp, k, none⟩) hgp1).trans (HC1.out k l hkl)
        have z0 : gp < wo.heap.size := by omega
        have hss : sl.size ≤ 16384 := by rw [hsl, size_list]; exact hll
        have HSL : Hid (sl.data.toList = l) := Lib.hid (by rw [hsl])
        have hltI : (k : Int) < (n : Int) := by omega
        have HRD := Lib.hid hrd
        clear hkl hdr hrd hll hsl hlo hne hb
        go_wp2
        go_loop [8] (fun x => ∃ m : Nat, m ≤ sl.size ∧ x = .int .i64 m ∧ (sl.data.toList.take m).all prC = true) (fun x => sl.size - (intOf x).toNat)
        case atStart => exact ⟨0, by omega, rfl, rfl⟩
        case round =>
          obtain ⟨m, hm, rfl, hd⟩ := hrel
          have HD := Lib.hid hd
          clear hd
          by_cases hlm : m < sl.size
          · have hc8 := UInt8.toNat_lt sl[m]
            have HT := Lib.hid (all_take_succ prC sl m hlm)
            have bad : prC sl[m] = false → r = ([], (k : Int) + 1, 4) := fun h => by
              have h1 : l.all prC = false := by rw [← HSL.out]; exact all_split _ _ (m + 1) (by rw [HT.out, h, Bool.and_false])
              rw [← HRD.out, if_pos h1]
            have BAD := Lib.hid bad
            clear bad
            by_cases h9 : sl[m].toNat = 9
            · have HG : Hid (prC sl[m] = true) := Lib.hid (by simp [prC, h9])
              have g1 := (eqB 9 (show (sl[m].toNat : Int) = 9 by omega)).1
              clear h9
              go_wp2
              go_round
              case rel => exact ⟨m + 1, by omega, by go_num, by rw [HT.out, HD.out, HG.out]; rfl⟩
              case measure => simp [intOf]; omega
            · have g1 := (neqB 9 (show (sl[m].toNat : Int) ≠ 9 by omega)).1
              by_cases h32 : sl[m].toNat < 32
              · have : r = ([], (k : Int) + 1, 4) := BAD.out (by simp only [prC, Bool.or_eq_false_iff, Bool.and_eq_false_iff, decide_eq_false_iff_not]; omega)
                subst this
                clear h9
                go_wp2
                go_ret3
                exact ⟨_, rfl, LinesAt.nil _, HB1.out.trans (HB.out.mono HB1.out.size)⟩
              · have g32 : decide ((sl[m].toNat : Int) < 32) = false := by simp only [decide_eq_false_iff_not]; omega
                by_cases h126 : 126 < sl[m].toNat
                · have : r = ([], (k : Int) + 1, 4) := BAD.out (by simp only [prC, Bool.or_eq_false_iff, Bool.and_eq_false_iff, decide_eq_false_iff_not]; omega)
                  subst this
                  clear h9 h32
                  go_wp2
                  go_ret3
                  exact ⟨_, rfl, LinesAt.nil _, HB1.out.trans (HB.out.mono HB1.out.size)⟩
                · have g126 : decide ((126 : Int) < (sl[m].toNat : Int)) = false := by simp only [decide_eq_false_iff_not]; omega
                  have HG : Hid (prC sl[m] = true) := Lib.hid (by simp only [prC, Bool.or_eq_true, Bool.and_eq_true, decide_eq_true_eq]; omega)
                  clear h9 h32 h126
                  go_wp2
                  go_round
                  case rel => exact ⟨m + 1, by omega, by go_num, by rw [HT.out, HD.out, HG.out]; rfl⟩
                  case measure => simp [intOf]; omega
          · obtain rfl : m = sl.size := by omega
            have hall : l.all prC = true := by have := HD.out; rwa [take_full, HSL.out] at this
            have HR3 : Hid ((if 64 < (wordsL l).length then (([], (k : Int) + 1, 3) : List (Nat × List (List UInt8)) × Int × Int) else linesR (ps.drop (k + 1)) (k + 1) (if wordsL l = [] then ls else ls ++ [(k + 1, wordsL l)])) = r) := Lib.hid (by have h := HRD.out; rwa [if_neg (by rw [hall]; simp)] at h)
            clear hall HRD HD hm hlm
            obtain ⟨wl, hwl⟩ : ∃ wl, wordsL l = wl := ⟨_, rfl⟩
            rw [hwl] at HR3
            obtain ⟨sx, hsx⟩ : ∃ sx : ByteArray, sx = ⟨(l.takeWhile fun c => !(c == 35)).toArray⟩ := ⟨_, rfl⟩
            have hsp2 : ∀ w, Calls Tryd.prog 42 #[.string sl, .int .u8 35] w fun e w' => ∃ g m cap, e = .returned (.slice (some ⟨g, 0, none⟩) m cap) ∧ 0 < m ∧ m ≤ 16385 ∧ g < w'.heap.size ∧ w'.cell? ⟨g, 0, none⟩ = some (.string sx) ∧ Below w.heap.size w w' := fun w => by
              refine (ref_PartsS sl 35 (by omega) w).mono fun e w' ⟨g, cap, he, _, h1, h2, h3⟩ => ⟨g, _, cap, he, List.length_pos_iff.2 (partsL_ne _ _), ?_, h1, ?_, h3⟩
              · have := partsL_len 35 sl.data.toList; rw [← size_len] at this; omega
              · rw [hsx]
                refine h2 0 _ ?_
                rw [← parts_head l, HSL.out]
                cases hp : partsL 35 l with
                | nil => exact absurd hp (partsL_ne _ _)
                | cons a t => rfl
            have hxs : sx.size ≤ 16384 := by
              rw [hsx, size_list]
              have h1 : (l.takeWhile fun c => !(c == 35)).length ≤ l.length := (List.takeWhile_sublist _).length_le
              have h2 : l.length ≤ 16384 := by rw [← HSL.out, ← size_len]; exact hss
              omega
            have hsw : ∀ w, Calls Tryd.prog 43 #[.string sx] w fun e w' => ∃ a cap, e = .returned (.slice a wl.length cap) ∧ StrsAt w' (.slice a wl.length cap) wl ∧ (∀ b, (Value.slice a wl.length cap).ownBlock = some b → w.heap.size ≤ b) ∧ Below w.heap.size w w' := fun w => by
              have h := ref_wordsS sx (by omega) (by rw [hsx]; exact take_no l) w
              rw [hsx, List.toList_toArray, show wordsL (l.takeWhile fun c => !(c == 35)) = wl by rw [← hwl]; exact (wGo_hash l []).symm, ← hsx] at h
              exact h
            have hwll : wl.length ≤ 16384 := by
              have := wGo_len l []
              rw [← hwl]; unfold wordsL
              have h2 : l.length ≤ 16384 := by rw [← HSL.out, ← size_len]; exact hss
              simp only [List.length_nil] at this; omega
            have HSW := Lib.hid hsw
            have HSP2 := Lib.hid hsp2
            clear hsw hwl hsp2 hsx hxs
            by_cases h64 : 64 < wl.length
            · have : r = ([], (k : Int) + 1, 3) := by rw [← HR3.out, if_pos h64]
              subst this
              go_wp2_with (first | (go_at_call 42; refine (HSP2.out _).mono ?_; rintro e w5 ⟨gx, mx, cx, rfl, hmx0, hmx1, hgx, hcx, hb5⟩) | (go_at_call 43; refine (HSW.out _).mono ?_; rintro e w2 ⟨a8, c8, rfl, hst8, hbl8, hb2⟩))
              go_ret3
              exact ⟨_, rfl, LinesAt.nil _, HB1.out.trans ((HB.out.mono HB1.out.size).trans ((hb5.mono (by omega)).trans (hb2.mono (by have := hb5.size; omega))))⟩
            · have HR4 : Hid (linesR (ps.drop (k + 1)) (k + 1) (if wl = [] then ls else ls ++ [(k + 1, wl)]) = r) := Lib.hid (by have h := HR3.out; rwa [if_neg h64] at h)
              clear HR3
              by_cases h0 : wl.length = 0
              · obtain rfl := List.length_eq_zero_iff.1 h0
                have HR5 : Hid (linesR (ps.drop (k + 1)) (k + 1) ls = r) := Lib.hid (by have := HR4.out; rwa [if_pos rfl] at this)
                clear h0 HR4
                go_wp2_with (first | (go_at_call 42; refine (HSP2.out _).mono ?_; rintro e w5 ⟨gx, mx, cx, rfl, hmx0, hmx1, hgx, hcx, hb5⟩) | (go_at_call 43; refine (HSW.out _).mono ?_; rintro e w2 ⟨a8, c8, rfl, hst8, hbl8, hb2⟩))
                have hs5 := hb5.size
                go_roundw
                case rel => exact ⟨k + 1, ls, us, by omega, by go_num, (HLO.out.below hb5).below hb2, HNE.out, by omega, HR5.out, HB.out.trans ((hb5.mono (by omega)).trans (hb2.mono (by omega)))⟩
                case measure => simp [intOf]; omega
              · have hwn : wl ≠ [] := fun h => h0 (by rw [h]; rfl)
                have HR5 : Hid (linesR (ps.drop (k + 1)) (k + 1) (ls ++ [(k + 1, wl)]) = r) := Lib.hid (by have := HR4.out; rwa [if_neg hwn] at this)
                have HWN := Lib.hid hwn
                have hpos : 0 < wl.length := by omega
                obtain ⟨i0, hi0, hz0, hz1, hz2⟩ := info_parts infoLine
                clear HR4 hwn h0
                go_wp2_with (first | (go_at_call 42; refine (HSP2.out _).mono ?_; rintro e w5 ⟨gx, mx, cx, rfl, hmx0, hmx1, hgx, hcx, hb5⟩; have HLO5 := Lib.hid (HLO.out.below hb5); have HB5 := Lib.hid hb5; have hs5 := hb5.size; clear hb5) | (go_at_call 43; refine (HSW.out _).mono ?_; rintro e w2 ⟨a8, c8, rfl, hst8, hbl8, hb2⟩; have HST8 := Lib.hid hst8; have HBL8 := Lib.hid hbl8; have hs2 := hb2.size; clear hst8 hbl8) | (at_builtin; refine wpList_append_lies _ rfl _ _ 36 rfl w1.heap.size 35 i0 (.agg #[.int .i64 0, .slice none 0 0]) 2 32 Tryd.underlying36 hi0 hz0 hz1 hz2 rfl (by decide) _ ls.length (lineCells ls us) (by rfl) ((HLO5.out.below hb2).own.alloc _) ⟨w2.heap.size, 0, none⟩ 1 1 [.int .i64 ((k : Int) + 1), .slice a8 wl.length c8] (by rfl) rfl (World.news_of_block (heap_alloc_new w2 _)) (by intro u hu; simp at hu; rcases hu with rfl | rfl <;> rfl) (by omega) (by unfold maxLen; omega) (by omega) (by simp; omega) (w2.heap.size + 1) (by simp) ?_; intro g cap w3 hown3 hgrow hat hlt3))
                have e1 : (((k + 1 : Nat)) : Int) = (k : Int) + 1 := by omega
                have hlo3 := (HLO5.out.below hb2).app (p := (k + 1, wl)) (g := g) (cap := cap) HNE.out HWN.out HST8.out (fun b hb hv => by
                  have h1 := HBL8.out b hb
                  have h2 := (HLO5.out.own.lt b hv).2
                  omega) hgrow hat (by
                    show w3.ownsRow _ _ _ _ _ (lineCells ls us ++ [.int .i64 ((k + 1 : Nat) : Int), _])
                    rw [e1]; exact hown3)
                have HL3 := Lib.hid hlo3
                have hb3 : Below w1.heap.size w2 w3 := ((Below.refl _ _).alloc (by omega) _).trans (grown_below ((HLO5.out.below hb2).own.alloc _) hgrow (by simp; omega))
                have HB3 : Hid (Below w1.heap.size w1 w3) := Lib.hid (HB.out.trans (((HB5.out.mono (by omega)).trans (hb2.mono (by omega))).trans hb3))
                clear e1 hlo3 hb3 hown3 hgrow hat
                go_roundw
                case rel => exact ⟨k + 1, ls ++ [(k + 1, wl)], us ++ [.slice a8 wl.length c8], by omega, by go_num, HL3.out, own_lines_ne HNE.out HWN.out, by simp; omega, HR5.out, HB3.out⟩
                case measure => simp [intOf]; omega
      · obtain rfl : k = n := by omega
        have : r = (ls, 0, 0) := by
          rw [← hrd, List.drop_of_length_le (by rw [HN.out]; exact Nat.le_refl _), linesR]
        subst this
        clear hrd hlo hb hne
        go_wp2
        go_ret3
        exact ⟨_, rfl, HLO.out.at (by omega), HB1.out.trans (HB.out.mono HB1.out.size)⟩
end Go.Proofs.YtmaiillomoehgaaDoor
