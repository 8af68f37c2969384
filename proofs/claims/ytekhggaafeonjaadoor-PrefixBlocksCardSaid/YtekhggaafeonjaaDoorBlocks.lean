/- PrefixBlocks: the law. -/
import Derived.Test.YtekhggaafeonjaaDoorGen6
import Derived.Test.YtekhggaafeonjaaDoorGen7
import Derived.Test.YtekhggaafeonjaaDoorSplit
import Derived.Test.YtekhggaafeonjaaDoorBox
namespace Go.Proofs.YtekhggaafeonjaaDoor
open Go.RowKit
theorem five_ranges (w : World) (t : TypeId) (a0 b0 a1 b1 a2 b2 a3 b3 a4 b4 : Int)
    (h : ∀ p ∈ [(a0, b0), (a1, b1), (a2, b2), (a3, b3), (a4, b4)], 0 ≤ p.1 ∧ p.1 ≤ 4294967295 ∧ 0 ≤ p.2 ∧ p.2 ≤ 4294967295) :
    ∃ L : List (Int × Int), L.length = 5 ∧ (∀ p ∈ L, 0 ≤ p.1 ∧ p.1 ≤ 4294967295 ∧ 0 ≤ p.2 ∧ p.2 ≤ 4294967295) ∧ Box (w.alloc (.cells #[.int .u32 a0, .int .u32 b0, .int .u32 a1, .int .u32 b1, .int .u32 a2, .int .u32 b2, .int .u32 a3, .int .u32 b3, .int .u32 a4, .int .u32 b4] t)) w.heap.size (rngCells L) :=
  ⟨_, rfl, h, Box.new w _ t⟩
set_option maxHeartbeats 2000000 in
set_option maxRecDepth 100000 in
theorem law_PrefixBlocks (lv : Value) (len : Nat) (lo hi n : Int) (hl0 : 0 ≤ lo) (hl1 : lo ≤ 4294967295) (hh0 : 0 ≤ hi) (hh1 : hi ≤ 4294967295) (_hn0 : -9223372036854775808 ≤ n) (_hn1 : n ≤ 9223372036854775807) (w : World) (hl : IntsAt w lv len)
    (htab : Lib.TabIs Tryd.prog w "internal/strconv.uint64pow10" .u64 Lib.pow10Tab) :
    Calls Tryd.prog 7 #[lv, .agg #[.int .u32 lo, .int .u32 hi], .int .i64 n] w fun e w' => e = .returned (.bool true) ∧ Below w.heap.size w w' := by
  have HL := Lib.hid hl
  have HT := Lib.hid htab
  clear hl htab
  go_enter Tryd.func7, Tryd.ntmps7
  go_wp2_with fail
  have hP0 := Box.new w #[.int .u32 lo, .int .u32 hi] 44
  obtain ⟨W0, hW⟩ : ∃ W, W = (w.alloc (.cells #[.int .u32 lo, .int .u32 hi] 44)) := ⟨_, rfl⟩
  rw [← hW] at hP0 ⊢
  have hB0 : Below w.heap.size w W0 := by rw [hW]; ((repeat (first | exact Below.refl _ _ | refine Below.drew ?_ | refine Below.setCell ?_ (by first | (simp; done) | (simp; omega) | omega) _ | refine Below.alloc ?_ (by first | (simp; done) | (simp; omega) | omega) _)); done)
  have z0 : w.heap.size < W0.heap.size := by rw [hW]; simp
  clear hW
  refine (gen_New lv len _ (HL.out.below hB0)).mono ?_
  rintro e w1 ⟨rfl, hT1, hb1', hlt1⟩
  have HP1 := Lib.hid (hP0.below hb1' z0)
  have HT1 := Lib.hid hT1
  have HB1 := Lib.hid (hB0.trans (hb1'.mono hB0.size))
  clear hT1 hb1' hB0 HL hP0
  have HW1 := Lib.hid (RS.refl HT1.out)
  have z0T := Nat.ne_of_lt z0
  have hwT : w.heap.size ≤ W0.heap.size := by omega
  generalize W0.heap.size = T at *
  have hmk : ∀ w', RS T w1 w' → w'.cell? ⟨w.heap.size, 0, none⟩ = some (.int .u32 lo) ∧ w'.cell? ⟨w.heap.size, 1, none⟩ = some (.int .u32 hi) ∧ RS T w1 w' := fun w' h => ⟨(HP1.out.keep h.2 z0T).cell 0 _ rfl, (HP1.out.keep h.2 z0T).cell 1 _ rfl, h⟩
  have HMK := Lib.hid hmk
  clear hmk
  go_wp2_with fail
  go_region_held3 (fun w' => w'.cell? ⟨w.heap.size, 0, none⟩ = some (.int .u32 lo) ∧ w'.cell? ⟨w.heap.size, 1, none⟩ = some (.int .u32 hi) ∧ RS T w1 w') (exact HMK.out _ (by first | exact RS.drew (RS.refl HT1.out) | exact (‹_ ∧ _ ∧ RS T _ _›).2.2 | exact RS.step (‹_ ∧ _ ∧ RS T _ _›).2.2 (by assumption) (by assumption) | exact RS.alloc (‹_ ∧ _ ∧ RS T _ _›).2.2 _)) ((first | (go_at_call 15; refine (gen_Addr T _ (‹_ ∧ _ ∧ RS T _ _›).2.2.1).mono ?_; rintro e w' ⟨c, rfl, hc0, hc1, hT', hK'⟩) | (go_at_call 28; refine (gen_Range T _ (by decide) (by decide) _ (‹_ ∧ _ ∧ RS T _ _›).2.2.1).mono ?_; rintro e w' ⟨ra, rb, rfl, hra0, hra1, hrb0, hrb1, hT', hK'⟩)))
  have hTw : T < w'.heap.size := hT'.lt
  rename_i v3 r1 s1 a10 a11 b10 b11 t3 k3 v2 r2 s2 a20 a21 b20 b21 t2 k2 v1 t1 k1 v0 c0 p0 p1 t0 k0 hinv
  obtain ⟨L, hL5, hLb, hLbox⟩ := five_ranges w' 44 lo hi r1 s1 r2 s2 ra rb c0 c (by
    intro p hp
    simp only [List.mem_cons, List.not_mem_nil, or_false] at hp
    rcases hp with rfl | rfl | rfl | rfl | rfl <;> (dsimp only; omega))
  have HR7 := Lib.hid hinv.2.2
  clear t3 k3 t2 k2 t1 k1 t0 k0 hT' hK' hinv a10 a11 b10 b11 a20 a21 b20 b21 HMK HW1
  generalize w'.alloc (.cells #[.int .u32 lo, .int .u32 hi, .int .u32 r1, .int .u32 s1, .int .u32 r2, .int .u32 s2, .int .u32 ra, .int .u32 rb, .int .u32 c0, .int .u32 c] 44) = W7 at *
  have HLB := Lib.hid hLbox
  clear hLbox
  have hLT : w'.heap.size ≠ T := by omega
  generalize w'.heap.size = LB at *
  go_wp2_with fail
  refine (gen_Next T 36 (by decide) _ HR7.out.1).mono ?_
  rintro e w8 ⟨d, rfl, hd0, hd1, hT8, hK8⟩
  have HR8 := Lib.hid (HR7.out.step hT8 hK8)
  have HLB8 := Lib.hid (HLB.out.keep hK8 hLT)
  clear hT8 hK8 HR7 HLB
  go_wp2_with fail
  obtain ⟨N, hN⟩ : ∃ N : List Int, N = [n, 32, 8, 16, d - 2] := ⟨_, rfl⟩
  have hN5 : N.length = 5 := by rw [hN]; rfl
  have HNB := Lib.hid (show Box (w8.alloc (.cells #[.int .i64 n, .int .i64 32, .int .i64 8, .int .i64 16, .int .i64 (d - 2)] 3)) w8.heap.size (N.map (Value.int .i64)) from by rw [hN]; exact Box.new w8 #[.int .i64 n, .int .i64 32, .int .i64 8, .int .i64 16, .int .i64 (d - 2)] 3)
  have HLB9 := Lib.hid (HLB8.out.alloc (.cells #[.int .i64 n, .int .i64 32, .int .i64 8, .int .i64 16, .int .i64 (d - 2)] 3))
  have HR9 := Lib.hid (HR8.out.alloc (.cells #[.int .i64 n, .int .i64 32, .int .i64 8, .int .i64 16, .int .i64 (d - 2)] 3))
  generalize w8.alloc (.cells #[.int .i64 n, .int .i64 32, .int .i64 8, .int .i64 16, .int .i64 (d - 2)] 3) = W9 at *
  generalize w8.heap.size = NB at *
  have HB9 := Lib.hid (HB1.out.trans (HR9.out.2.below hwT (by omega)))
  have hzL := HLB9.out.lt
  have hzN := HNB.out.lt
  clear HR8 HLB8 HB1 hN hd0 hd1
  go_loopw [10] (fun i wr => ∃ k : Nat, k ≤ 5 ∧ i = .int .i64 (k : Int) ∧ Below W9.heap.size W9 wr) (fun i _ => 5 - (intOf i).toNat)
  case atStart =>
    exact ⟨0, by omega, rfl, Below.refl _ _⟩
  case round =>
    obtain ⟨k, hk, rfl, hrb⟩ := hrel
    by_cases hlt : k < 5
    · have hkI : (k : Int) < 5 := by omega
      obtain ⟨⟨p, q⟩, hpq⟩ : ∃ t, L[k]? = some t := ⟨_, List.getElem?_eq_getElem (by omega)⟩
      have hbd := hLb (p, q) (List.mem_of_getElem? hpq)
      obtain ⟨bp0, bp1, bq0, bq1⟩ := hbd
      have hat := rngCells_at L k _ hpq
      rw [Nat.mul_comm] at hat
      have HLk : Hid (∀ w', Below W9.heap.size W9 w' → w'.cell? ⟨LB, k * 2, none⟩ = some (.int .u32 p) ∧ w'.cell? ⟨LB, k * 2 + 1, none⟩ = some (.int .u32 q)) := Lib.hid fun w' h => ⟨(HLB9.out.below h hzL).cell _ _ hat.1, (HLB9.out.below h hzL).cell _ _ hat.2⟩
      have HRB := Lib.hid hrb
      clear hrb hat hpq
      go_wp2_with fail
      go_loopw [11] (fun i wi => ∃ m : Nat, m ≤ 5 ∧ i = .int .i64 (m : Int) ∧ Below W9.heap.size W9 wi) (fun i _ => 5 - (intOf i).toNat)
      case atStart => exact ⟨0, by omega, rfl, HRB.out⟩
      case round =>
        obtain ⟨m, hm, rfl, hib⟩ := hrel
        by_cases hlm : m < 5
        · have hmI : (m : Int) < 5 := by omega
          obtain ⟨z, hz⟩ : ∃ z, N[m]? = some z := ⟨_, List.getElem?_eq_getElem (by omega)⟩
          obtain ⟨xs, hxs⟩ : ∃ xs, blocksP p q z = xs := ⟨_, rfl⟩
          have HXS := Lib.hid hxs
          have HNm : Hid (∀ w', Below W9.heap.size W9 w' → w'.cell? ⟨LB, k * 2, none⟩ = some (.int .u32 p) ∧ w'.cell? ⟨LB, k * 2 + 1, none⟩ = some (.int .u32 q) ∧ w'.cell? ⟨NB, m, none⟩ = some (.int .i64 z) ∧ Below W9.heap.size W9 w') := Lib.hid fun w' h => ⟨(HLk.out w' h).1, (HLk.out w' h).2, (HNB.out.below h hzN).cell m _ (by rw [List.getElem?_map, hz]; rfl), h⟩
          have HIB := Lib.hid hib
          clear hz hxs hib
          go_wp2_with fail
          go_region_held3 (fun w' => w'.cell? ⟨LB, k * 2, none⟩ = some (.int .u32 p) ∧ w'.cell? ⟨LB, k * 2 + 1, none⟩ = some (.int .u32 q) ∧ w'.cell? ⟨NB, m, none⟩ = some (.int .i64 z) ∧ Below W9.heap.size W9 w') (exact HNm.out _ (by first | exact Below.drew HIB.out | exact (‹_ ∧ _ ∧ _ ∧ Below W9.heap.size W9 _›).2.2.2 | exact Below.trans (‹_ ∧ _ ∧ _ ∧ Below W9.heap.size W9 _›).2.2.2 (Below.mono (by assumption) (‹_ ∧ _ ∧ _ ∧ Below W9.heap.size W9 _›).2.2.2.size))) ((first | (go_at_call 25; refine (prefix_Blocks p q z bp0 bp1 bq0 bq1 HXS.out _).mono ?_; rintro e w' ⟨v, rfl, hown, hb'⟩) | (go_at_call 30; refine (ref_Blocks p q z bp0 bp1 bq0 bq1 HXS.out _).mono ?_; rintro e w' ⟨v, rfl, hown, hb'⟩) | (go_at_call 29; refine (ref2_Same _ _ xs _ ((PairsAt.of_own (by assumption)).below (by assumption)) (PairsAt.of_own (by assumption))).mono ?_; rintro e w' ⟨rfl, hb'⟩)))
          have HI2 := Lib.hid (‹_ ∧ _ ∧ _ ∧ Below W9.heap.size W9 w'›).2.2.2
          clear hb' hown
          go_wp2
          exact ⟨⟨m + 1, by omega, by go_num, HI2.out⟩, by simp [intOf]; omega⟩
        · obtain rfl : m = 5 := by omega
          have hm5 : (((5 : Nat) : Int)) = 5 := rfl
          obtain ⟨xs, hxs⟩ : ∃ xs, blocksP p q 32 = xs := ⟨_, rfl⟩
          have HXS := Lib.hid hxs
          have HLm : Hid (∀ w', Below W9.heap.size W9 w' → w'.cell? ⟨LB, k * 2, none⟩ = some (.int .u32 p) ∧ w'.cell? ⟨LB, k * 2 + 1, none⟩ = some (.int .u32 q) ∧ Below W9.heap.size W9 w') := Lib.hid fun w' h => ⟨(HLk.out w' h).1, (HLk.out w' h).2, h⟩
          have HIB := Lib.hid hib
          clear hxs hib
          go_wp2_with fail
          go_region_held3 (fun w' => w'.cell? ⟨LB, k * 2, none⟩ = some (.int .u32 p) ∧ w'.cell? ⟨LB, k * 2 + 1, none⟩ = some (.int .u32 q) ∧ Below W9.heap.size W9 w') (exact HLm.out _ (by first | exact Below.drew HIB.out | exact (‹_ ∧ _ ∧ Below W9.heap.size W9 _›).2.2 | exact Below.trans (‹_ ∧ _ ∧ Below W9.heap.size W9 _›).2.2 (Below.mono (by assumption) (‹_ ∧ _ ∧ Below W9.heap.size W9 _›).2.2.size))) ((first | (go_at_call 31; refine (prefix_Split p q bp0 bp1 bq0 bq1 HXS.out _).mono ?_; rintro e w' ⟨v, rfl, hat1, hb'⟩) | (go_at_call 32; refine (ref_Split p q bp0 bp1 bq0 bq1 HXS.out _).mono ?_; rintro e w' ⟨v', rfl, hat2, hb'⟩)))
          have HI2 := Lib.hid (‹_ ∧ _ ∧ Below W9.heap.size W9 w'›).2.2
          have hat1' := hat1.below hb'
          obtain ⟨hl, a, ca, rfl, ha⟩ := hat1'
          obtain ⟨_, b, cb, rfl, hb⟩ := hat2
          unfold maxLen at hl
          have HA := Lib.hid ha
          have HBB := Lib.hid hb
          have g0 : ((xs.length : Int) != (xs.length : Int)) = false := by simp
          clear ha hb hat1 hb'
          go_wp2_with fail
          go_loopw [14] (fun i wr => ∃ m : Nat, m ≤ xs.length ∧ i = .int .i64 (m : Int) ∧ Below w'.heap.size w' wr) (fun i _ => xs.length - (intOf i).toNat)
          case atStart => exact ⟨0, by omega, rfl, Below.refl _ _⟩
          case round =>
            obtain ⟨m, hm, rfl, hbt⟩ := hrel
            have HW := Lib.hid hbt
            by_cases hlx : m < xs.length
            · obtain ⟨⟨y, z⟩, hyz⟩ : ∃ t, (splitP xs)[m]? = some t := ⟨_, List.getElem?_eq_getElem (by simp [splitP]; exact hlx)⟩
              have hat := pfxCells_at (splitP xs) m _ hyz
              rw [Nat.mul_comm] at hat
              obtain ⟨ba, rfl, hla, hca, hca'⟩ : ∃ ba, a = some ⟨ba, 0, none⟩ ∧ ba < wr.heap.size ∧ wr.cell? ⟨ba, m * 2, none⟩ = some (.int .u32 y) ∧ wr.cell? ⟨ba, m * 2 + 1, none⟩ = some (.int .i64 z) := by
                rcases HA.out with h | ⟨ba, rfl, h1, h2⟩
                · omega
                · exact ⟨ba, rfl, Nat.lt_of_lt_of_le h1 hbt.size, (hbt.cell (p := ⟨ba, m * 2, none⟩) h1).trans (h2 _ _ hat.1), (hbt.cell (p := ⟨ba, m * 2 + 1, none⟩) h1).trans (h2 _ _ hat.2)⟩
              obtain ⟨bb, rfl, hlb, hcb, hcb'⟩ : ∃ bb, b = some ⟨bb, 0, none⟩ ∧ bb < wr.heap.size ∧ wr.cell? ⟨bb, m * 2, none⟩ = some (.int .u32 y) ∧ wr.cell? ⟨bb, m * 2 + 1, none⟩ = some (.int .i64 z) := by
                rcases HBB.out with h | ⟨bb, rfl, h1, h2⟩
                · omega
                · exact ⟨bb, rfl, Nat.lt_of_lt_of_le h1 hbt.size, (hbt.cell (p := ⟨bb, m * 2, none⟩) h1).trans (h2 _ _ hat.1), (hbt.cell (p := ⟨bb, m * 2 + 1, none⟩) h1).trans (h2 _ _ hat.2)⟩
              have hltI : (m : Int) < (xs.length : Int) := by omega
              clear hbt hat hyz
              go_wp2_with fail
              refine wp_region_later (by kernel_rfl) (by kernel_rfl) ?_
              repeat (go_big_quiet_step ((fail)))
              refine wpQuiet_nil ?_
              intro w3 hw'
              have hb3 := ext_below hw'
              clear hw'
              obtain ⟨hc3, hf3⟩ := bcell hb3
              have hs3 := hb3.size
              try simp at hs3
              go_wp2
              exact ⟨⟨m + 1, by omega, by go_num, HW.out.trans (hb3.mono HW.out.size)⟩, by simp [intOf]; omega⟩
            · obtain rfl : m = xs.length := by omega
              clear hbt
              go_wp2
              exact ⟨⟨k + 1, by omega, by go_num, HI2.out.trans (HW.out.mono HI2.out.size)⟩, by simp [intOf]; omega⟩
    · obtain rfl : k = 5 := by omega
      have hk5 : (((5 : Nat) : Int)) = 5 := rfl
      have HB := Lib.hid (HB9.out.trans (hrb.mono HB9.out.size))
      clear hrb
      go_wp2_with fail
      refine (law1_sane _ (tab_below HT.out (Nat.le_refl _) HB.out)).mono ?_
      rintro e w3 ⟨rfl, hb3⟩
      have HB3 := Lib.hid (HB.out.trans (hb3.mono HB.out.size))
      clear hb3
      go_wp2_with fail
      go_ret
      exact ⟨rfl, HB3.out⟩
end Go.Proofs.YtekhggaafeonjaaDoor
