/- Walks of Split, of the program and of the reference. -/
import Derived.Test.YtekhggaafeonjaaDoorPairs
import Derived.Test.YtekhggaafeonjaaDoorCommon
import Derived.Test.YtekhggaafeonjaaDoorOwn
namespace Go.Proofs.YtekhggaafeonjaaDoor
open Go.RowKit
theorem infoPfx : (Tryd.prog.info? 25).map (fun i => (i.zero, i.size, i.bytes)) = some (some (.agg #[.int .u32 0, .int .i64 0]), 2, 16) := by kernel_rfl
theorem pblk_len (wd : Nat) (e : Int) : ∀ (f : Nat) (lo : Int), (pblk wd f lo e).length ≤ f
  | 0, _ => by simp [pblk]
  | f + 1, lo => by
    rw [pblk]
    split
    · have := pblk_len wd e f (lo + bsz wd lo (e - lo)); simp; omega
    · simp
theorem blocks_len (lo hi width : Int) (h0 : 0 ≤ lo) (h1 : hi ≤ 4294967295) : (blocksP lo hi width).length ≤ 4294967296 := by
  unfold blocksP
  split
  · simp
  · have := pblk_len width.toNat (hi + 1) (hi + 1 - lo).toNat lo; omega
theorem split_snoc {xs : List (Int × Int)} {k : Nat} {p q : Int} (h : xs[k]? = some (p, q)) : splitP (xs.take (k + 1)) = splitP (xs.take k) ++ [(p, commN p q)] := by
  rw [List.take_add_one, h]; simp [splitP]
theorem split_len (xs : List (Int × Int)) (k : Nat) (h : k ≤ xs.length) : (splitP (xs.take k)).length = k := by simp [splitP]; omega
set_option maxHeartbeats 2000000 in
theorem prefix_Split (lo hi : Int) (hl0 : 0 ≤ lo) (hl1 : lo ≤ 4294967295) (hh0 : 0 ≤ hi) (hh1 : hi ≤ 4294967295) {xs : List (Int × Int)} (hx : blocksP lo hi 32 = xs) (w : World) :
    Calls Tryd.prog 31 #[.agg #[.int .u32 lo, .int .u32 hi]] w fun e w' => ∃ v, e = .returned v ∧ PairsAt w' v xs.length (pfxCells (splitP xs)) ∧ Below w.heap.size w w' := by
  have hmem := Lib.hid (hx ▸ blocks_mem lo hi 32 hl0 hh1 (by decide))
  have hlen : xs.length ≤ 4294967296 := hx ▸ blocks_len lo hi 32 hl0 hh1
  have HX := Lib.hid hx
  clear hx
  go_enter Tryd.func31, Tryd.ntmps31
  go_wp2_with fail
  refine (prefix_Blocks lo hi 32 hl0 hl1 hh0 hh1 HX.out _).mono ?_
  rintro e w1 ⟨v, rfl, hown, hb1⟩
  obtain ⟨hl, a, cap, rfl, ha⟩ := PairsAt.of_own hown
  have HA := Lib.hid ha
  have HB1 := Lib.hid (show Below w.heap.size w w1 from by ((repeat (first | exact Below.refl _ _ | refine Below.drew ?_ | refine Below.setCell ?_ (by first | (simp; done) | (simp; omega) | omega) _ | refine Below.alloc ?_ (by first | (simp; done) | (simp; omega) | omega) _ | refine Below.trans ?_ (Below.mono hb1 (by first | (simp; done) | (simp; omega) | omega)))); done))
  clear ha hown hb1 HX hl
  go_wp2_with fail
  go_loopw [3, 9] (fun o i wr => ∃ k : Nat, k ≤ xs.length ∧ i = .int .i64 k ∧ wr.ownsRow w1.heap.size 25 2 o k (pfxCells (splitP (xs.take k))) ∧ Below w1.heap.size w1 wr) (fun _ i _ => xs.length - (intOf i).toNat)
  case atStart => exact ⟨0, by omega, rfl, World.ownsRow_nil _ _ _ _, Below.refl _ _⟩
  case round =>
    obtain ⟨k, hk, rfl, hown, hb⟩ := hrel
    have HW := Lib.hid hb
    have hsz := hb.size
    by_cases hlt : k < xs.length
    · obtain ⟨⟨p, q⟩, hkl⟩ : ∃ l, xs[k]? = some l := ⟨_, List.getElem?_eq_getElem hlt⟩
      have hat := rngCells_at xs k _ hkl
      rw [Nat.mul_comm] at hat
      obtain ⟨ba, rfl, hla, hca, hca'⟩ : ∃ ba, a = some ⟨ba, 0, none⟩ ∧ ba < wr.heap.size ∧ wr.cell? ⟨ba, k * 2, none⟩ = some (.int .u32 p) ∧ wr.cell? ⟨ba, k * 2 + 1, none⟩ = some (.int .u32 q) := by
        rcases HA.out with h | ⟨ba, rfl, h1, h2⟩
        · omega
        · exact ⟨ba, rfl, Nat.lt_of_lt_of_le h1 hb.size, (hb.cell (p := ⟨ba, k * 2, none⟩) h1).trans (h2 _ _ hat.1), (hb.cell (p := ⟨ba, k * 2 + 1, none⟩) h1).trans (h2 _ _ hat.2)⟩
      obtain ⟨j, hj, hm, hq, hp0, hq1⟩ := hmem.out (p, q) (List.mem_of_getElem? hkl)
      dsimp only at hm hq hp0 hq1
      have hpos := two_pos j
      subst hq
      have hcm := commN_block p j hp0 hj hm hq1
      have hsn := Lib.hid (split_snoc hkl)
      rw [hcm.1] at hsn
      obtain ⟨n, hn⟩ : ∃ n, 32 - (j : Int) = n := ⟨_, rfl⟩
      obtain ⟨q, hqq⟩ : ∃ q, p + 2 ^ j - 1 = q := ⟨_, rfl⟩
      rw [hn, hqq] at hcm
      rw [hn] at hsn
      rw [hqq] at hca' hq1
      have hp1 : p ≤ 4294967295 := by omega
      have hq0 : 0 ≤ q := by omega
      have HC := Lib.hid hcm
      have hltI : (k : Int) < (xs.length : Int) := by omega
      clear hcm hat hkl hb hn hqq hm hpos
      go_wp2_with fail
      refine (prefix_CommonP p q hp0 hp1 hq0 hq1 HC.out.1 HC.out.2 _).mono ?_
      rintro e w2 ⟨rfl, hb2⟩
      have hown2 := own_below hown ((by ((repeat (first | exact Below.refl _ _ | refine Below.drew ?_ | refine Below.setCell ?_ (by first | (simp; done) | (simp; omega) | omega) _ | refine Below.alloc ?_ (by first | (simp; done) | (simp; omega) | omega) _ | refine Below.trans ?_ (Below.mono hb2 (by first | (simp; done) | (simp; omega) | omega)))); done) : Below wr.heap.size wr w2))
      have HW2 := Lib.hid (show Below w1.heap.size w1 w2 from by ((repeat (first | exact Below.refl _ _ | refine Below.drew ?_ | refine Below.setCell ?_ (by first | (simp; done) | (simp; omega) | omega) _ | refine Below.alloc ?_ (by first | (simp; done) | (simp; omega) | omega) _ | refine Below.trans ?_ (Below.mono hb2 (by first | (simp; done) | (simp; omega) | omega)) | refine Below.trans ?_ (Below.mono HW.out (by first | (simp; done) | (simp; omega) | omega)))); done))
      have hsz2 := HW2.out.size
      clear hb2 hown hca hca' hla
      go_wp2_with (at_builtin; refine wpList_append_new rfl _ _ 54 rfl w1.heap.size 25 _ (.agg #[.int .u32 0, .int .i64 0]) 2 16 Tryd.underlying54 infoPfx rfl (by decide) _ _ _ rfl hown2 _ rfl rfl (by intro u hu; simp at hu; rcases hu with rfl | rfl <;> rfl) (by omega) (by decide) hsz2 ?_; intro v3 w3 h3 hb3 _ _)
      go_roundw
      case rel => exact ⟨k + 1, by omega, by go_num, by rw [hsn.out, pfxCells_snoc]; exact h3, HW2.out.trans hb3⟩
      case measure => simp [intOf]; omega
    · obtain rfl : k = xs.length := by omega
      rw [List.take_length] at hown
      have HO := Lib.hid (PairsAt.of_own hown)
      clear hb hown
      go_wp2
      go_ret
      exact ⟨_, rfl, HO.out, HB1.out.trans (HW.out.mono HB1.out.size)⟩
set_option maxHeartbeats 2000000 in
theorem ref_Split (lo hi : Int) (hl0 : 0 ≤ lo) (hl1 : lo ≤ 4294967295) (hh0 : 0 ≤ hi) (hh1 : hi ≤ 4294967295) {xs : List (Int × Int)} (hx : blocksP lo hi 32 = xs) (w : World) :
    Calls Tryd.prog 32 #[.agg #[.int .u32 lo, .int .u32 hi]] w fun e w' => ∃ v, e = .returned v ∧ PairsAt w' v xs.length (pfxCells (splitP xs)) ∧ Below w.heap.size w w' := by
  have hmem := Lib.hid (hx ▸ blocks_mem lo hi 32 hl0 hh1 (by decide))
  have hlen : xs.length ≤ 4294967296 := hx ▸ blocks_len lo hi 32 hl0 hh1
  have HX := Lib.hid hx
  clear hx
  go_enter Tryd.func32, Tryd.ntmps32
  go_wp2_with fail
  refine (ref_Blocks lo hi 32 hl0 hl1 hh0 hh1 HX.out _).mono ?_
  rintro e w1 ⟨v, rfl, hown, hb1⟩
  obtain ⟨hl, a, cap, rfl, ha⟩ := PairsAt.of_own hown
  have HA := Lib.hid ha
  have HB1 := Lib.hid (show Below w.heap.size w w1 from by ((repeat (first | exact Below.refl _ _ | refine Below.drew ?_ | refine Below.setCell ?_ (by first | (simp; done) | (simp; omega) | omega) _ | refine Below.alloc ?_ (by first | (simp; done) | (simp; omega) | omega) _ | refine Below.trans ?_ (Below.mono hb1 (by first | (simp; done) | (simp; omega) | omega)))); done))
  clear ha hown hb1 HX hl
  go_wp2_with fail
  go_loopw [3, 5] (fun o i wr => ∃ k : Nat, k ≤ xs.length ∧ i = .int .i64 k ∧ wr.ownsRow w1.heap.size 25 2 o k (pfxCells (splitP (xs.take k))) ∧ Below w1.heap.size w1 wr) (fun _ i _ => xs.length - (intOf i).toNat)
  case atStart => exact ⟨0, by omega, rfl, World.ownsRow_nil _ _ _ _, Below.refl _ _⟩
  case round =>
    obtain ⟨k, hk, rfl, hown, hb⟩ := hrel
    have HW := Lib.hid hb
    have hsz := hb.size
    by_cases hlt : k < xs.length
    · obtain ⟨⟨p, q⟩, hkl⟩ : ∃ l, xs[k]? = some l := ⟨_, List.getElem?_eq_getElem hlt⟩
      have hat := rngCells_at xs k _ hkl
      rw [Nat.mul_comm] at hat
      obtain ⟨ba, rfl, hla, hca, hca'⟩ : ∃ ba, a = some ⟨ba, 0, none⟩ ∧ ba < wr.heap.size ∧ wr.cell? ⟨ba, k * 2, none⟩ = some (.int .u32 p) ∧ wr.cell? ⟨ba, k * 2 + 1, none⟩ = some (.int .u32 q) := by
        rcases HA.out with h | ⟨ba, rfl, h1, h2⟩
        · omega
        · exact ⟨ba, rfl, Nat.lt_of_lt_of_le h1 hb.size, (hb.cell (p := ⟨ba, k * 2, none⟩) h1).trans (h2 _ _ hat.1), (hb.cell (p := ⟨ba, k * 2 + 1, none⟩) h1).trans (h2 _ _ hat.2)⟩
      obtain ⟨j, hj, hm, hq, hp0, hq1⟩ := hmem.out (p, q) (List.mem_of_getElem? hkl)
      dsimp only at hm hq hp0 hq1
      have hpos := two_pos j
      have hcm := (commN_block p j hp0 hj hm (by omega)).1
      rw [← hq] at hcm
      have hsn := Lib.hid (split_snoc hkl)
      rw [hcm] at hsn
      have hpj := pw_of j hj
      have hanti : ∀ m : Int, 32 - (j : Int) < m → m ≤ 32 → pw m < q - p + 1 := fun m h1 h2 => by
        obtain ⟨i, rfl⟩ : ∃ i : Nat, m = 32 - (i : Int) := ⟨(32 - m).toNat, by omega⟩
        rw [pw_of i (by omega)]
        have := two_lt i j (by omega)
        omega
      have hlast : ¬ pw (32 - (j : Int)) < q - p + 1 := by rw [hpj]; omega
      obtain ⟨n, hn⟩ : ∃ n, 32 - (j : Int) = n := ⟨_, rfl⟩
      rw [hn] at hsn hanti hlast
      have hn0 : 0 ≤ n := by omega
      have hn1 : n ≤ 32 := by omega
      have hp1 : p ≤ 4294967295 := by omega
      have hq0 : 0 ≤ q := by omega
      have hpq : p ≤ q := by omega
      have HANT := Lib.hid hanti
      have HLAST := Lib.hid hlast
      have hltI : (k : Int) < (xs.length : Int) := by omega
      have e1 : IntKind.u64.wrap q = q := u64_wrap q hq0 (by omega)
      have e2 : IntKind.u64.wrap p = p := u64_wrap p hp0 (by omega)
      have e3 : IntKind.u64.wrap (q - p) = q - p := u64_wrap _ (by omega) (by omega)
      have e4 : IntKind.u64.wrap (q - p + 1) = q - p + 1 := u64_wrap _ (by omega) (by omega)
      clear hcm hat hkl hb hn hm hpos hq hj hpj hanti hlast
      go_wp2_with fail
      go_loopw [6] (fun z wi => ∃ m : Int, n ≤ m ∧ m ≤ 32 ∧ z = .int .i64 m ∧ Below wr.heap.size wr wi) (fun z _ => (intOf z).toNat)
      case atStart => exact ⟨32, hn1, by omega, rfl, Below.refl _ _⟩
      case round =>
        obtain ⟨m, hm0, hm1, rfl, hbi⟩ := hrel
        obtain ⟨z, hz⟩ : ∃ z, pw m = z := ⟨_, rfl⟩
        have hci := (hbi.cell (p := ⟨ba, k * 2, none⟩) hla).trans hca
        have hci' := (hbi.cell (p := ⟨ba, k * 2 + 1, none⟩) hla).trans hca'
        have hli := Nat.lt_of_lt_of_le hla hbi.size
        have HBI := Lib.hid hbi
        have HSZ : Hid (∀ w, Calls Tryd.prog 50 #[.int .i64 m] w fun e w' => e = .returned (.int .u64 z) ∧ w = w') := Lib.hid fun w => hz ▸ ref_size m (by omega) hm1 w
        have HZ := Lib.hid hz
        clear hbi hz
        rcases Bool.eq_false_or_eq_true (decide (z < q - p + 1)) with gz | gz
        · have hmn : n < m := by
            have h1 := of_decide_eq_true gz
            rcases Int.lt_or_le n m with g | g
            · exact g
            · exfalso
              obtain rfl : m = n := by omega
              have h2 := HLAST.out
              rw [HZ.out] at h2
              omega
          go_wp2_with fail
          refine wp_region_later (by kernel_rfl) (by kernel_rfl) ?_
          repeat (go_big_quiet_step ((go_at_call 50; with_reducible exact calls_later_same (HSZ.out _))))
          refine wpQuiet_nil ?_
          intro w5 hw'
          have hb5 := ext_below hw'
          clear hw'
          obtain ⟨hc5, hf5⟩ := bcell hb5
          have hs5 := hb5.size
          try simp at hs5
          go_wp2
          go_roundw
          case rel => exact ⟨m - 1, by omega, by omega, by go_num, HBI.out.trans (hb5.mono HBI.out.size)⟩
          case measure => simp [intOf]; omega
        · have hmn : m = n := by
            rcases Int.lt_or_le n m with g | g
            · have := HANT.out m g hm1
              rw [HZ.out] at this
              exact absurd this (of_decide_eq_false gz)
            · omega
          subst hmn
          go_wp2_with fail
          refine wp_region_later (by kernel_rfl) (by kernel_rfl) ?_
          repeat (go_big_quiet_step ((go_at_call 50; with_reducible exact calls_later_same (HSZ.out _))))
          refine wpQuiet_nil ?_
          intro w5 hw'
          have hb5 := ext_below hw'
          clear hw'
          obtain ⟨hc5, hf5⟩ := bcell hb5
          have hs5 := hb5.size
          try simp at hs5
          have hown2 := own_below hown (HBI.out.trans (hb5.mono HBI.out.size))
          have HW2 := Lib.hid (HW.out.trans ((HBI.out.trans (hb5.mono HBI.out.size)).mono hsz))
          have hsz2 := HW2.out.size
          clear hown
          go_wp2_with (at_builtin; refine wpList_append_new rfl _ _ 54 rfl w1.heap.size 25 _ (.agg #[.int .u32 0, .int .i64 0]) 2 16 Tryd.underlying54 infoPfx rfl (by decide) _ _ _ rfl hown2 _ rfl rfl (by intro u hu; simp at hu; rcases hu with rfl | rfl <;> rfl) (by omega) (by decide) hsz2 ?_; intro v3 w3 h3 hb3 _ _)
          go_roundw
          case rel => exact ⟨k + 1, by omega, by go_num, by rw [hsn.out, pfxCells_snoc]; exact h3, HW2.out.trans hb3⟩
          case measure => simp [intOf]; omega
    · obtain rfl : k = xs.length := by omega
      rw [List.take_length] at hown
      have HO := Lib.hid (PairsAt.of_own hown)
      clear hb hown
      go_wp2
      go_ret
      exact ⟨_, rfl, HO.out, HB1.out.trans (HW.out.mono HB1.out.size)⟩
end Go.Proofs.YtekhggaafeonjaaDoor
