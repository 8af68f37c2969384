/- PrefixReads: the law. -/
import Derived.Test.YtekhggaafeonjaaDoorGen6
import Derived.Test.YtekhggaafeonjaaDoorReads
import Derived.Test.YtekhggaafeonjaaDoorSane1
namespace Go.Proofs.YtekhggaafeonjaaDoor
open Go.RowKit
set_option maxHeartbeats 4000000 in
theorem law_PrefixReads (lv : Value) (len : Nat) (a n b m x y : Int) (ha0 : 0 ≤ a) (ha1 : a ≤ 4294967295) (hn0 : -9223372036854775808 ≤ n) (hn1 : n ≤ 9223372036854775807) (hb0 : 0 ≤ b) (hb1 : b ≤ 4294967295) (hm0 : -9223372036854775808 ≤ m) (hm1 : m ≤ 9223372036854775807) (hx0 : 0 ≤ x) (hx1 : x ≤ 4294967295) (hy0 : 0 ≤ y) (hy1 : y ≤ 4294967295) (w : World) (hl : IntsAt w lv len)
    (htab : Lib.TabIs Tryd.prog w "internal/strconv.uint64pow10" .u64 Lib.pow10Tab) :
    Calls Tryd.prog 9 #[lv, .agg #[.int .u32 a, .int .i64 n], .agg #[.int .u32 b, .int .i64 m], .int .u32 x, .int .u32 y] w fun e w' => e = .returned (.bool true) ∧ Below w.heap.size w w' := by
  have HL := Lib.hid hl
  have HT := Lib.hid htab
  clear hl htab
  go_enter Tryd.func9, Tryd.ntmps9
  go_wp2_with fail
  obtain ⟨W0, hW⟩ : ∃ W, W = (w.alloc (.cells #[.int .u32 a, .int .i64 n] 25)).alloc (.cells #[.int .u32 b, .int .i64 m] 25) := ⟨_, rfl⟩
  rw [← hW]
  have hB0 : Below w.heap.size w W0 := by rw [hW]; ((repeat (first | exact Below.refl _ _ | refine Below.drew ?_ | refine Below.setCell ?_ (by first | (simp; done) | (simp; omega) | omega) _ | refine Below.alloc ?_ (by first | (simp; done) | (simp; omega) | omega) _)); done)
  have p0 : W0.cell? ⟨w.heap.size, 0, none⟩ = some (.int .u32 a) := by rw [hW, World.cell?_alloc_some _ _ _ (by rw [World.cell?_alloc_at _ _ _ _ rfl]; rfl), World.cell?_alloc_at _ _ _ _ rfl]; rfl
  have p1 : W0.cell? ⟨w.heap.size, 1, none⟩ = some (.int .i64 n) := by rw [hW, World.cell?_alloc_some _ _ _ (by rw [World.cell?_alloc_at _ _ _ _ rfl]; rfl), World.cell?_alloc_at _ _ _ _ rfl]; rfl
  have q0 : W0.cell? ⟨w.heap.size + 1, 0, none⟩ = some (.int .u32 b) := by rw [hW, World.cell?_alloc_at _ _ _ _ (by simp)]; rfl
  have q1 : W0.cell? ⟨w.heap.size + 1, 1, none⟩ = some (.int .i64 m) := by rw [hW, World.cell?_alloc_at _ _ _ _ (by simp)]; rfl
  have z0 : w.heap.size < W0.heap.size := by rw [hW]; simp; omega
  have z1 : w.heap.size + 1 < W0.heap.size := by rw [hW]; simp
  clear hW
  have HB0 := Lib.hid hB0
  refine (gen_New lv len _ (HL.out.below hB0)).mono ?_
  rintro e w1 ⟨rfl, hT1, hb1', hlt1⟩
  have P0 := Lib.hid ((hb1'.cell (p := ⟨w.heap.size, 0, none⟩) z0).trans p0)
  have P1 := Lib.hid ((hb1'.cell (p := ⟨w.heap.size, 1, none⟩) z0).trans p1)
  have Q0 := Lib.hid ((hb1'.cell (p := ⟨w.heap.size + 1, 0, none⟩) z1).trans q0)
  have Q1 := Lib.hid ((hb1'.cell (p := ⟨w.heap.size + 1, 1, none⟩) z1).trans q1)
  have HT1 := Lib.hid hT1
  have HB1 := Lib.hid (hB0.trans (hb1'.mono hB0.size))
  clear hT1 hb1' p0 p1 q0 q1 hB0
  clear HB0 HL
  have HW1 := Lib.hid (RS.refl HT1.out)
  have z0T := Nat.ne_of_lt z0
  have z1T := Nat.ne_of_lt z1
  have hwT : w.heap.size ≤ W0.heap.size := by omega
  generalize W0.heap.size = T at *
  go_wp2_with fail
  go_loopw [12] (fun i wr => ∃ k : Nat, k ≤ 4 ∧ i = .int .i64 (k : Int) ∧ RS T w1 wr) (fun i _ => 4 - (intOf i).toNat)
  case atStart =>
    exact ⟨0, by omega, rfl, HW1.out⟩
  case round =>
    obtain ⟨k, hk, rfl, hrs⟩ := hrel
    by_cases hlt : k < 4
    · have hkI : (k : Int) < 4 := by omega
      have HRS := Lib.hid hrs
      clear hrs
      go_wp2_with fail
      refine (gen_Prefix T _ (HRS.out.1)).mono ?_
      rintro e w2 ⟨xa, xn, rfl, hxa0, hxa1, hxv, hT2, hK2⟩
      have HR2 := Lib.hid (HRS.out.step hT2 hK2)
      have hxn := (valB_iff xa xn).1 hxv
      have hxn0 : -9223372036854775808 ≤ xn := by omega
      have hxn1 : xn ≤ 9223372036854775807 := by omega
      clear hT2 hK2 hxv hxn
      go_wp2_with fail
      refine (gen_Prefix T _ (HR2.out.1)).mono ?_
      rintro e w3 ⟨za, zn, rfl, hza0, hza1, hyv, hT3, hK3⟩
      have HR3 := Lib.hid (HR2.out.step hT3 hK3)
      have hyn := (valB_iff za zn).1 hyv
      have hyn0 : -9223372036854775808 ≤ zn := by omega
      have hyn1 : zn ≤ 9223372036854775807 := by omega
      clear hT3 hK3 hyv hyn
      go_wp2_with fail
      obtain ⟨W, hW⟩ : ∃ W, W = (w3.alloc (.cells #[.int .u32 xa, .int .i64 xn] 25)).alloc (.cells #[.int .u32 za, .int .i64 zn] 25) := ⟨_, rfl⟩
      rw [← hW]
      have kW : RS T w1 W := by rw [hW]; exact (HR3.out.alloc _).alloc _
      have x0 : W.cell? ⟨w3.heap.size, 0, none⟩ = some (.int .u32 xa) := by rw [hW, World.cell?_alloc_some _ _ _ (by rw [World.cell?_alloc_at _ _ _ _ rfl]; rfl), World.cell?_alloc_at _ _ _ _ rfl]; rfl
      have x1 : W.cell? ⟨w3.heap.size, 1, none⟩ = some (.int .i64 xn) := by rw [hW, World.cell?_alloc_some _ _ _ (by rw [World.cell?_alloc_at _ _ _ _ rfl]; rfl), World.cell?_alloc_at _ _ _ _ rfl]; rfl
      have y0 : W.cell? ⟨w3.heap.size + 1, 0, none⟩ = some (.int .u32 za) := by rw [hW, World.cell?_alloc_at _ _ _ _ (by simp)]; rfl
      have y1 : W.cell? ⟨w3.heap.size + 1, 1, none⟩ = some (.int .i64 zn) := by rw [hW, World.cell?_alloc_at _ _ _ _ (by simp)]; rfl
      have s0 : w3.heap.size < W.heap.size := by rw [hW]; simp; omega
      have s1 : w3.heap.size + 1 < W.heap.size := by rw [hW]; simp
      have hlt3 := HR3.out.1.lt
      have hmk : ∀ w', RS T W w' → w'.cell? ⟨w3.heap.size, 0, none⟩ = some (.int .u32 xa) ∧ w'.cell? ⟨w3.heap.size, 1, none⟩ = some (.int .i64 xn) ∧ w'.cell? ⟨w3.heap.size + 1, 0, none⟩ = some (.int .u32 za) ∧ w'.cell? ⟨w3.heap.size + 1, 1, none⟩ = some (.int .i64 zn) ∧ RS T W w' := fun w' h => ⟨(h.cell s0 (by omega)).trans x0, (h.cell s0 (by omega)).trans x1, (h.cell s1 (by omega)).trans y0, (h.cell s1 (by omega)).trans y1, h⟩
      have HMK := Lib.hid hmk
      have KW := Lib.hid kW
      clear hW kW hmk x0 x1 y0 y1
      go_region_held3 (fun w' => w'.cell? ⟨w3.heap.size, 0, none⟩ = some (.int .u32 xa) ∧ w'.cell? ⟨w3.heap.size, 1, none⟩ = some (.int .i64 xn) ∧ w'.cell? ⟨w3.heap.size + 1, 0, none⟩ = some (.int .u32 za) ∧ w'.cell? ⟨w3.heap.size + 1, 1, none⟩ = some (.int .i64 zn) ∧ RS T W w') (exact HMK.out _ (by first | exact RS.drew (RS.refl KW.out.1) | exact (‹_ ∧ _ ∧ _ ∧ _ ∧ RS T _ _›).2.2.2.2 | exact RS.step (‹_ ∧ _ ∧ _ ∧ _ ∧ RS T _ _›).2.2.2.2 (by assumption) (by assumption) | exact RS.below (‹_ ∧ _ ∧ _ ∧ _ ∧ RS T _ _›).2.2.2.2 (by assumption) | exact RS.alloc (‹_ ∧ _ ∧ _ ∧ _ ∧ RS T _ _›).2.2.2.2 _)) ((first | (go_at_call 15; refine (gen_Addr T _ (‹_ ∧ _ ∧ _ ∧ _ ∧ RS T _ _›).2.2.2.2.1).mono ?_; rintro e w' ⟨c, rfl, hc0, hc1, hT', hK'⟩) | (go_at_call 27; refine (gen_SpoilPrefix T xa xn hxa0 hxa1 hxn0 hxn1 _ (‹_ ∧ _ ∧ _ ∧ _ ∧ RS T _ _›).2.2.2.2.1).mono ?_; rintro e w' ⟨sa, sn, rfl, hsa0, hsa1, hsn0, hsn1, hT', hK'⟩) | (go_at_call 36; refine (law_reads _ _ _ _ _ _ (by assumption) (by assumption) (by assumption) (by assumption) (by assumption) (by assumption) (by assumption) (by assumption) _).mono ?_; rintro e w' ⟨rfl, hb'⟩)))
      obtain ⟨_, _, _, _, hE⟩ := ‹_ ∧ _ ∧ _ ∧ _ ∧ RS T _ _›
      have HE := Lib.hid (show RS T w1 w' from ⟨hE.1, KW.out.2.trans hE.2⟩)
      clear hE hb' hT' hK'
      go_wp2
      exact ⟨⟨k + 1, by omega, by go_num, HE.out⟩, by simp [intOf]; omega⟩
    · obtain rfl : k = 4 := by omega
      have c0 := (hrs.cell (by omega) z0T).trans P0.out
      have c1 := (hrs.cell (by omega) z0T).trans P1.out
      have d0 := (hrs.cell (by omega) z1T).trans Q0.out
      have d1 := (hrs.cell (by omega) z1T).trans Q1.out
      have hsz := hrs.2.size
      have HB := Lib.hid (HB1.out.trans (hrs.2.below hwT (by omega)))
      clear hrs
      have hk4 : (((4 : Nat) : Int)) = 4 := rfl
      go_wp2_with fail
      refine (law_reads a n b m x y ha0 ha1 hb0 hb1 hx0 hx1 hy0 hy1 _).mono ?_
      rintro e w2 ⟨rfl, hb2⟩
      have HB2 := Lib.hid (HB.out.trans (hb2.mono HB.out.size))
      clear hb2
      go_wp2_with fail
      refine (law1_sane _ (tab_below HT.out (Nat.le_refl _) HB2.out)).mono ?_
      rintro e w3 ⟨rfl, hb3⟩
      have HB3 := Lib.hid (HB2.out.trans (hb3.mono HB2.out.size))
      clear hb3
      go_wp2_with fail
      go_ret
      exact ⟨rfl, HB3.out⟩
end Go.Proofs.YtekhggaafeonjaaDoor
