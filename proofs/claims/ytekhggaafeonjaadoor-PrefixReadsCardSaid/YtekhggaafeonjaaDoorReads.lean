/- PrefixReads: the walk of reads (printed by gen_reads.py). -/
import Derived.Test.YtekhggaafeonjaaDoorNest
import Derived.Test.YtekhggaafeonjaaDoorBox
namespace Go.Proofs.YtekhggaafeonjaaDoor
open Go.RowKit
set_option maxHeartbeats 8000000 in
theorem reads_walk (a n b m x y lo hi ua un va vn : Int) (ok hv : Bool) (ha0 : 0 ≤ a) (ha1 : a ≤ 4294967295) (hb0 : 0 ≤ b) (hb1 : b ≤ 4294967295) (hx0 : 0 ≤ x) (hx1 : x ≤ 4294967295) (hy0 : 0 ≤ y) (hy1 : y ≤ 4294967295)
    (ho1 : ∀ w, Calls Tryd.prog 52 #[.agg #[.int .u32 a, .int .i64 n]] w fun e w' => e = .returned (.tuple #[.agg #[.int .u32 lo, .int .u32 hi], .bool ok]) ∧ Below w.heap.size w w') (ho2 : ∀ w, Calls Tryd.prog 40 #[.agg #[.int .u32 a, .int .i64 n]] w fun e w' => e = .returned (.tuple #[.agg #[.int .u32 lo, .int .u32 hi], .bool ok]) ∧ Below w.heap.size w w')
    (hh1 : ∀ w, Calls Tryd.prog 34 #[.agg #[.int .u32 a, .int .i64 n]] w fun e w' => e = .returned (.tuple #[.agg #[.int .u32 ua, .int .i64 un], .agg #[.int .u32 va, .int .i64 vn], .bool hv]) ∧ Below w.heap.size w w') (hh2 : ∀ w, Calls Tryd.prog 53 #[.agg #[.int .u32 a, .int .i64 n]] w fun e w' => e = .returned (.tuple #[.agg #[.int .u32 ua, .int .i64 un], .agg #[.int .u32 va, .int .i64 vn], .bool hv]) ∧ Below w.heap.size w w') (w : World) :
    Calls Tryd.prog 36 #[.agg #[.int .u32 a, .int .i64 n], .agg #[.int .u32 b, .int .i64 m], .int .u32 x, .int .u32 y] w fun e w' => e = .returned (.bool true) ∧ Below w.heap.size w w' := by
  have HO1 := Lib.hid ho1
  have HO2 := Lib.hid ho2
  have HH1 := Lib.hid hh1
  have HH2 := Lib.hid hh2
  obtain ⟨v, g0⟩ : ∃ c, valB a n = c := ⟨_, rfl⟩
  obtain ⟨c1, g1⟩ : ∃ c, contB a n x = c := ⟨_, rfl⟩
  obtain ⟨k1, g3⟩ : ∃ c, coverB a n b m = c := ⟨_, rfl⟩
  obtain ⟨d, hd⟩ : ∃ d, commN x y = d := ⟨_, rfl⟩
  obtain ⟨e, he⟩ : ∃ e, x / pw d * pw d = e := ⟨_, rfl⟩
  have GP := Lib.hid g0
  have G1 := Lib.hid g1
  have G3 := Lib.hid g3
  have GD := Lib.hid hd
  have GE := Lib.hid he
  clear g0 g1 g3 hd he ho1 ho2 hh1 hh2
  go_enter Tryd.func36, Tryd.ntmps36
  go_wp2_with fail
  have z00 : w.heap.size < (w.alloc (.cells #[.int .u32 a, .int .i64 n] 25)).heap.size := by simp
  obtain ⟨W0, hW⟩ : ∃ W, W = (w.alloc (.cells #[.int .u32 a, .int .i64 n] 25)).alloc (.cells #[.int .u32 b, .int .i64 m] 25) := ⟨_, rfl⟩
  have BP := Lib.hid ((Box.new w #[.int .u32 a, .int .i64 n] 25).alloc (.cells #[.int .u32 b, .int .i64 m] 25))
  have BQ := Lib.hid (Box.new (w.alloc (.cells #[.int .u32 a, .int .i64 n] 25)) #[.int .u32 b, .int .i64 m] 25)
  have HB0 : Below w.heap.size w W0 := by rw [hW]; ((repeat (first | exact Below.refl _ _ | refine Below.drew ?_ | refine Below.setCell ?_ (by first | (simp; done) | (simp; omega) | omega) _ | refine Below.alloc ?_ (by first | (simp; done) | (simp; omega) | omega) _)); done)
  have hz : (w.alloc (.cells #[.int .u32 a, .int .i64 n] 25)).heap.size = w.heap.size + 1 := by simp
  rw [hz] at BQ
  rw [← hW] at BP BQ ⊢
  clear hW hz z00
  replace HB0 := Lib.hid HB0
  refine (HO1.out _).mono ?_
  rintro e w1 ⟨rfl, hb⟩
  have HB1 := Lib.hid (HB0.out.trans (hb.mono HB0.out.size))
  replace BP := Lib.hid (BP.out.below hb BP.out.lt)
  replace BQ := Lib.hid (BQ.out.below hb BQ.out.lt)
  clear hb HB0
  have p0 := BP.out.cell 0 _ rfl
  have p1 := BP.out.cell 1 _ rfl
  have zp := BP.out.lt
  go_wp2_with fail
  clear p0 p1 zp
  have BR := Lib.hid (Box.new w1 #[.int .u32 lo, .int .u32 hi] 44)
  replace BP := Lib.hid (BP.out.alloc (.cells #[.int .u32 lo, .int .u32 hi] 44))
  replace BQ := Lib.hid (BQ.out.alloc (.cells #[.int .u32 lo, .int .u32 hi] 44))
  replace HB1 := Lib.hid (show Below w.heap.size w (w1.alloc (.cells #[.int .u32 lo, .int .u32 hi] 44)) from (HB1.out.alloc HB1.out.size _))
  generalize w1.alloc (.cells #[.int .u32 lo, .int .u32 hi] 44) = W1 at *
  refine (HO2.out _).mono ?_
  rintro e w2 ⟨rfl, hb⟩
  have HB2 := Lib.hid (HB1.out.trans (hb.mono HB1.out.size))
  replace BP := Lib.hid (BP.out.below hb BP.out.lt)
  replace BQ := Lib.hid (BQ.out.below hb BQ.out.lt)
  replace BR := Lib.hid (BR.out.below hb BR.out.lt)
  clear hb HB1
  have p0 := BP.out.cell 0 _ rfl
  have p1 := BP.out.cell 1 _ rfl
  have zp := BP.out.lt
  go_wp2_with fail
  clear p0 p1 zp
  have BS := Lib.hid (Box.new w2 #[.int .u32 lo, .int .u32 hi] 44)
  replace BP := Lib.hid (BP.out.alloc (.cells #[.int .u32 lo, .int .u32 hi] 44))
  replace BQ := Lib.hid (BQ.out.alloc (.cells #[.int .u32 lo, .int .u32 hi] 44))
  replace BR := Lib.hid (BR.out.alloc (.cells #[.int .u32 lo, .int .u32 hi] 44))
  replace HB2 := Lib.hid (show Below w.heap.size w (w2.alloc (.cells #[.int .u32 lo, .int .u32 hi] 44)) from (HB2.out.alloc HB2.out.size _))
  generalize w2.alloc (.cells #[.int .u32 lo, .int .u32 hi] 44) = W2 at *
  refine (HH1.out _).mono ?_
  rintro e w3 ⟨rfl, hb⟩
  have HB3 := Lib.hid (HB2.out.trans (hb.mono HB2.out.size))
  replace BP := Lib.hid (BP.out.below hb BP.out.lt)
  replace BQ := Lib.hid (BQ.out.below hb BQ.out.lt)
  replace BR := Lib.hid (BR.out.below hb BR.out.lt)
  replace BS := Lib.hid (BS.out.below hb BS.out.lt)
  clear hb HB2
  have p0 := BP.out.cell 0 _ rfl
  have p1 := BP.out.cell 1 _ rfl
  have zp := BP.out.lt
  go_wp2_with fail
  clear p0 p1 zp
  have BX := Lib.hid (Box.new w3 #[.int .u32 ua, .int .i64 un] 25)
  replace BP := Lib.hid (BP.out.alloc (.cells #[.int .u32 ua, .int .i64 un] 25))
  replace BQ := Lib.hid (BQ.out.alloc (.cells #[.int .u32 ua, .int .i64 un] 25))
  replace BR := Lib.hid (BR.out.alloc (.cells #[.int .u32 ua, .int .i64 un] 25))
  replace BS := Lib.hid (BS.out.alloc (.cells #[.int .u32 ua, .int .i64 un] 25))
  have BY := Lib.hid (Box.new (w3.alloc (.cells #[.int .u32 ua, .int .i64 un] 25)) #[.int .u32 va, .int .i64 vn] 25)
  replace BP := Lib.hid (BP.out.alloc (.cells #[.int .u32 va, .int .i64 vn] 25))
  replace BQ := Lib.hid (BQ.out.alloc (.cells #[.int .u32 va, .int .i64 vn] 25))
  replace BR := Lib.hid (BR.out.alloc (.cells #[.int .u32 va, .int .i64 vn] 25))
  replace BS := Lib.hid (BS.out.alloc (.cells #[.int .u32 va, .int .i64 vn] 25))
  replace BX := Lib.hid (BX.out.alloc (.cells #[.int .u32 va, .int .i64 vn] 25))
  replace HB3 := Lib.hid (show Below w.heap.size w ((w3.alloc (.cells #[.int .u32 ua, .int .i64 un] 25)).alloc (.cells #[.int .u32 va, .int .i64 vn] 25)) from ((HB3.out.alloc HB3.out.size _).alloc (HB3.out.alloc HB3.out.size _).size _))
  have hz : (w3.alloc (.cells #[.int .u32 ua, .int .i64 un] 25)).heap.size = w3.heap.size + 1 := by simp
  rw [hz] at BY
  clear hz
  generalize (w3.alloc (.cells #[.int .u32 ua, .int .i64 un] 25)).alloc (.cells #[.int .u32 va, .int .i64 vn] 25) = W3 at *
  refine (HH2.out _).mono ?_
  rintro e w4 ⟨rfl, hb⟩
  have HB4 := Lib.hid (HB3.out.trans (hb.mono HB3.out.size))
  replace BP := Lib.hid (BP.out.below hb BP.out.lt)
  replace BQ := Lib.hid (BQ.out.below hb BQ.out.lt)
  replace BR := Lib.hid (BR.out.below hb BR.out.lt)
  replace BS := Lib.hid (BS.out.below hb BS.out.lt)
  replace BX := Lib.hid (BX.out.below hb BX.out.lt)
  replace BY := Lib.hid (BY.out.below hb BY.out.lt)
  clear hb HB3
  have p0 := BP.out.cell 0 _ rfl
  have p1 := BP.out.cell 1 _ rfl
  have zp := BP.out.lt
  go_wp2_with fail
  clear p0 p1 zp
  have BV := Lib.hid (Box.new w4 #[.int .u32 ua, .int .i64 un] 25)
  replace BP := Lib.hid (BP.out.alloc (.cells #[.int .u32 ua, .int .i64 un] 25))
  replace BQ := Lib.hid (BQ.out.alloc (.cells #[.int .u32 ua, .int .i64 un] 25))
  replace BR := Lib.hid (BR.out.alloc (.cells #[.int .u32 ua, .int .i64 un] 25))
  replace BS := Lib.hid (BS.out.alloc (.cells #[.int .u32 ua, .int .i64 un] 25))
  replace BX := Lib.hid (BX.out.alloc (.cells #[.int .u32 ua, .int .i64 un] 25))
  replace BY := Lib.hid (BY.out.alloc (.cells #[.int .u32 ua, .int .i64 un] 25))
  have BW := Lib.hid (Box.new (w4.alloc (.cells #[.int .u32 ua, .int .i64 un] 25)) #[.int .u32 va, .int .i64 vn] 25)
  replace BP := Lib.hid (BP.out.alloc (.cells #[.int .u32 va, .int .i64 vn] 25))
  replace BQ := Lib.hid (BQ.out.alloc (.cells #[.int .u32 va, .int .i64 vn] 25))
  replace BR := Lib.hid (BR.out.alloc (.cells #[.int .u32 va, .int .i64 vn] 25))
  replace BS := Lib.hid (BS.out.alloc (.cells #[.int .u32 va, .int .i64 vn] 25))
  replace BX := Lib.hid (BX.out.alloc (.cells #[.int .u32 va, .int .i64 vn] 25))
  replace BY := Lib.hid (BY.out.alloc (.cells #[.int .u32 va, .int .i64 vn] 25))
  replace BV := Lib.hid (BV.out.alloc (.cells #[.int .u32 va, .int .i64 vn] 25))
  replace HB4 := Lib.hid (show Below w.heap.size w ((w4.alloc (.cells #[.int .u32 ua, .int .i64 un] 25)).alloc (.cells #[.int .u32 va, .int .i64 vn] 25)) from ((HB4.out.alloc HB4.out.size _).alloc (HB4.out.alloc HB4.out.size _).size _))
  have hz : (w4.alloc (.cells #[.int .u32 ua, .int .i64 un] 25)).heap.size = w4.heap.size + 1 := by simp
  rw [hz] at BW
  clear hz
  generalize (w4.alloc (.cells #[.int .u32 ua, .int .i64 un] 25)).alloc (.cells #[.int .u32 va, .int .i64 vn] 25) = W4 at *
  have bp0 := BP.out.cell 0 _ rfl
  have bp1 := BP.out.cell 1 _ rfl
  have zbp := BP.out.lt
  have bq0 := BQ.out.cell 0 _ rfl
  have bq1 := BQ.out.cell 1 _ rfl
  have zbq := BQ.out.lt
  have br0 := BR.out.cell 0 _ rfl
  have br1 := BR.out.cell 1 _ rfl
  have zbr := BR.out.lt
  have bs0 := BS.out.cell 0 _ rfl
  have bs1 := BS.out.cell 1 _ rfl
  have zbs := BS.out.lt
  have bx0 := BX.out.cell 0 _ rfl
  have bx1 := BX.out.cell 1 _ rfl
  have zbx := BX.out.lt
  have by0 := BY.out.cell 0 _ rfl
  have by1 := BY.out.cell 1 _ rfl
  have zby := BY.out.lt
  have bv0 := BV.out.cell 0 _ rfl
  have bv1 := BV.out.cell 1 _ rfl
  have zbv := BV.out.lt
  have bw0 := BW.out.cell 0 _ rfl
  have bw1 := BW.out.cell 1 _ rfl
  have zbw := BW.out.lt
  refine wp_region_later (by kernel_rfl) (by kernel_rfl) ?_
  repeat (go_big_quiet_step ((first | (go_at_call 24; with_reducible exact calls_later (prefix_ValidB a n ha0 ha1 GP.out _)) | (go_at_call 38; with_reducible exact calls_later (ref_Valid a n ha0 ha1 GP.out _)) | (go_at_call 35; with_reducible exact calls_later (prefix_ContainsB a n x ha0 ha1 hx0 hx1 G1.out _)) | (go_at_call 54; with_reducible exact calls_later (ref_Contains a n x ha0 ha1 G1.out _)) | (go_at_call 48; with_reducible exact calls_later (prefix_CoversB a n b m ha0 ha1 hb0 hb1 G3.out _)) | (go_at_call 55; with_reducible exact calls_later (ref_Covers a n b m ha0 ha1 hb0 hb1 G3.out _)) | (go_at_call 33; with_reducible exact calls_later (prefix_CommonP x y hx0 hx1 hy0 hy1 GD.out GE.out _)) | (go_at_call 56; with_reducible exact calls_later (ref_Common x y hx0 hx1 hy0 hy1 GD.out GE.out _)))))
  refine wpQuiet_nil ?_
  intro w5 hw'
  have hb5 := ext_below hw'
  clear hw'
  obtain ⟨hc5, hf5⟩ := bcell hb5
  have hs5 := hb5.size
  try simp at hs5
  go_wp2
  go_ret
  exact ⟨rfl, by ((repeat (first | exact Below.refl _ _ | refine Below.drew ?_ | refine Below.setCell ?_ (by first | (simp; done) | (simp; omega) | omega) _ | refine Below.alloc ?_ (by first | (simp; done) | (simp; omega) | omega) _ | refine Below.trans ?_ (Below.mono hb5 (by first | (simp; done) | (simp; omega) | omega)) | refine Below.trans ?_ (Below.mono HB4.out (by first | (simp; done) | (simp; omega) | omega)))); done)⟩
theorem law_reads (a n b m x y : Int) (ha0 : 0 ≤ a) (ha1 : a ≤ 4294967295) (hb0 : 0 ≤ b) (hb1 : b ≤ 4294967295) (hx0 : 0 ≤ x) (hx1 : x ≤ 4294967295) (hy0 : 0 ≤ y) (hy1 : y ≤ 4294967295) (w : World) :
    Calls Tryd.prog 36 #[.agg #[.int .u32 a, .int .i64 n], .agg #[.int .u32 b, .int .i64 m], .int .u32 x, .int .u32 y] w fun e w' => e = .returned (.bool true) ∧ Below w.heap.size w w' := by
  rcases Bool.eq_false_or_eq_true (valB a n) with hv | hv
  · by_cases h31 : n ≤ 31
    · exact reads_walk a n b m x y _ _ _ _ _ _ _ _ ha0 ha1 hb0 hb1 hx0 hx1 hy0 hy1 (prefix_Of_yes a n ha0 ha1 hv) (ref_Of_yes a n ha0 ha1 hv) (prefix_Halves_yes a n ha0 ha1 hv h31) (ref_Halves_yes a n ha0 ha1 hv h31) w
    · have hb := (valB_iff a n).1 hv
      obtain rfl : n = 32 := by omega
      exact reads_walk a 32 b m x y _ _ _ _ _ _ _ _ ha0 ha1 hb0 hb1 hx0 hx1 hy0 hy1 (prefix_Of_yes a 32 ha0 ha1 hv) (ref_Of_yes a 32 ha0 ha1 hv) (prefix_Halves_no a 32 ha0 ha1 (by simp)) (ref_Halves_no a 32 ha0 ha1 (by simp)) w
  · exact reads_walk a n b m x y _ _ _ _ _ _ _ _ ha0 ha1 hb0 hb1 hx0 hx1 hy0 hy1 (prefix_Of_no a n ha0 ha1 hv) (ref_Of_no a n ha0 ha1 hv) (prefix_Halves_no a n ha0 ha1 (by rw [hv]; rfl)) (ref_Halves_no a n ha0 ha1 (by rw [hv]; rfl)) w
end Go.Proofs.YtekhggaafeonjaaDoor
