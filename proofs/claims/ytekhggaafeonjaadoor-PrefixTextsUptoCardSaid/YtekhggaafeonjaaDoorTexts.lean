/- PrefixTexts: the walk. -/
import Derived.Test.YtekhggaafeonjaaDoorTxt
import Derived.Test.YtekhggaafeonjaaDoorRefT4
import Derived.Test.YtekhggaafeonjaaDoorRTLaw
namespace Go.Proofs.YtekhggaafeonjaaDoor
open Go.RowKit
theorem fmtP_len (a n : Int) (hv : valB a n = true) : (⟨(fmtP a n).toArray⟩ : ByteArray).size ≤ 1000 := by
  have hb := (valB_iff a n).1 hv
  have h1 := fmtTo_len a 4 (by omega)
  have h2 := dec3 n.toNat (by omega)
  rw [size_list]
  simp only [fmtP, List.length_append, List.length_singleton]
  omega
theorem fmtA_len (a : Int) : (⟨(fmtTo a 4).toArray⟩ : ByteArray).size ≤ 1000 := by
  have h1 := fmtTo_len a 4 (by omega)
  rw [size_list]
  omega
theorem ref_FormatB (a n : Int) (ha0 : 0 ≤ a) (ha1 : a ≤ 4294967295) {b : Bool} (hb : valB a n = b) (w : World) :
    Calls Tryd.prog 12 #[.agg #[.int .u32 a, .int .i64 n]] w fun e w' => e = .returned (.string ⟨(if b then fmtP a n else []).toArray⟩) ∧ Below w.heap.size w w' := by
  cases b
  · exact ref_Format_no a n ha0 ha1 hb w
  · exact ref_Format_yes a n ha0 ha1 hb w
theorem six_strings (w : World) (t : TypeId) (s0 s1 s2 s3 s4 s5 : ByteArray) (N : Nat) (h : s0.size ≤ N ∧ s1.size ≤ N ∧ s2.size ≤ N ∧ s3.size ≤ N ∧ s4.size ≤ N ∧ s5.size ≤ N) :
    ∃ L : List ByteArray, L.length = 6 ∧ (∀ (j : Nat) (u : ByteArray), L[j]? = some u → u.size ≤ N) ∧ Box (w.alloc (.cells #[.string s0, .string s1, .string s2, .string s3, .string s4, .string s5] t)) w.heap.size (L.map .string) := by
  refine ⟨[s0, s1, s2, s3, s4, s5], rfl, fun j u hj => ?_, Box.new w _ t⟩
  have hm := List.mem_of_getElem? hj
  simp only [List.mem_cons, List.not_mem_nil, or_false] at hm
  rcases hm with rfl | rfl | rfl | rfl | rfl | rfl <;> omega
set_option maxHeartbeats 1000000 in
set_option maxRecDepth 100000 in
theorem law_PrefixTexts (lv : Value) (len : Nat) (s : ByteArray) (x a n : Int) (hs : s.size ≤ 1048576) (hx0 : 0 ≤ x) (hx1 : x ≤ 4294967295) (ha0 : 0 ≤ a) (ha1 : a ≤ 4294967295) (hn0 : -9223372036854775808 ≤ n) (hn1 : n ≤ 9223372036854775807) (w : World) (hl : IntsAt w lv len)
    (htab : Lib.TabIs Tryd.prog w "internal/strconv.uint64pow10" .u64 Lib.pow10Tab) :
    Calls Tryd.prog 3 #[lv, .string s, .int .u32 x, .agg #[.int .u32 a, .int .i64 n]] w fun e w' => e = .returned (.bool true) ∧ Below w.heap.size w w' := by
  have HL := Lib.hid hl
  have HT := Lib.hid htab
  clear hl htab
  go_enter Tryd.func3, Tryd.ntmps3
  go_wp2_with fail
  have hP0 := Box.new w #[.int .u32 a, .int .i64 n] 25
  obtain ⟨W0, hW⟩ : ∃ W, W = (w.alloc (.cells #[.int .u32 a, .int .i64 n] 25)) := ⟨_, rfl⟩
  rw [← hW] at hP0 ⊢
  have hB0 : Below w.heap.size w W0 := by rw [hW]; ((repeat (first | exact Below.refl _ _ | refine Below.drew ?_ | refine Below.setCell ?_ (by first | (simp; done) | (simp; omega) | omega) _ | refine Below.alloc ?_ (by first | (simp; done) | (simp; omega) | omega) _)); done)
  have z0 : w.heap.size < W0.heap.size := by rw [hW]; simp
  clear hW
  refine (gen_New lv len _ (HL.out.below hB0)).mono ?_
  rintro e w1 ⟨rfl, hT1, hb1', hlt1⟩
  have HP1 := Lib.hid (hP0.below hb1' z0)
  have HT1 := Lib.hid hT1
  have HB1 := Lib.hid (hB0.trans (hb1'.mono hB0.size))
  clear hT1 hb1' hB0 HL hP0
  have HW1 := Lib.hid (RS.refl HT1.out)
  have z0T := Nat.ne_of_lt z0
  have hwT : w.heap.size ≤ W0.heap.size := by omega
  generalize W0.heap.size = T at *
  go_wp2_with fail
  refine (gen_Prefix T _ HW1.out.1).mono ?_
  rintro e w2 ⟨xa, xn, rfl, hxa0, hxa1, hxv, hT2, hK2⟩
  have HR2 := Lib.hid (HW1.out.step hT2 hK2)
  have HP2 := Lib.hid (HP1.out.keep hK2 z0T)
  have fsz := Lib.hid (fmtP_len xa xn hxv)
  clear hT2 hK2 HW1 HP1
  go_wp2_with fail
  obtain ⟨W, hW⟩ : ∃ W, W = (w2.alloc (.cells #[.int .u32 xa, .int .i64 xn] 25)) := ⟨_, rfl⟩
  rw [← hW]
  have HX := Lib.hid (show Box W w2.heap.size [.int .u32 xa, .int .i64 xn] from by rw [hW]; exact Box.new w2 #[.int .u32 xa, .int .i64 xn] 25)
  have HP3 := Lib.hid (show Box W w.heap.size [.int .u32 a, .int .i64 n] from by rw [hW]; exact HP2.out.alloc _)
  have KW := Lib.hid (show RS T w1 W from by rw [hW]; exact HR2.out.alloc _)
  have hX0 : w2.heap.size ≠ T := by have := HR2.out.1.lt; omega
  clear hW HP2 HR2
  have hmk : ∀ w', RS T W w' → w'.cell? ⟨w2.heap.size, 0, none⟩ = some (.int .u32 xa) ∧ w'.cell? ⟨w2.heap.size, 1, none⟩ = some (.int .i64 xn) ∧ RS T W w' := fun w' h => ⟨(HX.out.keep h.2 hX0).cell 0 _ rfl, (HX.out.keep h.2 hX0).cell 1 _ rfl, h⟩
  have HMK := Lib.hid hmk
  clear hmk
  generalize w2.heap.size = X at *
  go_region_held3 (fun w' => w'.cell? ⟨X, 0, none⟩ = some (.int .u32 xa) ∧ w'.cell? ⟨X, 1, none⟩ = some (.int .i64 xn) ∧ RS T W w') (exact HMK.out _ (by first | exact RS.drew (RS.refl KW.out.1) | exact (‹_ ∧ _ ∧ RS T _ _›).2.2 | exact RS.step (‹_ ∧ _ ∧ RS T _ _›).2.2 (by assumption) (by assumption) | exact RS.below (‹_ ∧ _ ∧ RS T _ _›).2.2 (by assumption) | exact RS.alloc (‹_ ∧ _ ∧ RS T _ _›).2.2 _)) ((first | (go_at_call 15; refine (gen_Addr T _ (‹_ ∧ _ ∧ RS T _ _›).2.2.1).mono ?_; rintro e w' ⟨c, rfl, hc0, hc1, hT', hK'⟩) | (go_at_call 12; refine (ref_Format_yes xa xn hxa0 hxa1 hxv _).mono ?_; rintro e w' ⟨rfl, hb'⟩) | (go_at_call 14; refine (ref_FormatAddr _ (by assumption) (by assumption) _).mono ?_; rintro e w' ⟨rfl, hb'⟩) | (go_at_call 13; refine (gen_Text T _ (by first | exact Nat.le_trans fsz.out (by decide) | exact Nat.le_trans (fmtA_len _) (by decide) | (have := fsz.out; omega)) _ (‹_ ∧ _ ∧ RS T _ _›).2.2.1).mono ?_; rintro e w' ⟨u, rfl, hu, hT', hK'⟩)))
  have fs := fsz.out
  have hTw : T < w'.heap.size := hT'.lt
  rename_i v9 hb3 v8 hb2 v7 u2 hu2 t4 k4 v6 c0 p0 p1 t3 k3 v5 hb1 v4 t2 k2 v3 hb0 v2 u1 hu1 t1 k1 v1 v0 uu huu t0 k0 hinv
  have hA := fmtA_len c
  obtain ⟨L, hL6, hLs, hLb⟩ := six_strings w' 9 s ⟨(fmtP xa xn).toArray⟩ u2 ⟨(fmtTo c0 4).toArray⟩ u1 u 1048577 ⟨by omega, by omega, by omega, Nat.le_trans (fmtA_len _) (by decide), by omega, by omega⟩
  have HR7 := Lib.hid hinv.2.2
  clear hb3 hb2 t4 k4 t3 k3 hb1 t2 k2 hb0 t1 k1 hb' t0 k0 hT' hK' hu huu hu1 hu2 hinv fs hA fsz HMK
  generalize w'.alloc (.cells #[.string s, .string ⟨(fmtP xa xn).toArray⟩, .string u2, .string ⟨(fmtTo c0 4).toArray⟩, .string u1, .string u] 9) = W7 at *
  have HLB := Lib.hid hLb
  have HX7 := Lib.hid (HX.out.keep HR7.out.2 hX0)
  have HP7 := Lib.hid (HP3.out.keep HR7.out.2 z0T)
  have HB7 := Lib.hid (HB1.out.trans ((KW.out.2.trans HR7.out.2).below hwT (by omega)))
  have GX := Lib.hid hxv
  clear hLb HX HP3 HB1 hxv
  generalize w'.heap.size = LB at *
  go_wp2_with fail
  have hLsz := HLB.out.lt
  go_loopw [12] (fun i wr => ∃ k : Nat, k ≤ 6 ∧ i = .int .i64 (k : Int) ∧ Below W7.heap.size W7 wr) (fun i _ => 6 - (intOf i).toNat)
  case atStart =>
    exact ⟨0, by omega, rfl, Below.refl _ _⟩
  case round =>
    obtain ⟨k, hk, rfl, hrb⟩ := hrel
    by_cases hlt : k < 6
    · have hkI : (k : Int) < 6 := by omega
      obtain ⟨t, ht⟩ : ∃ t, L[k]? = some t := ⟨_, List.getElem?_eq_getElem (by omega)⟩
      have hts := hLs k t ht
      have hq : ∀ w', Below W7.heap.size W7 w' → w'.cell? ⟨LB, k, none⟩ = some (.string t) := fun w' h => (HLB.out.below h hLsz).cell k _ (by rw [List.getElem?_map, ht]; rfl)
      have HQ := Lib.hid hq
      have q0 := hq wr hrb
      clear hq
      obtain ⟨⟨ca, cis⟩, hpa⟩ : ∃ r, paRes t.data.toList = r := ⟨_, rfl⟩
      obtain ⟨⟨qa, qn, qis⟩, hpp⟩ : ∃ r, parseP t = r := ⟨_, rfl⟩
      have hpr := Lib.hid ((addr_same _).symm.trans hpa)
      have hpq := Lib.hid ((prefix_same _).symm.trans hpp)
      have HPA := Lib.hid hpa
      have HPP := Lib.hid hpp
      have HRB := Lib.hid hrb
      clear hpa hpp ht hrb
      go_wp2_with fail
      refine (prefix_ParseAddr t (Nat.le_trans hts (by unfold maxLen; decide)) ca cis HPA.out _).mono ?_
      rintro e x1 ⟨rfl, hb1⟩
      have HX1 := Lib.hid (HRB.out.trans (hb1.mono HRB.out.size))
      have q1 := HQ.out x1 HX1.out
      clear hb1 q0 HRB
      go_wp2_with fail
      refine (ref_ParseAddr t (Nat.le_trans hts (by decide)) ca cis hpr.out _).mono ?_
      rintro e x2 ⟨rfl, hb2⟩
      have HX2 := Lib.hid (HX1.out.trans (hb2.mono HX1.out.size))
      have q2 := HQ.out x2 HX2.out
      clear hb2 q1 HX1
      go_wp2_with fail
      refine (prefix_Parse t (Nat.le_trans hts (by unfold maxLen; decide)) qa qn qis HPP.out _).mono ?_
      rintro e x3 ⟨rfl, hb3⟩
      have HX3 := Lib.hid (HX2.out.trans (hb3.mono HX2.out.size))
      clear hb3 q2 HX2
      have z3 := HX3.out.size
      have hbx := Box.new x3 #[.int .u32 qa, .int .i64 qn] 25
      have HX4 := Lib.hid (show Below W7.heap.size W7 (x3.alloc (.cells #[.int .u32 qa, .int .i64 qn] 25)) from by ((repeat (first | exact Below.refl _ _ | refine Below.drew ?_ | refine Below.setCell ?_ (by first | (simp; done) | (simp; omega) | omega) _ | refine Below.alloc ?_ (by first | (simp; done) | (simp; omega) | omega) _ | refine Below.trans ?_ (Below.mono HX3.out (by first | (simp; done) | (simp; omega) | omega)))); done))
      have q3 := HQ.out _ HX4.out
      have z4 := HX4.out.size
      go_wp2_with fail
      generalize x3.alloc (.cells #[.int .u32 qa, .int .i64 qn] 25) = x4 at *
      generalize x3.heap.size = Q1 at *
      refine (ref_Parse t (Nat.le_trans hts (by decide)) qa qn qis hpq.out _).mono ?_
      rintro e x5 ⟨rfl, hb5⟩
      have HX5 := Lib.hid (HX4.out.trans (hb5.mono HX4.out.size))
      have hbx5 := hbx.below hb5 hbx.lt
      have hz5 := hbx5.lt
      have z5 := HX5.out.size
      clear hb5 q3 HX3 HX4 hbx
      have hbx6 := hbx5.alloc (.cells #[.int .u32 qa, .int .i64 qn] 25)
      have hby6 := Box.new x5 #[.int .u32 qa, .int .i64 qn] 25
      have HX6 := Lib.hid (show Below W7.heap.size W7 (x5.alloc (.cells #[.int .u32 qa, .int .i64 qn] 25)) from by ((repeat (first | exact Below.refl _ _ | refine Below.drew ?_ | refine Below.setCell ?_ (by first | (simp; done) | (simp; omega) | omega) _ | refine Below.alloc ?_ (by first | (simp; done) | (simp; omega) | omega) _ | refine Below.trans ?_ (Below.mono HX5.out (by first | (simp; done) | (simp; omega) | omega)))); done))
      have m0 := hbx6.cell 0 _ rfl
      have m1 := hbx6.cell 1 _ rfl
      have n0 := hby6.cell 0 _ rfl
      have n1 := hby6.cell 1 _ rfl
      clear hbx6 hby6 hbx5 HX5
      go_wp2_with fail
      exact ⟨⟨k + 1, by omega, by go_num, HX6.out⟩, by simp [intOf]; omega⟩
    · obtain rfl : k = 6 := by omega
      obtain ⟨v, GV'⟩ : ∃ v, valB a n = v := ⟨_, rfl⟩
      have GV := Lib.hid GV'
      have hk6 : (((6 : Nat) : Int)) = 6 := rfl
      have p0 := (HP7.out.below hrb HP7.out.lt).cell 0 _ rfl
      have p1 := (HP7.out.below hrb HP7.out.lt).cell 1 _ rfl
      have e0 := (HX7.out.below hrb HX7.out.lt).cell 0 _ rfl
      have e1 := (HX7.out.below hrb HX7.out.lt).cell 1 _ rfl
      have z0' := (HP7.out.below hrb HP7.out.lt).lt
      have z1' := (HX7.out.below hrb HX7.out.lt).lt
      have HB8 := Lib.hid (HB7.out.trans (hrb.mono HB7.out.size))
      have HT4 := Lib.hid (tab_below HT.out (Nat.le_refl _) HB8.out)
      clear GV' hrb
      go_wp2_with fail
      refine wp_region_later (by kernel_rfl) (by kernel_rfl) ?_
      repeat (go_big_quiet_step ((first | (go_at_call 20; with_reducible exact calls_later (prefix_FormatAddr x hx0 hx1 _ (tab_below HT4.out (Nat.le_refl _) (Ext.below _)))) | (go_at_call 14; with_reducible exact calls_later (ref_FormatAddr x hx0 hx1 _)) | (go_at_call 21; with_reducible exact calls_later (prefix_FormatB a n ha0 ha1 GV.out _ (tab_below HT4.out (Nat.le_refl _) (Ext.below _)))) | (go_at_call 12; with_reducible exact calls_later (ref_FormatB a n ha0 ha1 GV.out _)) | (go_at_call 21; with_reducible exact calls_later (prefix_FormatB xa xn hxa0 hxa1 GX.out _ (tab_below HT4.out (Nat.le_refl _) (Ext.below _)))) | (go_at_call 12; with_reducible exact calls_later (ref_FormatB xa xn hxa0 hxa1 GX.out _)) | (go_at_call 22; with_reducible exact calls_later (law1_sane _ (tab_below HT4.out (Nat.le_refl _) (Ext.below _)))))))
      refine wpQuiet_nil ?_
      intro w5 hw'
      have hb5 := ext_below hw'
      clear hw'
      obtain ⟨hc5, hf5⟩ := bcell hb5
      have hs5 := hb5.size
      try simp at hs5
      go_wp2
      all_goals
        go_ret
        exact ⟨rfl, by ((repeat (first | exact Below.refl _ _ | refine Below.drew ?_ | refine Below.setCell ?_ (by first | (simp; done) | (simp; omega) | omega) _ | refine Below.alloc ?_ (by first | (simp; done) | (simp; omega) | omega) _ | refine Below.trans ?_ (Below.mono hb5 (by first | (simp; done) | (simp; omega) | omega)) | refine Below.trans ?_ (Below.mono HB8.out (by first | (simp; done) | (simp; omega) | omega)))); done)⟩
end Go.Proofs.YtekhggaafeonjaaDoor
