/- PrefixRoundTrip: the law. -/
import Derived.Test.YtekhggaafeonjaaDoorGen6
import Derived.Test.YtekhggaafeonjaaDoorGen4
import Derived.Test.YtekhggaafeonjaaDoorBox
import Derived.Test.YtekhggaafeonjaaDoorRTM
import Derived.Test.YtekhggaafeonjaaDoorSane1
import Derived.Test.YtekhggaafeonjaaDoorCommon
namespace Go.Proofs.YtekhggaafeonjaaDoor
open Go.RowKit
theorem prefix_FormatB (a n : Int) (ha0 : 0 ≤ a) (ha1 : a ≤ 4294967295) {b : Bool} (hb : valB a n = b) (w : World) (htab : Lib.TabIs Tryd.prog w "internal/strconv.uint64pow10" .u64 Lib.pow10Tab) :
    Calls Tryd.prog 21 #[.agg #[.int .u32 a, .int .i64 n]] w fun e w' => e = .returned (.string ⟨(if b then fmtP a n else []).toArray⟩) ∧ Below w.heap.size w w' := by
  cases b
  · exact prefix_Format_no a n ha0 ha1 hb w
  · exact prefix_Format_yes a n ha0 ha1 hb w htab
theorem fmtP_size (a n : Int) (hv : valB a n = true) : (⟨(fmtP a n).toArray⟩ : ByteArray).size ≤ maxLen := by
  have hb := (valB_iff a n).1 hv
  have h1 := fmtTo_len a 4 (by omega)
  have h2 := dec3 n.toNat (by omega)
  rw [size_list]
  simp only [fmtP, List.length_append, List.length_singleton]
  unfold maxLen
  omega
set_option maxHeartbeats 8000000 in
theorem rt_walk (lv : Value) (len : Nat) (a n : Int) (x : Int) (s : ByteArray) (ha0 : 0 ≤ a) (ha1 : a ≤ 4294967295) (hn0 : -9223372036854775808 ≤ n) (hn1 : n ≤ 9223372036854775807) (hx0 : 0 ≤ x) (hx1 : x ≤ 4294967295) (hs : s.size ≤ maxLen) (ca : Int) (cis : Bool) (hpa : paRes s.data.toList = (ca, cis)) (hc0 : 0 ≤ ca) (hc1 : ca ≤ 4294967295) (qa qn : Int) (qis : Bool) (hpp : parseP s = (qa, qn, qis)) (hq0 : 0 ≤ qa) (hq1 : qa ≤ 4294967295) (hca : cis = true → s = ⟨(fmtTo ca 4).toArray⟩) (hno : cis = true → qis ≠ true) (hqa : qis = true → s = ⟨(fmtP qa qn).toArray⟩ ∧ valB qa qn = true) (w : World) (hl : IntsAt w lv len)
    (htab : Lib.TabIs Tryd.prog w "internal/strconv.uint64pow10" .u64 Lib.pow10Tab) :
    Calls Tryd.prog 4 #[lv, .int .u32 x, .agg #[.int .u32 a, .int .i64 n], .string s] w fun e w' => e = .returned (.bool true) ∧ Below w.heap.size w w' := by
  have HL := Lib.hid hl
  have HT := Lib.hid htab
  have HPA := Lib.hid hpa
  have HPP := Lib.hid hpp
  have HCA := Lib.hid hca
  have HQA := Lib.hid hqa
  have HNO := Lib.hid hno
  clear hl htab hpa hpp hca hqa hno
  go_enter Tryd.func4, Tryd.ntmps4
  go_wp2_with fail
  have hP0 := Box.new w #[.int .u32 a, .int .i64 n] 25
  obtain ⟨W0, hW⟩ : ∃ W, W = (w.alloc (.cells #[.int .u32 a, .int .i64 n] 25)) := ⟨_, rfl⟩
  rw [← hW] at hP0 ⊢
  have hB0 : Below w.heap.size w W0 := by rw [hW]; ((repeat (first | exact Below.refl _ _ | refine Below.drew ?_ | refine Below.setCell ?_ (by first | (simp; done) | (simp; omega) | omega) _ | refine Below.alloc ?_ (by first | (simp; done) | (simp; omega) | omega) _)); done)
  have z0 : w.heap.size < W0.heap.size := by rw [hW]; simp
  clear hW
  refine (gen_New lv len _ (HL.out.below hB0)).mono ?_
  rintro e w1 ⟨rfl, hT1, hb1', hlt1⟩
  have HP1 := Lib.hid (hP0.below hb1' z0)
  have HT1 := Lib.hid hT1
  have HB1 := Lib.hid (hB0.trans (hb1'.mono hB0.size))
  clear hT1 hb1' hB0 HL hP0
  have HW1 := Lib.hid (RS.refl HT1.out)
  have z0T := Nat.ne_of_lt z0
  have hwT : w.heap.size ≤ W0.heap.size := by omega
  generalize W0.heap.size = T at *
  go_wp2_with fail
  refine (gen_Next T 3 (by decide) _ HW1.out.1).mono ?_
  rintro e w2 ⟨c, rfl, bc0, bc1, hT2, hK2⟩
  have HR2 := Lib.hid (HW1.out.step hT2 hK2)
  have HP2 := Lib.hid (HP1.out.keep hK2 z0T)
  clear hT2 hK2 HW1 HP1
  by_cases hc : 0 < c
  · go_wp2_with fail
    refine (gen_Prefix T _ HR2.out.1).mono ?_
    rintro e w3 ⟨xa, xn, rfl, hxa0, hxa1, hxv, hT3, hK3⟩
    have HR3 := Lib.hid (HR2.out.step hT3 hK3)
    have HP3 := Lib.hid (HP2.out.keep hK3 z0T)
    clear hT3 hK3 HR2 HP2
    have p0 := HP3.out.cell 0 _ rfl
    have p1 := HP3.out.cell 1 _ rfl
    have f0 := HP3.out.froz 0 _ rfl
    have f1 := HP3.out.froz 1 _ rfl
    have hz3 := HP3.out.lt
    have HP4 := Lib.hid ((HP3.out.set 0 (by simp) (.int .u32 xa)).set 1 (by simp) (.int .i64 xn))
    have HB4 := Lib.hid (((HB1.out.trans (HR3.out.2.below hwT (by omega))).setCell (p := ⟨w.heap.size, 0, none⟩) (Nat.le_refl _) (.int .u32 xa)).setCell (p := ⟨w.heap.size, 1, none⟩) (Nat.le_refl _) (.int .i64 xn))
    have hxn := (valB_iff xa xn).1 hxv
    have hv : valB xa xn = true := hxv
    have gv := Lib.hid hxv
    clear hxn hv hxv
    go_wp2_with fail
    clear p0 p1 f0 f1 hz3 HP3 HR3 HT1 HB1
    generalize ((w3.setCell ⟨w.heap.size, 0, none⟩ (.int .u32 xa)).setCell ⟨w.heap.size, 1, none⟩ (.int .i64 xn)) = W at *
    simp only [List.set_cons_zero, List.set_cons_succ] at HP4
    refine (prefix_FormatAddr x hx0 hx1 _ (tab_below HT.out (Nat.le_refl _) HB4.out)).mono ?_
    rintro e w5 ⟨rfl, hb5⟩
    have HB5 := Lib.hid (HB4.out.trans (hb5.mono HB4.out.size))
    have HP5 := Lib.hid (HP4.out.below hb5 HP4.out.lt)
    clear hb5 HB4 HP4
    go_wp2_with fail
    refine (prefix_ParseAddr _ (by rw [size_list]; have := fmtTo_len x 4 (by omega); unfold maxLen; omega) x true (paRes_fmt x hx0 hx1) _).mono ?_
    rintro e w6 ⟨rfl, hb6⟩
    have HB6 := Lib.hid (HB5.out.trans (hb6.mono HB5.out.size))
    have HP6 := Lib.hid (HP5.out.below hb6 HP5.out.lt)
    clear hb6 HB5 HP5
    have g0 : (x != x) = false := by simp
    go_wp2_with fail
    clear g0
    refine (prefix_ParseAddr s hs ca cis HPA.out _).mono ?_
    rintro e w7 ⟨rfl, hb7⟩
    have HB7 := Lib.hid (HB6.out.trans (hb7.mono HB6.out.size))
    have HP7 := Lib.hid (HP6.out.below hb7 HP6.out.lt)
    clear hb7 HB6 HP6
    cases cis
    · have HB8 := HB7
      have HP8 := HP7
      go_wp2_with fail
      refine (prefix_Parse s hs qa qn qis HPP.out _).mono ?_
      rintro e w9 ⟨rfl, hb9⟩
      have HB9 := Lib.hid (HB8.out.trans (hb9.mono HB8.out.size))
      have HP9 := Lib.hid (HP8.out.below hb9 HP8.out.lt)
      clear hb9 HB8 HP8
      cases qis
      · have p0 := HP9.out.cell 0 _ rfl
        have p1 := HP9.out.cell 1 _ rfl
        have zp := HP9.out.lt
        go_wp2_with fail
        clear p0 p1 zp
        refine (prefix_Format_yes xa xn hxa0 hxa1 gv.out _ (tab_below HT.out (Nat.le_refl _) (HB9.out.alloc HB9.out.size _))).mono ?_
        rintro e w20 ⟨rfl, hb⟩
        have HB20 := Lib.hid ((HB9.out.alloc HB9.out.size _).trans (hb.mono (HB9.out.alloc HB9.out.size _).size))
        have HP20 := Lib.hid ((HP9.out.alloc _).below hb (HP9.out.alloc _).lt)
        have HQ20 := Lib.hid ((Box.new w9 #[.int .u32 qa, .int .i64 qn] 25).below hb (Box.new w9 #[.int .u32 qa, .int .i64 qn] 25).lt)
        clear hb HB9 HP9
        have p0 := HP20.out.cell 0 _ rfl
        have p1 := HP20.out.cell 1 _ rfl
        have zp := HP20.out.lt
        go_wp2_with fail
        clear p0 p1 zp
        refine (prefix_Parse _ (fmtP_size xa xn gv.out) xa xn true (parseP_fmt xa xn hxa0 hxa1 gv.out) _).mono ?_
        rintro e w21 ⟨rfl, hb21⟩
        have HB21 := Lib.hid (HB20.out.trans (hb21.mono HB20.out.size))
        have HP21 := Lib.hid (HP20.out.below hb21 HP20.out.lt)
        clear hb21 HB20 HP20
        have p0 := HP21.out.cell 0 _ rfl
        have p1 := HP21.out.cell 1 _ rfl
        have zp := HP21.out.lt
        go_wp2_with fail
        clear p0 p1 zp
        refine (prefix_ValidB xa xn hxa0 hxa1 gv.out _).mono ?_
        rintro e w22 ⟨rfl, hb⟩
        have HB22 := Lib.hid ((HB21.out.alloc HB21.out.size _).trans (hb.mono (HB21.out.alloc HB21.out.size _).size))
        have HP22 := Lib.hid ((HP21.out.alloc _).below hb (HP21.out.alloc _).lt)
        have HQ22 := Lib.hid ((Box.new w21 #[.int .u32 xa, .int .i64 xn] 25).below hb (Box.new w21 #[.int .u32 xa, .int .i64 xn] 25).lt)
        clear hb HB21 HP21
        have p0 := HP22.out.cell 0 _ rfl
        have p1 := HP22.out.cell 1 _ rfl
        have zp := HP22.out.lt
        have q0 := HQ22.out.cell 0 _ rfl
        have q1 := HQ22.out.cell 1 _ rfl
        have zq := HQ22.out.lt
        go_wp2_with fail
        refine (law1_sane _ (tab_below HT.out (Nat.le_refl _) HB22.out)).mono ?_
        rintro e w23 ⟨rfl, hb⟩
        have HB23 := Lib.hid (HB22.out.trans (hb.mono HB22.out.size))
        clear hb
        go_wp2_with fail
        go_ret
        exact ⟨rfl, HB23.out⟩
      · obtain ⟨rfl, hqv⟩ := HQA.out rfl
        have hq := Lib.hid hqv
        clear hqv
        go_wp2_with fail
        refine (prefix_Format_yes qa qn hq0 hq1 hq.out _ (tab_below HT.out (Nat.le_refl _) (HB9.out.alloc HB9.out.size _))).mono ?_
        rintro e w10 ⟨rfl, hb⟩
        have HB10 := Lib.hid ((HB9.out.alloc HB9.out.size _).trans (hb.mono (HB9.out.alloc HB9.out.size _).size))
        have HP10 := Lib.hid ((HP9.out.alloc _).below hb (HP9.out.alloc _).lt)
        have HQ10 := Lib.hid ((Box.new w9 #[.int .u32 qa, .int .i64 qn] 25).below hb (Box.new w9 #[.int .u32 qa, .int .i64 qn] 25).lt)
        clear hb HB9 HP9
        have q0 := HQ10.out.cell 0 _ rfl
        have q1 := HQ10.out.cell 1 _ rfl
        have zq := HQ10.out.lt
        go_wp2_with fail
        clear q0 q1 zq
        refine (prefix_ValidB qa qn hq0 hq1 hq.out _).mono ?_
        rintro e w11 ⟨rfl, hb11⟩
        have HB11 := Lib.hid (HB10.out.trans (hb11.mono HB10.out.size))
        have HP11 := Lib.hid (HP10.out.below hb11 HP10.out.lt)
        clear hb11 HB10 HP10
        have p0 := HP11.out.cell 0 _ rfl
        have p1 := HP11.out.cell 1 _ rfl
        have zp := HP11.out.lt
        go_wp2_with fail
        clear p0 p1 zp
        refine (prefix_Format_yes xa xn hxa0 hxa1 gv.out _ (tab_below HT.out (Nat.le_refl _) HB11.out)).mono ?_
        rintro e w20 ⟨rfl, hb20⟩
        have HB20 := Lib.hid (HB11.out.trans (hb20.mono HB11.out.size))
        have HP20 := Lib.hid (HP11.out.below hb20 HP11.out.lt)
        clear hb20 HB11 HP11
        have p0 := HP20.out.cell 0 _ rfl
        have p1 := HP20.out.cell 1 _ rfl
        have zp := HP20.out.lt
        go_wp2_with fail
        clear p0 p1 zp
        refine (prefix_Parse _ (fmtP_size xa xn gv.out) xa xn true (parseP_fmt xa xn hxa0 hxa1 gv.out) _).mono ?_
        rintro e w21 ⟨rfl, hb21⟩
        have HB21 := Lib.hid (HB20.out.trans (hb21.mono HB20.out.size))
        have HP21 := Lib.hid (HP20.out.below hb21 HP20.out.lt)
        clear hb21 HB20 HP20
        have p0 := HP21.out.cell 0 _ rfl
        have p1 := HP21.out.cell 1 _ rfl
        have zp := HP21.out.lt
        go_wp2_with fail
        clear p0 p1 zp
        refine (prefix_ValidB xa xn hxa0 hxa1 gv.out _).mono ?_
        rintro e w22 ⟨rfl, hb⟩
        have HB22 := Lib.hid ((HB21.out.alloc HB21.out.size _).trans (hb.mono (HB21.out.alloc HB21.out.size _).size))
        have HP22 := Lib.hid ((HP21.out.alloc _).below hb (HP21.out.alloc _).lt)
        have HQ22 := Lib.hid ((Box.new w21 #[.int .u32 xa, .int .i64 xn] 25).below hb (Box.new w21 #[.int .u32 xa, .int .i64 xn] 25).lt)
        clear hb HB21 HP21
        have p0 := HP22.out.cell 0 _ rfl
        have p1 := HP22.out.cell 1 _ rfl
        have zp := HP22.out.lt
        have q0 := HQ22.out.cell 0 _ rfl
        have q1 := HQ22.out.cell 1 _ rfl
        have zq := HQ22.out.lt
        go_wp2_with fail
        refine (law1_sane _ (tab_below HT.out (Nat.le_refl _) HB22.out)).mono ?_
        rintro e w23 ⟨rfl, hb⟩
        have HB23 := Lib.hid (HB22.out.trans (hb.mono HB22.out.size))
        clear hb
        go_wp2_with fail
        go_ret
        exact ⟨rfl, HB23.out⟩
    · obtain rfl := HCA.out rfl
      go_wp2_with fail
      refine (prefix_FormatAddr ca hc0 hc1 _ (tab_below HT.out (Nat.le_refl _) HB7.out)).mono ?_
      rintro e w8 ⟨rfl, hb8⟩
      have HB8 := Lib.hid (HB7.out.trans (hb8.mono HB7.out.size))
      have HP8 := Lib.hid (HP7.out.below hb8 HP7.out.lt)
      clear hb8 HB7 HP7
      go_wp2_with fail
      cases qis
      · refine (prefix_Parse _ hs qa qn false HPP.out _).mono ?_
        rintro e w9 ⟨rfl, hb9⟩
        have HB9 := Lib.hid (HB8.out.trans (hb9.mono HB8.out.size))
        have HP9 := Lib.hid (HP8.out.below hb9 HP8.out.lt)
        clear hb9 HB8 HP8
        have p0 := HP9.out.cell 0 _ rfl
        have p1 := HP9.out.cell 1 _ rfl
        have zp := HP9.out.lt
        go_wp2_with fail
        clear p0 p1 zp
        refine (prefix_Format_yes xa xn hxa0 hxa1 gv.out _ (tab_below HT.out (Nat.le_refl _) (HB9.out.alloc HB9.out.size _))).mono ?_
        rintro e w20 ⟨rfl, hb⟩
        have HB20 := Lib.hid ((HB9.out.alloc HB9.out.size _).trans (hb.mono (HB9.out.alloc HB9.out.size _).size))
        have HP20 := Lib.hid ((HP9.out.alloc _).below hb (HP9.out.alloc _).lt)
        have HQ20 := Lib.hid ((Box.new w9 #[.int .u32 qa, .int .i64 qn] 25).below hb (Box.new w9 #[.int .u32 qa, .int .i64 qn] 25).lt)
        clear hb HB9 HP9
        have p0 := HP20.out.cell 0 _ rfl
        have p1 := HP20.out.cell 1 _ rfl
        have zp := HP20.out.lt
        go_wp2_with fail
        clear p0 p1 zp
        refine (prefix_Parse _ (fmtP_size xa xn gv.out) xa xn true (parseP_fmt xa xn hxa0 hxa1 gv.out) _).mono ?_
        rintro e w21 ⟨rfl, hb21⟩
        have HB21 := Lib.hid (HB20.out.trans (hb21.mono HB20.out.size))
        have HP21 := Lib.hid (HP20.out.below hb21 HP20.out.lt)
        clear hb21 HB20 HP20
        have p0 := HP21.out.cell 0 _ rfl
        have p1 := HP21.out.cell 1 _ rfl
        have zp := HP21.out.lt
        go_wp2_with fail
        clear p0 p1 zp
        refine (prefix_ValidB xa xn hxa0 hxa1 gv.out _).mono ?_
        rintro e w22 ⟨rfl, hb⟩
        have HB22 := Lib.hid ((HB21.out.alloc HB21.out.size _).trans (hb.mono (HB21.out.alloc HB21.out.size _).size))
        have HP22 := Lib.hid ((HP21.out.alloc _).below hb (HP21.out.alloc _).lt)
        have HQ22 := Lib.hid ((Box.new w21 #[.int .u32 xa, .int .i64 xn] 25).below hb (Box.new w21 #[.int .u32 xa, .int .i64 xn] 25).lt)
        clear hb HB21 HP21
        have p0 := HP22.out.cell 0 _ rfl
        have p1 := HP22.out.cell 1 _ rfl
        have zp := HP22.out.lt
        have q0 := HQ22.out.cell 0 _ rfl
        have q1 := HQ22.out.cell 1 _ rfl
        have zq := HQ22.out.lt
        go_wp2_with fail
        refine (law1_sane _ (tab_below HT.out (Nat.le_refl _) HB22.out)).mono ?_
        rintro e w23 ⟨rfl, hb⟩
        have HB23 := Lib.hid (HB22.out.trans (hb.mono HB22.out.size))
        clear hb
        go_wp2_with fail
        go_ret
        exact ⟨rfl, HB23.out⟩
      · exact (show False by have h := HNO.out; simp at h).elim
  · rcases Bool.eq_false_or_eq_true (valB a n) with hv | hv
    all_goals
      have gv := Lib.hid hv
      have HP4 := HP2
      have HB4 := Lib.hid (HB1.out.trans (HR2.out.2.below hwT (by omega)))
      clear hv HP2 HR2 HT1 HB1
      go_wp2_with fail
    · refine (prefix_FormatAddr x hx0 hx1 _ (tab_below HT.out (Nat.le_refl _) HB4.out)).mono ?_
      rintro e w5 ⟨rfl, hb5⟩
      have HB5 := Lib.hid (HB4.out.trans (hb5.mono HB4.out.size))
      have HP5 := Lib.hid (HP4.out.below hb5 HP4.out.lt)
      clear hb5 HB4 HP4
      go_wp2_with fail
      refine (prefix_ParseAddr _ (by rw [size_list]; have := fmtTo_len x 4 (by omega); unfold maxLen; omega) x true (paRes_fmt x hx0 hx1) _).mono ?_
      rintro e w6 ⟨rfl, hb6⟩
      have HB6 := Lib.hid (HB5.out.trans (hb6.mono HB5.out.size))
      have HP6 := Lib.hid (HP5.out.below hb6 HP5.out.lt)
      clear hb6 HB5 HP5
      have g0 : (x != x) = false := by simp
      go_wp2_with fail
      clear g0
      refine (prefix_ParseAddr s hs ca cis HPA.out _).mono ?_
      rintro e w7 ⟨rfl, hb7⟩
      have HB7 := Lib.hid (HB6.out.trans (hb7.mono HB6.out.size))
      have HP7 := Lib.hid (HP6.out.below hb7 HP6.out.lt)
      clear hb7 HB6 HP6
      cases cis
      · have HB8 := HB7
        have HP8 := HP7
        go_wp2_with fail
        refine (prefix_Parse s hs qa qn qis HPP.out _).mono ?_
        rintro e w9 ⟨rfl, hb9⟩
        have HB9 := Lib.hid (HB8.out.trans (hb9.mono HB8.out.size))
        have HP9 := Lib.hid (HP8.out.below hb9 HP8.out.lt)
        clear hb9 HB8 HP8
        cases qis
        · have p0 := HP9.out.cell 0 _ rfl
          have p1 := HP9.out.cell 1 _ rfl
          have zp := HP9.out.lt
          go_wp2_with fail
          clear p0 p1 zp
          refine (prefix_Format_yes a n ha0 ha1 gv.out _ (tab_below HT.out (Nat.le_refl _) (HB9.out.alloc HB9.out.size _))).mono ?_
          rintro e w20 ⟨rfl, hb⟩
          have HB20 := Lib.hid ((HB9.out.alloc HB9.out.size _).trans (hb.mono (HB9.out.alloc HB9.out.size _).size))
          have HP20 := Lib.hid ((HP9.out.alloc _).below hb (HP9.out.alloc _).lt)
          have HQ20 := Lib.hid ((Box.new w9 #[.int .u32 qa, .int .i64 qn] 25).below hb (Box.new w9 #[.int .u32 qa, .int .i64 qn] 25).lt)
          clear hb HB9 HP9
          have p0 := HP20.out.cell 0 _ rfl
          have p1 := HP20.out.cell 1 _ rfl
          have zp := HP20.out.lt
          go_wp2_with fail
          clear p0 p1 zp
          refine (prefix_Parse _ (fmtP_size a n gv.out) a n true (parseP_fmt a n ha0 ha1 gv.out) _).mono ?_
          rintro e w21 ⟨rfl, hb21⟩
          have HB21 := Lib.hid (HB20.out.trans (hb21.mono HB20.out.size))
          have HP21 := Lib.hid (HP20.out.below hb21 HP20.out.lt)
          clear hb21 HB20 HP20
          have p0 := HP21.out.cell 0 _ rfl
          have p1 := HP21.out.cell 1 _ rfl
          have zp := HP21.out.lt
          go_wp2_with fail
          clear p0 p1 zp
          refine (prefix_ValidB a n ha0 ha1 gv.out _).mono ?_
          rintro e w22 ⟨rfl, hb⟩
          have HB22 := Lib.hid ((HB21.out.alloc HB21.out.size _).trans (hb.mono (HB21.out.alloc HB21.out.size _).size))
          have HP22 := Lib.hid ((HP21.out.alloc _).below hb (HP21.out.alloc _).lt)
          have HQ22 := Lib.hid ((Box.new w21 #[.int .u32 a, .int .i64 n] 25).below hb (Box.new w21 #[.int .u32 a, .int .i64 n] 25).lt)
          clear hb HB21 HP21
          have p0 := HP22.out.cell 0 _ rfl
          have p1 := HP22.out.cell 1 _ rfl
          have zp := HP22.out.lt
          have q0 := HQ22.out.cell 0 _ rfl
          have q1 := HQ22.out.cell 1 _ rfl
          have zq := HQ22.out.lt
          go_wp2_with fail
          refine (law1_sane _ (tab_below HT.out (Nat.le_refl _) HB22.out)).mono ?_
          rintro e w23 ⟨rfl, hb⟩
          have HB23 := Lib.hid (HB22.out.trans (hb.mono HB22.out.size))
          clear hb
          go_wp2_with fail
          go_ret
          exact ⟨rfl, HB23.out⟩
        · obtain ⟨rfl, hqv⟩ := HQA.out rfl
          have hq := Lib.hid hqv
          clear hqv
          go_wp2_with fail
          refine (prefix_Format_yes qa qn hq0 hq1 hq.out _ (tab_below HT.out (Nat.le_refl _) (HB9.out.alloc HB9.out.size _))).mono ?_
          rintro e w10 ⟨rfl, hb⟩
          have HB10 := Lib.hid ((HB9.out.alloc HB9.out.size _).trans (hb.mono (HB9.out.alloc HB9.out.size _).size))
          have HP10 := Lib.hid ((HP9.out.alloc _).below hb (HP9.out.alloc _).lt)
          have HQ10 := Lib.hid ((Box.new w9 #[.int .u32 qa, .int .i64 qn] 25).below hb (Box.new w9 #[.int .u32 qa, .int .i64 qn] 25).lt)
          clear hb HB9 HP9
          have q0 := HQ10.out.cell 0 _ rfl
          have q1 := HQ10.out.cell 1 _ rfl
          have zq := HQ10.out.lt
          go_wp2_with fail
          clear q0 q1 zq
          refine (prefix_ValidB qa qn hq0 hq1 hq.out _).mono ?_
          rintro e w11 ⟨rfl, hb11⟩
          have HB11 := Lib.hid (HB10.out.trans (hb11.mono HB10.out.size))
          have HP11 := Lib.hid (HP10.out.below hb11 HP10.out.lt)
          clear hb11 HB10 HP10
          have p0 := HP11.out.cell 0 _ rfl
          have p1 := HP11.out.cell 1 _ rfl
          have zp := HP11.out.lt
          go_wp2_with fail
          clear p0 p1 zp
          refine (prefix_Format_yes a n ha0 ha1 gv.out _ (tab_below HT.out (Nat.le_refl _) HB11.out)).mono ?_
          rintro e w20 ⟨rfl, hb20⟩
          have HB20 := Lib.hid (HB11.out.trans (hb20.mono HB11.out.size))
          have HP20 := Lib.hid (HP11.out.below hb20 HP11.out.lt)
          clear hb20 HB11 HP11
          have p0 := HP20.out.cell 0 _ rfl
          have p1 := HP20.out.cell 1 _ rfl
          have zp := HP20.out.lt
          go_wp2_with fail
          clear p0 p1 zp
          refine (prefix_Parse _ (fmtP_size a n gv.out) a n true (parseP_fmt a n ha0 ha1 gv.out) _).mono ?_
          rintro e w21 ⟨rfl, hb21⟩
          have HB21 := Lib.hid (HB20.out.trans (hb21.mono HB20.out.size))
          have HP21 := Lib.hid (HP20.out.below hb21 HP20.out.lt)
          clear hb21 HB20 HP20
          have p0 := HP21.out.cell 0 _ rfl
          have p1 := HP21.out.cell 1 _ rfl
          have zp := HP21.out.lt
          go_wp2_with fail
          clear p0 p1 zp
          refine (prefix_ValidB a n ha0 ha1 gv.out _).mono ?_
          rintro e w22 ⟨rfl, hb⟩
          have HB22 := Lib.hid ((HB21.out.alloc HB21.out.size _).trans (hb.mono (HB21.out.alloc HB21.out.size _).size))
          have HP22 := Lib.hid ((HP21.out.alloc _).below hb (HP21.out.alloc _).lt)
          have HQ22 := Lib.hid ((Box.new w21 #[.int .u32 a, .int .i64 n] 25).below hb (Box.new w21 #[.int .u32 a, .int .i64 n] 25).lt)
          clear hb HB21 HP21
          have p0 := HP22.out.cell 0 _ rfl
          have p1 := HP22.out.cell 1 _ rfl
          have zp := HP22.out.lt
          have q0 := HQ22.out.cell 0 _ rfl
          have q1 := HQ22.out.cell 1 _ rfl
          have zq := HQ22.out.lt
          go_wp2_with fail
          refine (law1_sane _ (tab_below HT.out (Nat.le_refl _) HB22.out)).mono ?_
          rintro e w23 ⟨rfl, hb⟩
          have HB23 := Lib.hid (HB22.out.trans (hb.mono HB22.out.size))
          clear hb
          go_wp2_with fail
          go_ret
          exact ⟨rfl, HB23.out⟩
      · obtain rfl := HCA.out rfl
        go_wp2_with fail
        refine (prefix_FormatAddr ca hc0 hc1 _ (tab_below HT.out (Nat.le_refl _) HB7.out)).mono ?_
        rintro e w8 ⟨rfl, hb8⟩
        have HB8 := Lib.hid (HB7.out.trans (hb8.mono HB7.out.size))
        have HP8 := Lib.hid (HP7.out.below hb8 HP7.out.lt)
        clear hb8 HB7 HP7
        go_wp2_with fail
        cases qis
        · refine (prefix_Parse _ hs qa qn false HPP.out _).mono ?_
          rintro e w9 ⟨rfl, hb9⟩
          have HB9 := Lib.hid (HB8.out.trans (hb9.mono HB8.out.size))
          have HP9 := Lib.hid (HP8.out.below hb9 HP8.out.lt)
          clear hb9 HB8 HP8
          have p0 := HP9.out.cell 0 _ rfl
          have p1 := HP9.out.cell 1 _ rfl
          have zp := HP9.out.lt
          go_wp2_with fail
          clear p0 p1 zp
          refine (prefix_Format_yes a n ha0 ha1 gv.out _ (tab_below HT.out (Nat.le_refl _) (HB9.out.alloc HB9.out.size _))).mono ?_
          rintro e w20 ⟨rfl, hb⟩
          have HB20 := Lib.hid ((HB9.out.alloc HB9.out.size _).trans (hb.mono (HB9.out.alloc HB9.out.size _).size))
          have HP20 := Lib.hid ((HP9.out.alloc _).below hb (HP9.out.alloc _).lt)
          have HQ20 := Lib.hid ((Box.new w9 #[.int .u32 qa, .int .i64 qn] 25).below hb (Box.new w9 #[.int .u32 qa, .int .i64 qn] 25).lt)
          clear hb HB9 HP9
          have p0 := HP20.out.cell 0 _ rfl
          have p1 := HP20.out.cell 1 _ rfl
          have zp := HP20.out.lt
          go_wp2_with fail
          clear p0 p1 zp
          refine (prefix_Parse _ (fmtP_size a n gv.out) a n true (parseP_fmt a n ha0 ha1 gv.out) _).mono ?_
          rintro e w21 ⟨rfl, hb21⟩
          have HB21 := Lib.hid (HB20.out.trans (hb21.mono HB20.out.size))
          have HP21 := Lib.hid (HP20.out.below hb21 HP20.out.lt)
          clear hb21 HB20 HP20
          have p0 := HP21.out.cell 0 _ rfl
          have p1 := HP21.out.cell 1 _ rfl
          have zp := HP21.out.lt
          go_wp2_with fail
          clear p0 p1 zp
          refine (prefix_ValidB a n ha0 ha1 gv.out _).mono ?_
          rintro e w22 ⟨rfl, hb⟩
          have HB22 := Lib.hid ((HB21.out.alloc HB21.out.size _).trans (hb.mono (HB21.out.alloc HB21.out.size _).size))
          have HP22 := Lib.hid ((HP21.out.alloc _).below hb (HP21.out.alloc _).lt)
          have HQ22 := Lib.hid ((Box.new w21 #[.int .u32 a, .int .i64 n] 25).below hb (Box.new w21 #[.int .u32 a, .int .i64 n] 25).lt)
          clear hb HB21 HP21
          have p0 := HP22.out.cell 0 _ rfl
          have p1 := HP22.out.cell 1 _ rfl
          have zp := HP22.out.lt
          have q0 := HQ22.out.cell 0 _ rfl
          have q1 := HQ22.out.cell 1 _ rfl
          have zq := HQ22.out.lt
          go_wp2_with fail
          refine (law1_sane _ (tab_below HT.out (Nat.le_refl _) HB22.out)).mono ?_
          rintro e w23 ⟨rfl, hb⟩
          have HB23 := Lib.hid (HB22.out.trans (hb.mono HB22.out.size))
          clear hb
          go_wp2_with fail
          go_ret
          exact ⟨rfl, HB23.out⟩
        · exact (show False by have h := HNO.out; simp at h).elim
    · refine (prefix_FormatAddr x hx0 hx1 _ (tab_below HT.out (Nat.le_refl _) HB4.out)).mono ?_
      rintro e w5 ⟨rfl, hb5⟩
      have HB5 := Lib.hid (HB4.out.trans (hb5.mono HB4.out.size))
      have HP5 := Lib.hid (HP4.out.below hb5 HP4.out.lt)
      clear hb5 HB4 HP4
      go_wp2_with fail
      refine (prefix_ParseAddr _ (by rw [size_list]; have := fmtTo_len x 4 (by omega); unfold maxLen; omega) x true (paRes_fmt x hx0 hx1) _).mono ?_
      rintro e w6 ⟨rfl, hb6⟩
      have HB6 := Lib.hid (HB5.out.trans (hb6.mono HB5.out.size))
      have HP6 := Lib.hid (HP5.out.below hb6 HP5.out.lt)
      clear hb6 HB5 HP5
      have g0 : (x != x) = false := by simp
      go_wp2_with fail
      clear g0
      refine (prefix_ParseAddr s hs ca cis HPA.out _).mono ?_
      rintro e w7 ⟨rfl, hb7⟩
      have HB7 := Lib.hid (HB6.out.trans (hb7.mono HB6.out.size))
      have HP7 := Lib.hid (HP6.out.below hb7 HP6.out.lt)
      clear hb7 HB6 HP6
      cases cis
      · have HB8 := HB7
        have HP8 := HP7
        go_wp2_with fail
        refine (prefix_Parse s hs qa qn qis HPP.out _).mono ?_
        rintro e w9 ⟨rfl, hb9⟩
        have HB9 := Lib.hid (HB8.out.trans (hb9.mono HB8.out.size))
        have HP9 := Lib.hid (HP8.out.below hb9 HP8.out.lt)
        clear hb9 HB8 HP8
        cases qis
        · have p0 := HP9.out.cell 0 _ rfl
          have p1 := HP9.out.cell 1 _ rfl
          have zp := HP9.out.lt
          go_wp2_with fail
          clear p0 p1 zp
          refine (prefix_Format_no a n ha0 ha1 gv.out _).mono ?_
          rintro e w20 ⟨rfl, hb⟩
          have HB20 := Lib.hid ((HB9.out.alloc HB9.out.size _).trans (hb.mono (HB9.out.alloc HB9.out.size _).size))
          have HP20 := Lib.hid ((HP9.out.alloc _).below hb (HP9.out.alloc _).lt)
          have HQ20 := Lib.hid ((Box.new w9 #[.int .u32 qa, .int .i64 qn] 25).below hb (Box.new w9 #[.int .u32 qa, .int .i64 qn] 25).lt)
          clear hb HB9 HP9
          have p0 := HP20.out.cell 0 _ rfl
          have p1 := HP20.out.cell 1 _ rfl
          have zp := HP20.out.lt
          go_wp2_with fail
          clear p0 p1 zp
          refine (prefix_Parse ⟨#[]⟩ (by decide) 0 0 false parseP_empty _).mono ?_
          rintro e w21 ⟨rfl, hb21⟩
          have HB21 := Lib.hid (HB20.out.trans (hb21.mono HB20.out.size))
          have HP21 := Lib.hid (HP20.out.below hb21 HP20.out.lt)
          clear hb21 HB20 HP20
          have p0 := HP21.out.cell 0 _ rfl
          have p1 := HP21.out.cell 1 _ rfl
          have zp := HP21.out.lt
          go_wp2_with fail
          clear p0 p1 zp
          refine (prefix_ValidB a n ha0 ha1 gv.out _).mono ?_
          rintro e w22 ⟨rfl, hb⟩
          have HB22 := Lib.hid ((HB21.out.alloc HB21.out.size _).trans (hb.mono (HB21.out.alloc HB21.out.size _).size))
          have HP22 := Lib.hid ((HP21.out.alloc _).below hb (HP21.out.alloc _).lt)
          have HQ22 := Lib.hid ((Box.new w21 #[.int .u32 0, .int .i64 0] 25).below hb (Box.new w21 #[.int .u32 0, .int .i64 0] 25).lt)
          clear hb HB21 HP21
          have p0 := HP22.out.cell 0 _ rfl
          have p1 := HP22.out.cell 1 _ rfl
          have zp := HP22.out.lt
          have q0 := HQ22.out.cell 0 _ rfl
          have q1 := HQ22.out.cell 1 _ rfl
          have zq := HQ22.out.lt
          go_wp2_with fail
          refine (law1_sane _ (tab_below HT.out (Nat.le_refl _) HB22.out)).mono ?_
          rintro e w23 ⟨rfl, hb⟩
          have HB23 := Lib.hid (HB22.out.trans (hb.mono HB22.out.size))
          clear hb
          go_wp2_with fail
          go_ret
          exact ⟨rfl, HB23.out⟩
        · obtain ⟨rfl, hqv⟩ := HQA.out rfl
          have hq := Lib.hid hqv
          clear hqv
          go_wp2_with fail
          refine (prefix_Format_yes qa qn hq0 hq1 hq.out _ (tab_below HT.out (Nat.le_refl _) (HB9.out.alloc HB9.out.size _))).mono ?_
          rintro e w10 ⟨rfl, hb⟩
          have HB10 := Lib.hid ((HB9.out.alloc HB9.out.size _).trans (hb.mono (HB9.out.alloc HB9.out.size _).size))
          have HP10 := Lib.hid ((HP9.out.alloc _).below hb (HP9.out.alloc _).lt)
          have HQ10 := Lib.hid ((Box.new w9 #[.int .u32 qa, .int .i64 qn] 25).below hb (Box.new w9 #[.int .u32 qa, .int .i64 qn] 25).lt)
          clear hb HB9 HP9
          have q0 := HQ10.out.cell 0 _ rfl
          have q1 := HQ10.out.cell 1 _ rfl
          have zq := HQ10.out.lt
          go_wp2_with fail
          clear q0 q1 zq
          refine (prefix_ValidB qa qn hq0 hq1 hq.out _).mono ?_
          rintro e w11 ⟨rfl, hb11⟩
          have HB11 := Lib.hid (HB10.out.trans (hb11.mono HB10.out.size))
          have HP11 := Lib.hid (HP10.out.below hb11 HP10.out.lt)
          clear hb11 HB10 HP10
          have p0 := HP11.out.cell 0 _ rfl
          have p1 := HP11.out.cell 1 _ rfl
          have zp := HP11.out.lt
          go_wp2_with fail
          clear p0 p1 zp
          refine (prefix_Format_no a n ha0 ha1 gv.out _).mono ?_
          rintro e w20 ⟨rfl, hb20⟩
          have HB20 := Lib.hid (HB11.out.trans (hb20.mono HB11.out.size))
          have HP20 := Lib.hid (HP11.out.below hb20 HP11.out.lt)
          clear hb20 HB11 HP11
          have p0 := HP20.out.cell 0 _ rfl
          have p1 := HP20.out.cell 1 _ rfl
          have zp := HP20.out.lt
          go_wp2_with fail
          clear p0 p1 zp
          refine (prefix_Parse ⟨#[]⟩ (by decide) 0 0 false parseP_empty _).mono ?_
          rintro e w21 ⟨rfl, hb21⟩
          have HB21 := Lib.hid (HB20.out.trans (hb21.mono HB20.out.size))
          have HP21 := Lib.hid (HP20.out.below hb21 HP20.out.lt)
          clear hb21 HB20 HP20
          have p0 := HP21.out.cell 0 _ rfl
          have p1 := HP21.out.cell 1 _ rfl
          have zp := HP21.out.lt
          go_wp2_with fail
          clear p0 p1 zp
          refine (prefix_ValidB a n ha0 ha1 gv.out _).mono ?_
          rintro e w22 ⟨rfl, hb⟩
          have HB22 := Lib.hid ((HB21.out.alloc HB21.out.size _).trans (hb.mono (HB21.out.alloc HB21.out.size _).size))
          have HP22 := Lib.hid ((HP21.out.alloc _).below hb (HP21.out.alloc _).lt)
          have HQ22 := Lib.hid ((Box.new w21 #[.int .u32 0, .int .i64 0] 25).below hb (Box.new w21 #[.int .u32 0, .int .i64 0] 25).lt)
          clear hb HB21 HP21
          have p0 := HP22.out.cell 0 _ rfl
          have p1 := HP22.out.cell 1 _ rfl
          have zp := HP22.out.lt
          have q0 := HQ22.out.cell 0 _ rfl
          have q1 := HQ22.out.cell 1 _ rfl
          have zq := HQ22.out.lt
          go_wp2_with fail
          refine (law1_sane _ (tab_below HT.out (Nat.le_refl _) HB22.out)).mono ?_
          rintro e w23 ⟨rfl, hb⟩
          have HB23 := Lib.hid (HB22.out.trans (hb.mono HB22.out.size))
          clear hb
          go_wp2_with fail
          go_ret
          exact ⟨rfl, HB23.out⟩
      · obtain rfl := HCA.out rfl
        go_wp2_with fail
        refine (prefix_FormatAddr ca hc0 hc1 _ (tab_below HT.out (Nat.le_refl _) HB7.out)).mono ?_
        rintro e w8 ⟨rfl, hb8⟩
        have HB8 := Lib.hid (HB7.out.trans (hb8.mono HB7.out.size))
        have HP8 := Lib.hid (HP7.out.below hb8 HP7.out.lt)
        clear hb8 HB7 HP7
        go_wp2_with fail
        cases qis
        · refine (prefix_Parse _ hs qa qn false HPP.out _).mono ?_
          rintro e w9 ⟨rfl, hb9⟩
          have HB9 := Lib.hid (HB8.out.trans (hb9.mono HB8.out.size))
          have HP9 := Lib.hid (HP8.out.below hb9 HP8.out.lt)
          clear hb9 HB8 HP8
          have p0 := HP9.out.cell 0 _ rfl
          have p1 := HP9.out.cell 1 _ rfl
          have zp := HP9.out.lt
          go_wp2_with fail
          clear p0 p1 zp
          refine (prefix_Format_no a n ha0 ha1 gv.out _).mono ?_
          rintro e w20 ⟨rfl, hb⟩
          have HB20 := Lib.hid ((HB9.out.alloc HB9.out.size _).trans (hb.mono (HB9.out.alloc HB9.out.size _).size))
          have HP20 := Lib.hid ((HP9.out.alloc _).below hb (HP9.out.alloc _).lt)
          have HQ20 := Lib.hid ((Box.new w9 #[.int .u32 qa, .int .i64 qn] 25).below hb (Box.new w9 #[.int .u32 qa, .int .i64 qn] 25).lt)
          clear hb HB9 HP9
          have p0 := HP20.out.cell 0 _ rfl
          have p1 := HP20.out.cell 1 _ rfl
          have zp := HP20.out.lt
          go_wp2_with fail
          clear p0 p1 zp
          refine (prefix_Parse ⟨#[]⟩ (by decide) 0 0 false parseP_empty _).mono ?_
          rintro e w21 ⟨rfl, hb21⟩
          have HB21 := Lib.hid (HB20.out.trans (hb21.mono HB20.out.size))
          have HP21 := Lib.hid (HP20.out.below hb21 HP20.out.lt)
          clear hb21 HB20 HP20
          have p0 := HP21.out.cell 0 _ rfl
          have p1 := HP21.out.cell 1 _ rfl
          have zp := HP21.out.lt
          go_wp2_with fail
          clear p0 p1 zp
          refine (prefix_ValidB a n ha0 ha1 gv.out _).mono ?_
          rintro e w22 ⟨rfl, hb⟩
          have HB22 := Lib.hid ((HB21.out.alloc HB21.out.size _).trans (hb.mono (HB21.out.alloc HB21.out.size _).size))
          have HP22 := Lib.hid ((HP21.out.alloc _).below hb (HP21.out.alloc _).lt)
          have HQ22 := Lib.hid ((Box.new w21 #[.int .u32 0, .int .i64 0] 25).below hb (Box.new w21 #[.int .u32 0, .int .i64 0] 25).lt)
          clear hb HB21 HP21
          have p0 := HP22.out.cell 0 _ rfl
          have p1 := HP22.out.cell 1 _ rfl
          have zp := HP22.out.lt
          have q0 := HQ22.out.cell 0 _ rfl
          have q1 := HQ22.out.cell 1 _ rfl
          have zq := HQ22.out.lt
          go_wp2_with fail
          refine (law1_sane _ (tab_below HT.out (Nat.le_refl _) HB22.out)).mono ?_
          rintro e w23 ⟨rfl, hb⟩
          have HB23 := Lib.hid (HB22.out.trans (hb.mono HB22.out.size))
          clear hb
          go_wp2_with fail
          go_ret
          exact ⟨rfl, HB23.out⟩
        · exact (show False by have h := HNO.out; simp at h).elim
theorem fmt_no_slash (ca qa qn : Int) (h : (⟨(fmtTo ca 4).toArray⟩ : ByteArray) = ⟨(fmtP qa qn).toArray⟩) : False := by
  have h1 := congrArg (fun b : ByteArray => b.data.toList) h
  have h2 : fmtTo ca 4 = fmtP qa qn := by simpa using h1
  exact fmt_plain ca 47 (by rw [h2]; simp [fmtP]) rfl
theorem law_PrefixRoundTrip (lv : Value) (len : Nat) (x a n : Int) (s : ByteArray) (hx0 : 0 ≤ x) (hx1 : x ≤ 4294967295) (ha0 : 0 ≤ a) (ha1 : a ≤ 4294967295) (hn0 : -9223372036854775808 ≤ n) (hn1 : n ≤ 9223372036854775807) (hs : s.size ≤ maxLen) (w : World) (hl : IntsAt w lv len)
    (htab : Lib.TabIs Tryd.prog w "internal/strconv.uint64pow10" .u64 Lib.pow10Tab) :
    Calls Tryd.prog 4 #[lv, .int .u32 x, .agg #[.int .u32 a, .int .i64 n], .string s] w fun e w' => e = .returned (.bool true) ∧ Below w.heap.size w w' := by
  have hb := paRes_bd s.data.toList
  have hq : 0 ≤ (parseP s).1 ∧ (parseP s).1 ≤ 4294967295 := by
    cases h : (parseP s).2.2 with
    | true => exact (parseP_only s _ _ (Prod.ext rfl (Prod.ext rfl h))).2.2
    | false => rw [parseP_false s h]; simp
  refine rt_walk lv len a n x s ha0 ha1 hn0 hn1 hx0 hx1 hs (paRes s.data.toList).1 (paRes s.data.toList).2 rfl hb.1 hb.2 (parseP s).1 (parseP s).2.1 (parseP s).2.2 rfl hq.1 hq.2 ?_ ?_ ?_ w hl htab
  · intro h
    exact list_bytes s _ (paRes_only _ _ (Prod.ext rfl h)).1.symm
  · intro h h2
    refine fmt_no_slash (paRes s.data.toList).1 (parseP s).1 (parseP s).2.1 ?_
    rw [← list_bytes s _ (paRes_only _ _ (Prod.ext rfl h)).1.symm]
    exact (parseP_only s _ _ (Prod.ext rfl (Prod.ext rfl h2))).1
  · intro h
    have := parseP_only s _ _ (Prod.ext rfl (Prod.ext rfl h))
    exact ⟨this.1, this.2.1⟩
end Go.Proofs.YtekhggaafeonjaaDoor
