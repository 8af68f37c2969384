/- Walks of the generator: Prefix. -/
import Derived.Test.YtekhggaafeonjaaDoorGen3
namespace Go.Proofs.YtekhggaafeonjaaDoor
open Go.RowKit
theorem res2 {w : World} {b : Nat} {x y u v : Value} (k0 : w.cell? ⟨b, 0, none⟩ = some x) (k1 : w.cell? ⟨b, 1, none⟩ = some y) :
    ((w.setCell ⟨b, 0, none⟩ u).setCell ⟨b, 1, none⟩ v).cell? ⟨b, 0, none⟩ = some u ∧ ((w.setCell ⟨b, 0, none⟩ u).setCell ⟨b, 1, none⟩ v).cell? ⟨b, 1, none⟩ = some v := by
  refine ⟨?_, ?_⟩
  · rw [World.cell?_setCell_other _ _ _ _ (by intro e; injection e with _ e1 _; exact absurd e1 (by decide))]
    exact World.cell?_setCell_same _ _ _ (u := x) k0
  · refine World.cell?_setCell_same _ _ _ (u := y) ?_
    rw [World.cell?_setCell_other _ _ _ _ (by intro e; injection e with _ e1 _; exact absurd e1 (by decide))]
    exact k1
def PfxT (T : Nat) (w : World) (e : Ending) (w' : World) : Prop := ∃ a n : Int, e = .returned (.agg #[.int .u32 a, .int .i64 n]) ∧ 0 ≤ a ∧ a ≤ 4294967295 ∧ valB a n = true ∧ Tp T w' ∧ Keep T w w'
set_option maxHeartbeats 4000000 in
theorem gen_Prefix (T : Nat) (w : World) (h : Tp T w) : Calls Tryd.prog 11 #[.pointer (some ⟨T, 0, none⟩)] w (PfxT T w) := by
  have hlt := h.lt
  have hne : ¬ w.heap.size = T := by omega
  have H := Lib.hid h
  clear h
  go_enter Tryd.func11, Tryd.ntmps11
  go_wp2_with fail
  refine (gen_Next T 3 (by decide) _ (H.out.alloc _)).mono ?_
  rintro e w1 ⟨c, rfl, bc0, bc1, hT1, hK1⟩
  obtain ⟨hc1, hf1⟩ := kcell hK1
  have hs1 := hK1.size
  try simp at hs1
  have HT1 := Lib.hid hT1
  have HK1 := Lib.hid hK1
  clear hT1 hK1
  have hz1_0 : w.heap.size < w1.heap.size := (by omega)
  rcases Bool.eq_false_or_eq_true (c == 0) with g0 | g0
  · go_wp2_with fail
    refine (gen_Next T 6 (by decide) _ (HT1.out)).mono ?_
    rintro e w2 ⟨d, rfl, bd0, bd1, hT2, hK2⟩
    obtain ⟨hc2, hf2⟩ := kcell hK2
    have hs2 := hK2.size
    try simp at hs2
    have HT2 := Lib.hid hT2
    have HK2 := Lib.hid hK2
    clear hT2 hK2
    have hz2_0 : w.heap.size < w2.heap.size := (by omega)
    go_wp2_with fail
    refine (gen_Subnet d bd0 (by omega) _).mono ?_
    rintro e w3 ⟨a, n, rfl, ha0, ha1, hv, hb3⟩
    obtain ⟨hc3, hf3⟩ := bcell hb3
    have hs3 := hb3.size
    try simp at hs3
    have HB3 := Lib.hid hb3
    clear hb3
    have hz3_0 : w.heap.size < w3.heap.size := (by omega)
    have HV := Lib.hid hv
    clear hv
    go_wp2_with fail
    have k0 : w3.cell? ⟨w.heap.size, 0, none⟩ = some (.int .u32 0) := by rw [hc3 _ _ hz2_0, hc2 _ _ hz1_0 hne, hc1 _ _ (by simp) hne, World.cell?_alloc_at _ _ _ _ rfl]; rfl
    have k1 : w3.cell? ⟨w.heap.size, 1, none⟩ = some (.int .i64 0) := by rw [hc3 _ _ hz2_0, hc2 _ _ hz1_0 hne, hc1 _ _ (by simp) hne, World.cell?_alloc_at _ _ _ _ rfl]; rfl
    have kr := res2 (u := .int .u32 a) (v := .int .i64 n) k0 k1
    refine bodyPost_ret (v := .agg #[.int .u32 a, .int .i64 n]) (by simp [results, Tryd.results11, go_sem, kr.1, kr.2]) rfl ?_
    have hrs : RS T w ((w3.setCell ⟨w.heap.size, 0, none⟩ (.int .u32 a)).setCell ⟨w.heap.size, 1, none⟩ (.int .i64 n)) := by ((repeat (first | exact RS.refl H.out | refine RS.drew ?_ | refine RS.setCell ?_ (by first | (simp; done) | (simp; omega) | omega) hlt _ | refine RS.alloc ?_ _ | refine RS.below ?_ HB3.out | refine RS.step ?_ HT2.out HK2.out | refine RS.step ?_ HT1.out HK1.out)); done)
    exact ⟨a, n, rfl, ha0, ha1, HV.out, hrs.1, hrs.2⟩
  · go_wp2_with fail
    refine (gen_Next T 10 (by decide) _ (HT1.out.alloc _)).mono ?_
    rintro e w2 ⟨d, rfl, bd0, bd1, hT2, hK2⟩
    obtain ⟨hc2, hf2⟩ := kcell hK2
    have hs2 := hK2.size
    try simp at hs2
    have HT2 := Lib.hid hT2
    have HK2 := Lib.hid hK2
    clear hT2 hK2
    have hz2_0 : w.heap.size < w2.heap.size := (by omega)
    have hz2_1 : w1.heap.size < w2.heap.size := (by omega)
    have hne1 : ¬ w1.heap.size = T := by omega
    have h6 : d = 0 ∨ d = 1 ∨ d = 2 ∨ d = 3 ∨ d = 4 ∨ d = 5 ∨ d = 6 ∨ d = 7 ∨ d = 8 ∨ d = 9 := by omega
    clear bd0 bd1
    rcases h6 with rfl | rfl | rfl | rfl | rfl | rfl | rfl | rfl | rfl | rfl
    all_goals
      go_wp2_with fail
      refine (gen_Addr T _ HT2.out).mono ?_
      rintro e w3 ⟨a, rfl, ha0, ha1, hT3, hK3⟩
      obtain ⟨hc3, hf3⟩ := kcell hK3
      have hs3 := hK3.size
      have HT3 := Lib.hid hT3
      have HK3 := Lib.hid hK3
      clear hT3 hK3
      have hz3_0 : w.heap.size < w3.heap.size := by omega
      have k0 : w3.cell? ⟨w.heap.size, 0, none⟩ = some (.int .u32 0) := by rw [hc3 _ _ hz2_0 hne, hc2 _ _ (by simp; omega) hne, World.cell?_alloc_some _ _ _ (by rw [hc1 _ _ (by simp) hne, World.cell?_alloc_at _ _ _ _ rfl]; rfl), hc1 _ _ (by simp) hne, World.cell?_alloc_at _ _ _ _ rfl]; rfl
      have k1 : w3.cell? ⟨w.heap.size, 1, none⟩ = some (.int .i64 0) := by rw [hc3 _ _ hz2_0 hne, hc2 _ _ (by simp; omega) hne, World.cell?_alloc_some _ _ _ (by rw [hc1 _ _ (by simp) hne, World.cell?_alloc_at _ _ _ _ rfl]; rfl), hc1 _ _ (by simp) hne, World.cell?_alloc_at _ _ _ _ rfl]; rfl
      go_wp2_with fail
    · have kr := res2 (u := .int .u32 a) (v := .int .i64 32) k0 k1
      refine bodyPost_ret (v := .agg #[.int .u32 a, .int .i64 32]) (by simp [results, Tryd.results11, go_sem, kr.1, kr.2, hz3_0]) rfl ?_
      have hrs : RS T w (((w3.setCell ⟨w.heap.size, 0, none⟩ (.int .u32 a)).setCell ⟨w.heap.size, 1, none⟩ (.int .i64 32)).alloc (.cells #[.int .u32 a, .int .i64 32] 25)) := by ((repeat (first | exact RS.refl H.out | refine RS.drew ?_ | refine RS.setCell ?_ (by first | (simp; done) | (simp; omega) | omega) hlt _ | refine RS.alloc ?_ _ | refine RS.step ?_ HT3.out HK3.out | refine RS.step ?_ HT2.out HK2.out | refine RS.step ?_ HT1.out HK1.out)); done)
      exact ⟨a, 32, rfl, by omega, by omega, (valB_iff _ _).2 ⟨by decide, by decide, by rw [show pw 32 = 1 from by decide]; exact (Int.emod_one _)⟩, hrs.1, hrs.2⟩
    · have kr := res2 (u := .int .u32 (a / 2 * 2)) (v := .int .i64 31) k0 k1
      refine bodyPost_ret (v := .agg #[.int .u32 (a / 2 * 2), .int .i64 31]) (by simp [results, Tryd.results11, go_sem, kr.1, kr.2, hz3_0]) rfl ?_
      have hrs : RS T w (((w3.setCell ⟨w.heap.size, 0, none⟩ (.int .u32 (a / 2 * 2))).setCell ⟨w.heap.size, 1, none⟩ (.int .i64 31)).alloc (.cells #[.int .u32 (a / 2 * 2), .int .i64 31] 25)) := by ((repeat (first | exact RS.refl H.out | refine RS.drew ?_ | refine RS.setCell ?_ (by first | (simp; done) | (simp; omega) | omega) hlt _ | refine RS.alloc ?_ _ | refine RS.step ?_ HT3.out HK3.out | refine RS.step ?_ HT2.out HK2.out | refine RS.step ?_ HT1.out HK1.out)); done)
      exact ⟨(a / 2 * 2), 31, rfl, by omega, by omega, (valB_iff _ _).2 ⟨by decide, by decide, by rw [show pw 31 = 2 from by decide]; exact (Int.mul_emod_left _ _)⟩, hrs.1, hrs.2⟩
    · have kr := res2 (u := .int .u32 (a / 256 * 256)) (v := .int .i64 24) k0 k1
      refine bodyPost_ret (v := .agg #[.int .u32 (a / 256 * 256), .int .i64 24]) (by simp [results, Tryd.results11, go_sem, kr.1, kr.2, hz3_0]) rfl ?_
      have hrs : RS T w (((w3.setCell ⟨w.heap.size, 0, none⟩ (.int .u32 (a / 256 * 256))).setCell ⟨w.heap.size, 1, none⟩ (.int .i64 24)).alloc (.cells #[.int .u32 (a / 256 * 256), .int .i64 24] 25)) := by ((repeat (first | exact RS.refl H.out | refine RS.drew ?_ | refine RS.setCell ?_ (by first | (simp; done) | (simp; omega) | omega) hlt _ | refine RS.alloc ?_ _ | refine RS.step ?_ HT3.out HK3.out | refine RS.step ?_ HT2.out HK2.out | refine RS.step ?_ HT1.out HK1.out)); done)
      exact ⟨(a / 256 * 256), 24, rfl, by omega, by omega, (valB_iff _ _).2 ⟨by decide, by decide, by rw [show pw 24 = 256 from by decide]; exact (Int.mul_emod_left _ _)⟩, hrs.1, hrs.2⟩
    · have kr := res2 (u := .int .u32 (a / 128 * 128)) (v := .int .i64 25) k0 k1
      refine bodyPost_ret (v := .agg #[.int .u32 (a / 128 * 128), .int .i64 25]) (by simp [results, Tryd.results11, go_sem, kr.1, kr.2, hz3_0]) rfl ?_
      have hrs : RS T w (((w3.setCell ⟨w.heap.size, 0, none⟩ (.int .u32 (a / 128 * 128))).setCell ⟨w.heap.size, 1, none⟩ (.int .i64 25)).alloc (.cells #[.int .u32 (a / 128 * 128), .int .i64 25] 25)) := by ((repeat (first | exact RS.refl H.out | refine RS.drew ?_ | refine RS.setCell ?_ (by first | (simp; done) | (simp; omega) | omega) hlt _ | refine RS.alloc ?_ _ | refine RS.step ?_ HT3.out HK3.out | refine RS.step ?_ HT2.out HK2.out | refine RS.step ?_ HT1.out HK1.out)); done)
      exact ⟨(a / 128 * 128), 25, rfl, by omega, by omega, (valB_iff _ _).2 ⟨by decide, by decide, by rw [show pw 25 = 128 from by decide]; exact (Int.mul_emod_left _ _)⟩, hrs.1, hrs.2⟩
    · have kr := res2 (u := .int .u32 (a / 16777216 * 16777216)) (v := .int .i64 8) k0 k1
      refine bodyPost_ret (v := .agg #[.int .u32 (a / 16777216 * 16777216), .int .i64 8]) (by simp [results, Tryd.results11, go_sem, kr.1, kr.2, hz3_0]) rfl ?_
      have hrs : RS T w (((w3.setCell ⟨w.heap.size, 0, none⟩ (.int .u32 (a / 16777216 * 16777216))).setCell ⟨w.heap.size, 1, none⟩ (.int .i64 8)).alloc (.cells #[.int .u32 (a / 16777216 * 16777216), .int .i64 8] 25)) := by ((repeat (first | exact RS.refl H.out | refine RS.drew ?_ | refine RS.setCell ?_ (by first | (simp; done) | (simp; omega) | omega) hlt _ | refine RS.alloc ?_ _ | refine RS.step ?_ HT3.out HK3.out | refine RS.step ?_ HT2.out HK2.out | refine RS.step ?_ HT1.out HK1.out)); done)
      exact ⟨(a / 16777216 * 16777216), 8, rfl, by omega, by omega, (valB_iff _ _).2 ⟨by decide, by decide, by rw [show pw 8 = 16777216 from by decide]; exact (Int.mul_emod_left _ _)⟩, hrs.1, hrs.2⟩
    · have kr := res2 (u := .int .u32 (a / 2147483648 * 2147483648)) (v := .int .i64 1) k0 k1
      refine bodyPost_ret (v := .agg #[.int .u32 (a / 2147483648 * 2147483648), .int .i64 1]) (by simp [results, Tryd.results11, go_sem, kr.1, kr.2, hz3_0]) rfl ?_
      have hrs : RS T w (((w3.setCell ⟨w.heap.size, 0, none⟩ (.int .u32 (a / 2147483648 * 2147483648))).setCell ⟨w.heap.size, 1, none⟩ (.int .i64 1)).alloc (.cells #[.int .u32 (a / 2147483648 * 2147483648), .int .i64 1] 25)) := by ((repeat (first | exact RS.refl H.out | refine RS.drew ?_ | refine RS.setCell ?_ (by first | (simp; done) | (simp; omega) | omega) hlt _ | refine RS.alloc ?_ _ | refine RS.step ?_ HT3.out HK3.out | refine RS.step ?_ HT2.out HK2.out | refine RS.step ?_ HT1.out HK1.out)); done)
      exact ⟨(a / 2147483648 * 2147483648), 1, rfl, by omega, by omega, (valB_iff _ _).2 ⟨by decide, by decide, by rw [show pw 1 = 2147483648 from by decide]; exact (Int.mul_emod_left _ _)⟩, hrs.1, hrs.2⟩
    · have kr := res2 (u := .int .u32 (a / 4294967296 * 4294967296)) (v := .int .i64 0) k0 k1
      refine bodyPost_ret (v := .agg #[.int .u32 (a / 4294967296 * 4294967296), .int .i64 0]) (by simp [results, Tryd.results11, go_sem, kr.1, kr.2, hz3_0]) rfl ?_
      have hrs : RS T w (((w3.setCell ⟨w.heap.size, 0, none⟩ (.int .u32 (a / 4294967296 * 4294967296))).setCell ⟨w.heap.size, 1, none⟩ (.int .i64 0)).alloc (.cells #[.int .u32 (a / 4294967296 * 4294967296), .int .i64 0] 25)) := by ((repeat (first | exact RS.refl H.out | refine RS.drew ?_ | refine RS.setCell ?_ (by first | (simp; done) | (simp; omega) | omega) hlt _ | refine RS.alloc ?_ _ | refine RS.step ?_ HT3.out HK3.out | refine RS.step ?_ HT2.out HK2.out | refine RS.step ?_ HT1.out HK1.out)); done)
      exact ⟨(a / 4294967296 * 4294967296), 0, rfl, by omega, by omega, (valB_iff _ _).2 ⟨by decide, by decide, by rw [show pw 0 = 4294967296 from by decide]; exact (Int.mul_emod_left _ _)⟩, hrs.1, hrs.2⟩
    · have kr := res2 (u := .int .u32 (a / 65536 * 65536)) (v := .int .i64 16) k0 k1
      refine bodyPost_ret (v := .agg #[.int .u32 (a / 65536 * 65536), .int .i64 16]) (by simp [results, Tryd.results11, go_sem, kr.1, kr.2, hz3_0]) rfl ?_
      have hrs : RS T w (((w3.setCell ⟨w.heap.size, 0, none⟩ (.int .u32 (a / 65536 * 65536))).setCell ⟨w.heap.size, 1, none⟩ (.int .i64 16)).alloc (.cells #[.int .u32 (a / 65536 * 65536), .int .i64 16] 25)) := by ((repeat (first | exact RS.refl H.out | refine RS.drew ?_ | refine RS.setCell ?_ (by first | (simp; done) | (simp; omega) | omega) hlt _ | refine RS.alloc ?_ _ | refine RS.step ?_ HT3.out HK3.out | refine RS.step ?_ HT2.out HK2.out | refine RS.step ?_ HT1.out HK1.out)); done)
      exact ⟨(a / 65536 * 65536), 16, rfl, by omega, by omega, (valB_iff _ _).2 ⟨by decide, by decide, by rw [show pw 16 = 65536 from by decide]; exact (Int.mul_emod_left _ _)⟩, hrs.1, hrs.2⟩
    · have kr := res2 (u := .int .u32 (a / 4 * 4)) (v := .int .i64 30) k0 k1
      refine bodyPost_ret (v := .agg #[.int .u32 (a / 4 * 4), .int .i64 30]) (by simp [results, Tryd.results11, go_sem, kr.1, kr.2, hz3_0]) rfl ?_
      have hrs : RS T w (((w3.setCell ⟨w.heap.size, 0, none⟩ (.int .u32 (a / 4 * 4))).setCell ⟨w.heap.size, 1, none⟩ (.int .i64 30)).alloc (.cells #[.int .u32 (a / 4 * 4), .int .i64 30] 25)) := by ((repeat (first | exact RS.refl H.out | refine RS.drew ?_ | refine RS.setCell ?_ (by first | (simp; done) | (simp; omega) | omega) hlt _ | refine RS.alloc ?_ _ | refine RS.step ?_ HT3.out HK3.out | refine RS.step ?_ HT2.out HK2.out | refine RS.step ?_ HT1.out HK1.out)); done)
      exact ⟨(a / 4 * 4), 30, rfl, by omega, by omega, (valB_iff _ _).2 ⟨by decide, by decide, by rw [show pw 30 = 4 from by decide]; exact (Int.mul_emod_left _ _)⟩, hrs.1, hrs.2⟩
    · have kr := res2 (u := .int .u32 (a / 512 * 512)) (v := .int .i64 23) k0 k1
      refine bodyPost_ret (v := .agg #[.int .u32 (a / 512 * 512), .int .i64 23]) (by simp [results, Tryd.results11, go_sem, kr.1, kr.2, hz3_0]) rfl ?_
      have hrs : RS T w (((w3.setCell ⟨w.heap.size, 0, none⟩ (.int .u32 (a / 512 * 512))).setCell ⟨w.heap.size, 1, none⟩ (.int .i64 23)).alloc (.cells #[.int .u32 (a / 512 * 512), .int .i64 23] 25)) := by ((repeat (first | exact RS.refl H.out | refine RS.drew ?_ | refine RS.setCell ?_ (by first | (simp; done) | (simp; omega) | omega) hlt _ | refine RS.alloc ?_ _ | refine RS.step ?_ HT3.out HK3.out | refine RS.step ?_ HT2.out HK2.out | refine RS.step ?_ HT1.out HK1.out)); done)
      exact ⟨(a / 512 * 512), 23, rfl, by omega, by omega, (valB_iff _ _).2 ⟨by decide, by decide, by rw [show pw 23 = 512 from by decide]; exact (Int.mul_emod_left _ _)⟩, hrs.1, hrs.2⟩
end Go.Proofs.YtekhggaafeonjaaDoor
