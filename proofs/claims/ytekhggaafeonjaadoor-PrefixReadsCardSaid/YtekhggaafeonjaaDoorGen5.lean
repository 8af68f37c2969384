/- Walks of the generator: SpoilPrefix. -/
import Derived.Test.YtekhggaafeonjaaDoorGen4
namespace Go.Proofs.YtekhggaafeonjaaDoor
open Go.RowKit
theorem or_bd (a : Int) (ha0 : 0 ≤ a) (ha1 : a ≤ 4294967295) : 0 ≤ bits .or .u32 a 1 ∧ bits .or .u32 a 1 ≤ 4294967295 := by
  rw [u32_or a 1 ha0 (by omega) (by decide) (by decide)]
  have h : a.toNat ||| (1 : Int).toNat < 2 ^ 32 := Nat.or_lt_two_pow (by omega) (by decide)
  simp at h
  simp
  omega
theorem w64_bd (n : Int) : -9223372036854775808 ≤ wrap64 n ∧ wrap64 n ≤ 9223372036854775807 := by
  unfold wrap64
  omega
theorem keep_other {w : World} {b o c q : Nat} {x u : Value} (h : ¬ c = b) (k : w.cell? ⟨b, o, none⟩ = some x) : (w.setCell ⟨c, q, none⟩ u).cell? ⟨b, o, none⟩ = some x := by
  rw [World.cell?_setCell_other _ _ _ _ (by intro e; injection e with e1 _ _; exact h e1)]
  exact k
def PfxA (T : Nat) (w : World) (e : Ending) (w' : World) : Prop := ∃ a n : Int, e = .returned (.agg #[.int .u32 a, .int .i64 n]) ∧ 0 ≤ a ∧ a ≤ 4294967295 ∧ -9223372036854775808 ≤ n ∧ n ≤ 9223372036854775807 ∧ Tp T w' ∧ Keep T w w'
set_option maxHeartbeats 4000000 in
theorem gen_SpoilPrefix (T : Nat) (a n : Int) (ha0 : 0 ≤ a) (ha1 : a ≤ 4294967295) (hn0 : -9223372036854775808 ≤ n) (hn1 : n ≤ 9223372036854775807) (w : World) (h : Tp T w) :
    Calls Tryd.prog 27 #[.pointer (some ⟨T, 0, none⟩), .agg #[.int .u32 a, .int .i64 n]] w (PfxA T w) := by
  have hlt := h.lt
  have hne : ¬ w.heap.size = T := by omega
  have H := Lib.hid h
  clear h
  go_enter Tryd.func27, Tryd.ntmps27
  go_wp2_with fail
  obtain ⟨W, hW⟩ : ∃ W, W = (w.alloc (.cells #[.int .u32 a, .int .i64 n] 25)).alloc (.cells #[.int .u32 0, .int .i64 0] 25) := ⟨_, rfl⟩
  rw [← hW]
  have kW : RS T w W := by rw [hW]; ((repeat (first | exact RS.refl H.out | refine RS.drew ?_ | refine RS.setCell ?_ (by first | (simp; done) | (simp; omega) | omega) hlt _ | refine RS.alloc ?_ _)); done)
  have p0 : W.cell? ⟨w.heap.size, 0, none⟩ = some (.int .u32 a) := by rw [hW, World.cell?_alloc_some _ _ _ (by rw [World.cell?_alloc_at _ _ _ _ rfl]; rfl), World.cell?_alloc_at _ _ _ _ rfl]; rfl
  have p1 : W.cell? ⟨w.heap.size, 1, none⟩ = some (.int .i64 n) := by rw [hW, World.cell?_alloc_some _ _ _ (by rw [World.cell?_alloc_at _ _ _ _ rfl]; rfl), World.cell?_alloc_at _ _ _ _ rfl]; rfl
  have r0 : W.cell? ⟨w.heap.size + 1, 0, none⟩ = some (.int .u32 0) := by rw [hW, World.cell?_alloc_at _ _ _ _ (by simp)]; rfl
  have r1 : W.cell? ⟨w.heap.size + 1, 1, none⟩ = some (.int .i64 0) := by rw [hW, World.cell?_alloc_at _ _ _ _ (by simp)]; rfl
  have f0 : W.frozen? ⟨w.heap.size, 0, none⟩ = false := by rw [hW]; simp
  have f1 : W.frozen? ⟨w.heap.size, 1, none⟩ = false := by rw [hW]; simp
  have f2 : W.frozen? ⟨w.heap.size + 1, 0, none⟩ = false := by rw [hW]; simp
  have f3 : W.frozen? ⟨w.heap.size + 1, 1, none⟩ = false := by rw [hW]; simp
  have z0 : w.heap.size < W.heap.size := by rw [hW]; simp; omega
  have z1 : w.heap.size + 1 < W.heap.size := by rw [hW]; simp
  have hne' : ¬ w.heap.size + 1 = T := by omega
  have KW := Lib.hid kW
  clear hW kW
  refine (gen_Next T 4 (by decide) _ (KW.out.1)).mono ?_
  rintro e w1 ⟨c, rfl, bc0, bc1, hT1, hK1⟩
  obtain ⟨hc1, hf1⟩ := kcell hK1
  have hs1 := hK1.size
  try simp at hs1
  have HT1 := Lib.hid hT1
  have HK1 := Lib.hid hK1
  clear hT1 hK1
  have hz1_0 : w.heap.size < w1.heap.size := (by omega)
  have hz1_1 : w.heap.size + 1 < w1.heap.size := (by omega)
  have q0 := (hc1 _ 0 z0 hne).trans p0
  have q1 := (hc1 _ 1 z0 hne).trans p1
  have s0 := (hc1 _ 0 z1 hne').trans r0
  have s1 := (hc1 _ 1 z1 hne').trans r1
  have g0 := (hf1 _ 0 z0 hne).trans f0
  have g1 := (hf1 _ 1 z0 hne).trans f1
  have g2 := (hf1 _ 0 z1 hne').trans f2
  have g3 := (hf1 _ 1 z1 hne').trans f3
  clear hc1 hf1 p0 p1 r0 r1 f0 f1 f2 f3
  have h4 : c = 0 ∨ c = 1 ∨ c = 2 ∨ c = 3 := by omega
  clear bc0 bc1
  rcases h4 with rfl | rfl | rfl | rfl
  · go_wp2_with fail
    refine (gen_Next T 4 (by decide) _ (HT1.out.alloc _)).mono ?_
    rintro e w2 ⟨d, rfl, bd0, bd1, hT2, hK2⟩
    obtain ⟨hc2, hf2⟩ := kcell hK2
    have hs2 := hK2.size
    try simp at hs2
    have HT2 := Lib.hid hT2
    have HK2 := Lib.hid hK2
    clear hT2 hK2
    have hz2_0 : w.heap.size < w2.heap.size := (by omega)
    have hz2_1 : w.heap.size + 1 < w2.heap.size := (by omega)
    have hz2_2 : w1.heap.size < w2.heap.size := (by omega)
    have hne1 : ¬ w1.heap.size = T := by omega
    have t0 := (hc2 _ 0 (by simp; omega) hne).trans ((World.cell?_alloc_some _ _ _ (by rw [q0]; rfl)).trans q0)
    have t1 := (hc2 _ 1 (by simp; omega) hne).trans ((World.cell?_alloc_some _ _ _ (by rw [q1]; rfl)).trans q1)
    have u0 := (hc2 _ 0 (by simp; omega) hne').trans ((World.cell?_alloc_some _ _ _ (by rw [s0]; rfl)).trans s0)
    have u1 := (hc2 _ 1 (by simp; omega) hne').trans ((World.cell?_alloc_some _ _ _ (by rw [s1]; rfl)).trans s1)
    have h4 : d = 0 ∨ d = 1 ∨ d = 2 ∨ d = 3 := by omega
    clear bd0 bd1
    rcases h4 with rfl | rfl | rfl | rfl
    all_goals go_wp2_with fail
    · have kr := res2 (w := w2.setCell ⟨w.heap.size, 1, none⟩ (.int .i64 (-1))) (u := .int .u32 a) (v := .int .i64 (-1)) (keep_other (c := w.heap.size) (by omega) u0) (keep_other (c := w.heap.size) (by omega) u1)
      refine bodyPost_ret (v := .agg #[.int .u32 a, .int .i64 (-1)]) (by simp [results, Tryd.results27, go_sem, kr.1, kr.2]) rfl ?_
      have hrs : RS T w (((w2.setCell ⟨w.heap.size, 1, none⟩ (.int .i64 (-1))).setCell ⟨w.heap.size + 1, 0, none⟩ (.int .u32 a)).setCell ⟨w.heap.size + 1, 1, none⟩ (.int .i64 (-1))) := by ((repeat (first | exact RS.refl H.out | refine RS.drew ?_ | refine RS.setCell ?_ (by first | (simp; done) | (simp; omega) | omega) hlt _ | refine RS.alloc ?_ _ | refine RS.step ?_ HT2.out HK2.out | refine RS.step ?_ HT1.out HK1.out | exact KW.out)); done)
      exact ⟨a, (-1), rfl, by first | omega | exact (or_bd a ha0 ha1).1, by first | omega | exact (or_bd a ha0 ha1).2, by first | omega | exact (w64_bd _).1, by first | omega | exact (w64_bd _).2, hrs.1, hrs.2⟩
    · have kr := res2 (w := w2.setCell ⟨w.heap.size, 1, none⟩ (.int .i64 33)) (u := .int .u32 a) (v := .int .i64 33) (keep_other (c := w.heap.size) (by omega) u0) (keep_other (c := w.heap.size) (by omega) u1)
      refine bodyPost_ret (v := .agg #[.int .u32 a, .int .i64 33]) (by simp [results, Tryd.results27, go_sem, kr.1, kr.2]) rfl ?_
      have hrs : RS T w (((w2.setCell ⟨w.heap.size, 1, none⟩ (.int .i64 33)).setCell ⟨w.heap.size + 1, 0, none⟩ (.int .u32 a)).setCell ⟨w.heap.size + 1, 1, none⟩ (.int .i64 33)) := by ((repeat (first | exact RS.refl H.out | refine RS.drew ?_ | refine RS.setCell ?_ (by first | (simp; done) | (simp; omega) | omega) hlt _ | refine RS.alloc ?_ _ | refine RS.step ?_ HT2.out HK2.out | refine RS.step ?_ HT1.out HK1.out | exact KW.out)); done)
      exact ⟨a, 33, rfl, by first | omega | exact (or_bd a ha0 ha1).1, by first | omega | exact (or_bd a ha0 ha1).2, by first | omega | exact (w64_bd _).1, by first | omega | exact (w64_bd _).2, hrs.1, hrs.2⟩
    · have kr := res2 (w := w2.setCell ⟨w.heap.size, 1, none⟩ (.int .i64 0)) (u := .int .u32 a) (v := .int .i64 0) (keep_other (c := w.heap.size) (by omega) u0) (keep_other (c := w.heap.size) (by omega) u1)
      refine bodyPost_ret (v := .agg #[.int .u32 a, .int .i64 0]) (by simp [results, Tryd.results27, go_sem, kr.1, kr.2]) rfl ?_
      have hrs : RS T w (((w2.setCell ⟨w.heap.size, 1, none⟩ (.int .i64 0)).setCell ⟨w.heap.size + 1, 0, none⟩ (.int .u32 a)).setCell ⟨w.heap.size + 1, 1, none⟩ (.int .i64 0)) := by ((repeat (first | exact RS.refl H.out | refine RS.drew ?_ | refine RS.setCell ?_ (by first | (simp; done) | (simp; omega) | omega) hlt _ | refine RS.alloc ?_ _ | refine RS.step ?_ HT2.out HK2.out | refine RS.step ?_ HT1.out HK1.out | exact KW.out)); done)
      exact ⟨a, 0, rfl, by first | omega | exact (or_bd a ha0 ha1).1, by first | omega | exact (or_bd a ha0 ha1).2, by first | omega | exact (w64_bd _).1, by first | omega | exact (w64_bd _).2, hrs.1, hrs.2⟩
    · have kr := res2 (w := w2.setCell ⟨w.heap.size, 1, none⟩ (.int .i64 32)) (u := .int .u32 a) (v := .int .i64 32) (keep_other (c := w.heap.size) (by omega) u0) (keep_other (c := w.heap.size) (by omega) u1)
      refine bodyPost_ret (v := .agg #[.int .u32 a, .int .i64 32]) (by simp [results, Tryd.results27, go_sem, kr.1, kr.2]) rfl ?_
      have hrs : RS T w (((w2.setCell ⟨w.heap.size, 1, none⟩ (.int .i64 32)).setCell ⟨w.heap.size + 1, 0, none⟩ (.int .u32 a)).setCell ⟨w.heap.size + 1, 1, none⟩ (.int .i64 32)) := by ((repeat (first | exact RS.refl H.out | refine RS.drew ?_ | refine RS.setCell ?_ (by first | (simp; done) | (simp; omega) | omega) hlt _ | refine RS.alloc ?_ _ | refine RS.step ?_ HT2.out HK2.out | refine RS.step ?_ HT1.out HK1.out | exact KW.out)); done)
      exact ⟨a, 32, rfl, by first | omega | exact (or_bd a ha0 ha1).1, by first | omega | exact (or_bd a ha0 ha1).2, by first | omega | exact (w64_bd _).1, by first | omega | exact (w64_bd _).2, hrs.1, hrs.2⟩
  · go_wp2_with fail
    have kr := res2 (w := w1.setCell ⟨w.heap.size, 0, none⟩ (.int .u32 (bits .or .u32 a 1))) (u := .int .u32 (bits .or .u32 a 1)) (v := .int .i64 n) (keep_other (c := w.heap.size) (by omega) s0) (keep_other (c := w.heap.size) (by omega) s1)
    refine bodyPost_ret (v := .agg #[.int .u32 (bits .or .u32 a 1), .int .i64 n]) (by simp [results, Tryd.results27, go_sem, kr.1, kr.2]) rfl ?_
    have hrs : RS T w (((w1.setCell ⟨w.heap.size, 0, none⟩ (.int .u32 (bits .or .u32 a 1))).setCell ⟨w.heap.size + 1, 0, none⟩ (.int .u32 (bits .or .u32 a 1))).setCell ⟨w.heap.size + 1, 1, none⟩ (.int .i64 n)) := by ((repeat (first | exact RS.refl H.out | refine RS.drew ?_ | refine RS.setCell ?_ (by first | (simp; done) | (simp; omega) | omega) hlt _ | refine RS.alloc ?_ _ | refine RS.step ?_ HT1.out HK1.out | exact KW.out)); done)
    exact ⟨(bits .or .u32 a 1), n, rfl, by first | omega | exact (or_bd a ha0 ha1).1, by first | omega | exact (or_bd a ha0 ha1).2, by first | omega | exact (w64_bd _).1, by first | omega | exact (w64_bd _).2, hrs.1, hrs.2⟩
  · go_wp2_with fail
    have kr := res2 (w := w1.setCell ⟨w.heap.size, 1, none⟩ (.int .i64 (wrap64 (n + 1)))) (u := .int .u32 a) (v := .int .i64 (wrap64 (n + 1))) (keep_other (c := w.heap.size) (by omega) s0) (keep_other (c := w.heap.size) (by omega) s1)
    refine bodyPost_ret (v := .agg #[.int .u32 a, .int .i64 (wrap64 (n + 1))]) (by simp [results, Tryd.results27, go_sem, kr.1, kr.2]) rfl ?_
    have hrs : RS T w (((w1.setCell ⟨w.heap.size, 1, none⟩ (.int .i64 (wrap64 (n + 1)))).setCell ⟨w.heap.size + 1, 0, none⟩ (.int .u32 a)).setCell ⟨w.heap.size + 1, 1, none⟩ (.int .i64 (wrap64 (n + 1)))) := by ((repeat (first | exact RS.refl H.out | refine RS.drew ?_ | refine RS.setCell ?_ (by first | (simp; done) | (simp; omega) | omega) hlt _ | refine RS.alloc ?_ _ | refine RS.step ?_ HT1.out HK1.out | exact KW.out)); done)
    exact ⟨a, (wrap64 (n + 1)), rfl, by first | omega | exact (or_bd a ha0 ha1).1, by first | omega | exact (or_bd a ha0 ha1).2, by first | omega | exact (w64_bd _).1, by first | omega | exact (w64_bd _).2, hrs.1, hrs.2⟩
  · go_wp2_with fail
    obtain ⟨d, bd0, bd1, hN⟩ := gen_Next_in T 32 (by decide) w1 HT1.out
    have HN := Lib.hid hN
    clear hN
    have hd : d ≤ 31 := by omega
    clear bd1
    have hmk : ∀ w', RS T w1 w' → w'.cell? ⟨w.heap.size, 0, none⟩ = some (.int .u32 a) ∧ RS T w1 w' := fun w' h => ⟨(h.cell hz1_0 hne).trans q0, h⟩
    have HMK := Lib.hid hmk
    clear hmk
    go_region_with ((go_at_call 23; refine (HN.out _ (by ((repeat (first | exact Below.refl _ _ | refine Below.drew ?_ | refine Below.setCell ?_ (by first | (simp; done) | (simp; omega) | omega) _ | refine Below.alloc ?_ (by first | (simp; done) | (simp; omega) | omega) _)); done))).mono ?_; rintro e w2 ⟨rfl, hT2, hK2⟩; obtain ⟨hc2, hf2⟩ := kcell hK2; have v0 : w2.cell? ⟨w.heap.size, 0, none⟩ = some (.int .u32 a) := (hc2 _ 0 hz1_0 hne).trans q0; have v1 : w2.frozen? ⟨w.heap.size, 0, none⟩ = false := (hf2 _ 0 hz1_0 hne).trans g0; have u0 : w2.cell? ⟨w.heap.size + 1, 0, none⟩ = some (.int .u32 0) := (hc2 _ 0 hz1_1 hne').trans s0; have u1 : w2.cell? ⟨w.heap.size + 1, 1, none⟩ = some (.int .i64 0) := (hc2 _ 1 hz1_1 hne').trans s1; have v2 : w2.frozen? ⟨w.heap.size + 1, 0, none⟩ = false := (hf2 _ 0 hz1_1 hne').trans g2; have v3 : w2.frozen? ⟨w.heap.size + 1, 1, none⟩ = false := (hf2 _ 1 hz1_1 hne').trans g3; have t1 : w2.cell? ⟨w.heap.size, 1, none⟩ = some (.int .i64 n) := (hc2 _ 1 hz1_0 hne).trans q1))
    all_goals
      have HT2 := Lib.hid hT2
      have HK2 := Lib.hid hK2
      clear hT2 hK2 hc2 hf2
      obtain ⟨x, hx⟩ : ∃ x, x = bits .xor .u32 a (IntKind.u32.wrap (2 ^ min (IntKind.u64.wrap d).toNat 32)) := ⟨_, rfl⟩
      rw [← hx]
      have hx0 : 0 ≤ x := by rw [hx]; exact (xor_bd a _ ha0 ha1 (u32_bd _).1 (u32_bd _).2).1
      have hx1 : x ≤ 4294967295 := by rw [hx]; exact (xor_bd a _ ha0 ha1 (u32_bd _).1 (u32_bd _).2).2
      clear hx
      go_wp2_with fail
      have kr := res2 (w := w2.setCell ⟨w.heap.size, 0, none⟩ (.int .u32 x)) (u := .int .u32 x) (v := .int .i64 n) (keep_other (c := w.heap.size) (by omega) u0) (keep_other (c := w.heap.size) (by omega) u1)
      refine bodyPost_ret (v := .agg #[.int .u32 x, .int .i64 n]) (by simp [results, Tryd.results27, go_sem, kr.1, kr.2]) rfl ?_
      have hrs : RS T w (((w2.setCell ⟨w.heap.size, 0, none⟩ (.int .u32 x)).setCell ⟨w.heap.size + 1, 0, none⟩ (.int .u32 x)).setCell ⟨w.heap.size + 1, 1, none⟩ (.int .i64 n)) := by ((repeat (first | exact RS.refl H.out | refine RS.drew ?_ | refine RS.setCell ?_ (by first | (simp; done) | (simp; omega) | omega) hlt _ | refine RS.alloc ?_ _ | refine RS.step ?_ HT2.out HK2.out | refine RS.step ?_ HT1.out HK1.out | exact KW.out)); done)
      exact ⟨x, n, rfl, by first | omega | exact (or_bd a ha0 ha1).1, by first | omega | exact (or_bd a ha0 ha1).2, by first | omega | exact (w64_bd _).1, by first | omega | exact (w64_bd _).2, hrs.1, hrs.2⟩
end Go.Proofs.YtekhggaafeonjaaDoor
