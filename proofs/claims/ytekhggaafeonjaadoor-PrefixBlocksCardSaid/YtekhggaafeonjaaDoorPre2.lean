/- Walks of package prefix: Of, Covers, Halves, Common. -/
import Derived.Test.YtekhggaafeonjaaDoorPre1
import Derived.Test.YtekhggaafeonjaaDoorReg
import Derived.Deep.RegionHeld3
import Derived.IntWalk
namespace Go.Proofs.YtekhggaafeonjaaDoor
open Go.RowKit
set_option maxHeartbeats 400000 in
theorem prefix_Halves_yes (a n : Int) (ha0 : 0 ≤ a) (ha1 : a ≤ 4294967295) (hv : valB a n = true) (hn : n ≤ 31) (w : World) :
    Calls Tryd.prog 34 #[.agg #[.int .u32 a, .int .i64 n]] w fun e w' => e = .returned (.tuple #[.agg #[.int .u32 a, .int .i64 (n+1)], .agg #[.int .u32 (a + pw (n+1)), .int .i64 (n+1)], .bool true]) ∧ Below w.heap.size w w' := by
  have hb := (valB_iff a n).1 hv
  have hb1 := hb.1
  have HP := Lib.hid (or_upper a n ha0 ha1 hb.1 hn hb.2.2)
  have hne : (n == 32) = false := by simp; omega
  clear hb
  have hw1 : IntKind.i64.wrap (n + 1) = n + 1 := IntWalk.i64_in _ (by omega)
  go_enter Tryd.func34, Tryd.ntmps34
  go_wp2_with (go_at_call 24; refine (prefix_ValidB _ _ ha0 ha1 hv _).mono ?_; rintro e w2 ⟨rfl, hb2⟩; obtain ⟨hc2, hf2⟩ := bcell hb2; have hs2 := hb2.size; (try simp at hs2))
  have hz2_0 : w.heap.size < w2.heap.size := by (have := hb2.size; simp at this; omega)
  have hz2_1 : w.heap.size + 1 < w2.heap.size := by (have := hb2.size; simp at this; omega)
  have hz2_2 : w.heap.size + 1 + 1 < w2.heap.size := by (have := hb2.size; simp at this; omega)
  go_region_held3 (fun w' => w'.cell? ⟨w.heap.size, 0, none⟩ = some (.int .u32 a) ∧ w'.cell? ⟨w.heap.size, 1, none⟩ = some (.int .i64 n)) (go_simp) (fail)
  go_wp2
  refine bodyPost_ret (v := .tuple #[.agg #[.int .u32 a, .int .i64 (n+1)], .agg #[.int .u32 (bits BinOp.or IntKind.u32 a (2 ^ (31 - n).toNat % 4294967296)), .int .i64 (n+1)], .bool true]) (by simp [results, Tryd.results34, go_sem, hc2, hz2_0, hz2_1, hz2_2]) rfl ?_
  refine ⟨?_, ?_⟩
  · rw [HP.out]
  · ((repeat (first | exact Below.refl _ _ | refine Below.drew ?_ | refine Below.setCell ?_ (by first | (simp; done) | (simp; omega) | omega) _ | refine Below.alloc ?_ (by first | (simp; done) | (simp; omega) | omega) _ | refine Below.trans ?_ (Below.mono hb2 (by first | (simp; done) | (simp; omega) | omega)))); done)
set_option maxHeartbeats 400000 in
theorem prefix_Halves_no (a n : Int) (ha0 : 0 ≤ a) (ha1 : a ≤ 4294967295) (hv : (valB a n && !(n == 32)) = false) (w : World) :
    Calls Tryd.prog 34 #[.agg #[.int .u32 a, .int .i64 n]] w fun e w' => e = .returned (.tuple #[.agg #[.int .u32 0, .int .i64 0], .agg #[.int .u32 0, .int .i64 0], .bool false]) ∧ Below w.heap.size w w' := by
  rcases Bool.eq_false_or_eq_true (valB a n) with g0 | g0
  · rw [g0] at hv
    have hn : n = 32 := by simpa using hv
    subst hn
    clear hv
    go_enter Tryd.func34, Tryd.ntmps34
    go_wp2_with (go_at_call 24; refine (prefix_ValidB _ _ ha0 ha1 g0 _).mono ?_; rintro e w2 ⟨rfl, hb2⟩; obtain ⟨hc2, hf2⟩ := bcell hb2; have hs2 := hb2.size; (try simp at hs2))
    have hz2_0 : w.heap.size < w2.heap.size := by (have := hb2.size; simp at this; omega)
    have hz2_1 : w.heap.size + 1 < w2.heap.size := by (have := hb2.size; simp at this; omega)
    have hz2_2 : w.heap.size + 1 + 1 < w2.heap.size := by (have := hb2.size; simp at this; omega)
    go_wp2
    refine bodyPost_ret (v := .tuple #[.agg #[.int .u32 0, .int .i64 0], .agg #[.int .u32 0, .int .i64 0], .bool false]) (by simp [results, Tryd.results34, go_sem, hc2]) rfl ?_
    exact ⟨rfl, by ((repeat (first | exact Below.refl _ _ | refine Below.drew ?_ | refine Below.setCell ?_ (by first | (simp; done) | (simp; omega) | omega) _ | refine Below.alloc ?_ (by first | (simp; done) | (simp; omega) | omega) _ | refine Below.trans ?_ (Below.mono hb2 (by first | (simp; done) | (simp; omega) | omega)))); done)⟩
  · clear hv
    go_enter Tryd.func34, Tryd.ntmps34
    go_wp2_with (go_at_call 24; refine (prefix_ValidB _ _ ha0 ha1 g0 _).mono ?_; rintro e w2 ⟨rfl, hb2⟩; obtain ⟨hc2, hf2⟩ := bcell hb2; have hs2 := hb2.size; (try simp at hs2))
    have hz2_0 : w.heap.size < w2.heap.size := by (have := hb2.size; simp at this; omega)
    have hz2_1 : w.heap.size + 1 < w2.heap.size := by (have := hb2.size; simp at this; omega)
    have hz2_2 : w.heap.size + 1 + 1 < w2.heap.size := by (have := hb2.size; simp at this; omega)
    go_wp2
    refine bodyPost_ret (v := .tuple #[.agg #[.int .u32 0, .int .i64 0], .agg #[.int .u32 0, .int .i64 0], .bool false]) (by simp [results, Tryd.results34, go_sem, hc2]) rfl ?_
    exact ⟨rfl, by ((repeat (first | exact Below.refl _ _ | refine Below.drew ?_ | refine Below.setCell ?_ (by first | (simp; done) | (simp; omega) | omega) _ | refine Below.alloc ?_ (by first | (simp; done) | (simp; omega) | omega) _ | refine Below.trans ?_ (Below.mono hb2 (by first | (simp; done) | (simp; omega) | omega)))); done)⟩
set_option maxHeartbeats 400000 in
theorem prefix_Of_no (a n : Int) (ha0 : 0 ≤ a) (ha1 : a ≤ 4294967295) (hv : valB a n = false) (w : World) :
    Calls Tryd.prog 52 #[.agg #[.int .u32 a, .int .i64 n]] w fun e w' => e = .returned (.tuple #[.agg #[.int .u32 0, .int .u32 0], .bool false]) ∧ Below w.heap.size w w' := by
  go_enter Tryd.func52, Tryd.ntmps52
  go_wp2_with (go_at_call 24; refine (prefix_ValidB _ _ ha0 ha1 hv _).mono ?_; rintro e w2 ⟨rfl, hb2⟩; obtain ⟨hc2, hf2⟩ := bcell hb2; have hs2 := hb2.size; (try simp at hs2))
  have hz2_0 : w.heap.size < w2.heap.size := by (have := hb2.size; simp at this; omega)
  have hz2_1 : w.heap.size + 1 < w2.heap.size := by (have := hb2.size; simp at this; omega)
  go_wp2
  refine bodyPost_ret (v := .tuple #[.agg #[.int .u32 0, .int .u32 0], .bool false]) (by simp [results, Tryd.results52, go_sem, hc2]) rfl ?_
  exact ⟨rfl, by ((repeat (first | exact Below.refl _ _ | refine Below.drew ?_ | refine Below.setCell ?_ (by first | (simp; done) | (simp; omega) | omega) _ | refine Below.alloc ?_ (by first | (simp; done) | (simp; omega) | omega) _ | refine Below.trans ?_ (Below.mono hb2 (by first | (simp; done) | (simp; omega) | omega)))); done)⟩
set_option maxHeartbeats 400000 in
theorem prefix_Of_yes (a n : Int) (ha0 : 0 ≤ a) (ha1 : a ≤ 4294967295) (hv : valB a n = true) (w : World) :
    Calls Tryd.prog 52 #[.agg #[.int .u32 a, .int .i64 n]] w fun e w' => e = .returned (.tuple #[.agg #[.int .u32 a, .int .u32 (a + (pw n - 1))], .bool true]) ∧ Below w.heap.size w w' := by
  have hb := (valB_iff a n).1 hv
  have hn0 := hb.1
  have hn1 := hb.2.1
  have hx := not_mask n hn0 hn1
  have ho := or_low a n ha0 ha1 hn0 hn1 hb.2.2
  clear hb
  go_enter Tryd.func52, Tryd.ntmps52
  go_wp2_with (go_at_call 24; refine (prefix_ValidB _ _ ha0 ha1 hv _).mono ?_; rintro e w2 ⟨rfl, hb2⟩; obtain ⟨hc2, hf2⟩ := bcell hb2; have hs2 := hb2.size; (try simp at hs2))
  have hz2_0 : w.heap.size < w2.heap.size := by (have := hb2.size; simp at this; omega)
  have hz2_1 : w.heap.size + 1 < w2.heap.size := by (have := hb2.size; simp at this; omega)
  go_region_held3 (fun w' => w'.cell? ⟨w.heap.size, 0, none⟩ = some (.int .u32 a) ∧ w'.cell? ⟨w.heap.size, 1, none⟩ = some (.int .i64 n)) (go_simp) ((go_at_call 47; refine (prefix_mask _ hn0 hn1 _).mono ?_; rintro e w' ⟨rfl, rfl⟩))
  go_wp2
  refine bodyPost_ret (v := .tuple #[.agg #[.int .u32 a, .int .u32 (a + (pw n - 1))], .bool true]) (by simp [results, Tryd.results52, go_sem, hc2, hz2_0, hz2_1]) rfl ?_
  exact ⟨rfl, by ((repeat (first | exact Below.refl _ _ | refine Below.drew ?_ | refine Below.setCell ?_ (by first | (simp; done) | (simp; omega) | omega) _ | refine Below.alloc ?_ (by first | (simp; done) | (simp; omega) | omega) _ | refine Below.trans ?_ (Below.mono hb2 (by first | (simp; done) | (simp; omega) | omega)))); done)⟩
set_option maxHeartbeats 400000 in
theorem prefix_Covers (a n b m : Int) (ha0 : 0 ≤ a) (ha1 : a ≤ 4294967295) (hb0 : 0 ≤ b) (hb1 : b ≤ 4294967295) (w : World) :
    Calls Tryd.prog 48 #[.agg #[.int .u32 a, .int .i64 n], .agg #[.int .u32 b, .int .i64 m]] w fun e w' => e = .returned (.bool (coverB a n b m)) ∧ Below w.heap.size w w' := by
  unfold coverB
  rcases Bool.eq_false_or_eq_true (valB b m) with g0 | g0
  rcases Bool.eq_false_or_eq_true (decide (n ≤ m)) with g1 | g1
  all_goals
    go_enter Tryd.func48, Tryd.ntmps48
    go_wp2_with (first | (go_at_call 24; refine (prefix_ValidB _ _ hb0 hb1 g0 _).mono ?_; rintro e w2 ⟨rfl, hb2⟩; obtain ⟨hc2, hf2⟩ := bcell hb2; have hs2 := hb2.size; (try simp at hs2)) | (go_at_call 35; refine (prefix_Contains _ _ _ ha0 ha1 hb0 hb1 _).mono ?_; rintro e w3 ⟨rfl, hb3⟩; obtain ⟨hc3, hf3⟩ := bcell hb3; have hs3 := hb3.size; (try simp at hs3)))
    go_ret
    exact ⟨by simp only [*]; rfl, by first | ((repeat (first | exact Below.refl _ _ | refine Below.drew ?_ | refine Below.setCell ?_ (by first | (simp; done) | (simp; omega) | omega) _ | refine Below.alloc ?_ (by first | (simp; done) | (simp; omega) | omega) _ | refine Below.trans ?_ (Below.mono hb2 (by first | (simp; done) | (simp; omega) | omega)))); done) | ((repeat (first | exact Below.refl _ _ | refine Below.drew ?_ | refine Below.setCell ?_ (by first | (simp; done) | (simp; omega) | omega) _ | refine Below.alloc ?_ (by first | (simp; done) | (simp; omega) | omega) _ | refine Below.trans ?_ (Below.mono hb3 (by first | (simp; done) | (simp; omega) | omega)) | refine Below.trans ?_ (Below.mono hb2 (by first | (simp; done) | (simp; omega) | omega)))); done)⟩
end Go.Proofs.YtekhggaafeonjaaDoor
