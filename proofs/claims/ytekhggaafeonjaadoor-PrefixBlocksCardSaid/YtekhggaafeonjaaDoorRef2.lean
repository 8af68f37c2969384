/- Walks of package nsgref1: Halves, Common. -/
import Derived.Test.YtekhggaafeonjaaDoorRef1
namespace Go.Proofs.YtekhggaafeonjaaDoor
open Go.RowKit
set_option maxHeartbeats 400000 in
theorem ref_Halves_yes (a n : Int) (ha0 : 0 ≤ a) (ha1 : a ≤ 4294967295) (hv : valB a n = true) (hn : n ≤ 31) (w : World) :
    Calls Tryd.prog 53 #[.agg #[.int .u32 a, .int .i64 n]] w fun e w' => e = .returned (.tuple #[.agg #[.int .u32 a, .int .i64 (n+1)], .agg #[.int .u32 (a + pw (n+1)), .int .i64 (n+1)], .bool true]) ∧ Below w.heap.size w w' := by
  have hb := (valB_iff a n).1 hv
  have hb1 := hb.1
  have hp := pw_pos (n + 1)
  have hl := pw_le (n + 1) (by omega)
  have hu := upper_le a n ha1 hb.1 hb.2.2 ha0 hb.2.1
  have hs := pw_succ n hn
  have hwp : IntKind.u32.wrap (pw (n + 1)) = pw (n + 1) := u32_wrap _ (by omega) (by omega)
  have hwq : IntKind.u32.wrap (a + pw (n + 1)) = a + pw (n + 1) := u32_wrap _ (by omega) (by omega)
  have hn1 : n + 1 ≤ 32 := by omega
  have hn0' : 0 ≤ n + 1 := by omega
  clear hs
  have hne : (n == 32) = false := by simp; omega
  clear hb
  have hw1 : IntKind.i64.wrap (n + 1) = n + 1 := IntWalk.i64_in _ (by omega)
  go_enter Tryd.func53, Tryd.ntmps53
  go_wp2_with (go_at_call 38; refine (ref_Valid _ _ ha0 ha1 hv _).mono ?_; rintro e w2 ⟨rfl, hb2⟩; obtain ⟨hc2, hf2⟩ := bcell hb2; have hs2 := hb2.size; (try simp at hs2))
  have hz2_0 : w.heap.size < w2.heap.size := by (have := hb2.size; simp at this; omega)
  have hz2_1 : w.heap.size + 1 < w2.heap.size := by (have := hb2.size; simp at this; omega)
  have hz2_2 : w.heap.size + 1 + 1 < w2.heap.size := by (have := hb2.size; simp at this; omega)
  go_region_held3 (fun w' => w'.cell? ⟨w.heap.size, 0, none⟩ = some (.int .u32 a) ∧ w'.cell? ⟨w.heap.size, 1, none⟩ = some (.int .i64 n)) (go_simp) ((go_at_call 50; refine (ref_size _ hn0' hn1 _).mono ?_; rintro e w' ⟨rfl, rfl⟩))
  go_wp2
  refine bodyPost_ret (v := .tuple #[.agg #[.int .u32 a, .int .i64 (n+1)], .agg #[.int .u32 (a + pw (n + 1)), .int .i64 (n+1)], .bool true]) (by simp [results, Tryd.results53, go_sem, hc2, hz2_0, hz2_1, hz2_2]) rfl ?_
  refine ⟨?_, ?_⟩
  · rfl
  · ((repeat (first | exact Below.refl _ _ | refine Below.drew ?_ | refine Below.setCell ?_ (by first | (simp; done) | (simp; omega) | omega) _ | refine Below.alloc ?_ (by first | (simp; done) | (simp; omega) | omega) _ | refine Below.trans ?_ (Below.mono hb2 (by first | (simp; done) | (simp; omega) | omega)))); done)
set_option maxHeartbeats 400000 in
theorem ref_Halves_no (a n : Int) (ha0 : 0 ≤ a) (ha1 : a ≤ 4294967295) (hv : (valB a n && !(n == 32)) = false) (w : World) :
    Calls Tryd.prog 53 #[.agg #[.int .u32 a, .int .i64 n]] w fun e w' => e = .returned (.tuple #[.agg #[.int .u32 0, .int .i64 0], .agg #[.int .u32 0, .int .i64 0], .bool false]) ∧ Below w.heap.size w w' := by
  rcases Bool.eq_false_or_eq_true (valB a n) with g0 | g0
  · rw [g0] at hv
    have hn : n = 32 := by simpa using hv
    subst hn
    clear hv
    go_enter Tryd.func53, Tryd.ntmps53
    go_wp2_with (go_at_call 38; refine (ref_Valid _ _ ha0 ha1 g0 _).mono ?_; rintro e w2 ⟨rfl, hb2⟩; obtain ⟨hc2, hf2⟩ := bcell hb2; have hs2 := hb2.size; (try simp at hs2))
    have hz2_0 : w.heap.size < w2.heap.size := by (have := hb2.size; simp at this; omega)
    have hz2_1 : w.heap.size + 1 < w2.heap.size := by (have := hb2.size; simp at this; omega)
    have hz2_2 : w.heap.size + 1 + 1 < w2.heap.size := by (have := hb2.size; simp at this; omega)
    go_wp2
    refine bodyPost_ret (v := .tuple #[.agg #[.int .u32 0, .int .i64 0], .agg #[.int .u32 0, .int .i64 0], .bool false]) (by simp [results, Tryd.results53, go_sem, hc2]) rfl ?_
    exact ⟨rfl, by ((repeat (first | exact Below.refl _ _ | refine Below.drew ?_ | refine Below.setCell ?_ (by first | (simp; done) | (simp; omega) | omega) _ | refine Below.alloc ?_ (by first | (simp; done) | (simp; omega) | omega) _ | refine Below.trans ?_ (Below.mono hb2 (by first | (simp; done) | (simp; omega) | omega)))); done)⟩
  · clear hv
    go_enter Tryd.func53, Tryd.ntmps53
    go_wp2_with (go_at_call 38; refine (ref_Valid _ _ ha0 ha1 g0 _).mono ?_; rintro e w2 ⟨rfl, hb2⟩; obtain ⟨hc2, hf2⟩ := bcell hb2; have hs2 := hb2.size; (try simp at hs2))
    have hz2_0 : w.heap.size < w2.heap.size := by (have := hb2.size; simp at this; omega)
    have hz2_1 : w.heap.size + 1 < w2.heap.size := by (have := hb2.size; simp at this; omega)
    have hz2_2 : w.heap.size + 1 + 1 < w2.heap.size := by (have := hb2.size; simp at this; omega)
    go_wp2
    refine bodyPost_ret (v := .tuple #[.agg #[.int .u32 0, .int .i64 0], .agg #[.int .u32 0, .int .i64 0], .bool false]) (by simp [results, Tryd.results53, go_sem, hc2]) rfl ?_
    exact ⟨rfl, by ((repeat (first | exact Below.refl _ _ | refine Below.drew ?_ | refine Below.setCell ?_ (by first | (simp; done) | (simp; omega) | omega) _ | refine Below.alloc ?_ (by first | (simp; done) | (simp; omega) | omega) _ | refine Below.trans ?_ (Below.mono hb2 (by first | (simp; done) | (simp; omega) | omega)))); done)⟩
theorem commN_le (a b n : Int) (ha0 : 0 ≤ a) (ha1 : a ≤ 4294967295) (hb0 : 0 ≤ b) (hb1 : b ≤ 4294967295) (h1 : n ≤ 32) (h : a / pw n = b / pw n) : n ≤ commN a b := by
  rcases Int.lt_or_le (commN a b) n with g | g
  · exfalso
    have hb := commN_bd a b ha0 ha1 hb0 hb1
    refine commN_ne a b ha0 ha1 hb0 hb1 (by omega) ?_
    obtain ⟨d, hd⟩ : ∃ d : Nat, n = commN a b + 1 + d := ⟨(n - commN a b - 1).toNat, by omega⟩
    have hpow : pw (commN a b + 1) = pw n * 2 ^ d := by
      unfold pw; rw [← Int.pow_add]; congr 1; omega
    have hp := pw_pos n
    rw [hpow, ← Int.ediv_ediv_of_nonneg (by omega), ← Int.ediv_ediv_of_nonneg (by omega), h]
  · exact g
set_option maxHeartbeats 1000000 in
theorem ref_Common (a b : Int) (ha0 : 0 ≤ a) (ha1 : a ≤ 4294967295) (hb0 : 0 ≤ b) (hb1 : b ≤ 4294967295) {p n : Int} (hn : commN a b = n) (hp : a / pw n * pw n = p) (w : World) :
    Calls Tryd.prog 56 #[.int .u32 a, .int .u32 b] w fun e w' => e = .returned (.agg #[.int .u32 p, .int .i64 n]) ∧ Below w.heap.size w w' := by
  have hnb := commN_bd a b ha0 ha1 hb0 hb1
  have hdiv := commN_div a b ha0 ha1 hb0 hb1
  have hle := fun m hm => commN_le a b m ha0 ha1 hb0 hb1 hm
  rw [hn] at hnb hdiv
  simp only [hn] at hle
  have HL := Lib.hid hle
  have HD := Lib.hid hdiv
  have HP := Lib.hid hp
  have hwa : IntKind.u64.wrap a = a := u64_wrap a ha0 (by omega)
  clear hle hdiv hp hn
  go_enter Tryd.func56, Tryd.ntmps56
  go_wp2
  go_loopw [5] (fun m wr => ∃ k : Int, m = .int .i64 k ∧ n ≤ k ∧ k ≤ 32 ∧ wr.cell? ⟨w.heap.size, 0, none⟩ = some (.int .u32 0) ∧ wr.cell? ⟨w.heap.size, 1, none⟩ = some (.int .i64 0) ∧ wr.frozen? ⟨w.heap.size, 0, none⟩ = false ∧ wr.frozen? ⟨w.heap.size, 1, none⟩ = false ∧ Below w.heap.size w wr ∧ w.heap.size < wr.heap.size) (fun m _ => (intOf m).toNat)
  case atStart => exact ⟨32, rfl, hnb.2, by omega, by rw [World.cell?_alloc_at _ _ _ _ rfl]; rfl, by rw [World.cell?_alloc_at _ _ _ _ rfl]; rfl, World.frozen?_alloc_at _ _ _ _ rfl, World.frozen?_alloc_at _ _ _ _ rfl, by ((repeat (first | exact Below.refl _ _ | refine Below.drew ?_ | refine Below.setCell ?_ (by first | (simp; done) | (simp; omega) | omega) _ | refine Below.alloc ?_ (by first | (simp; done) | (simp; omega) | omega) _)); done), by simp⟩
  case round =>
    obtain ⟨k, rfl, hk0, hk1, hc0, hc1, hf0, hf1, hb, hz⟩ := hrel
    have hk00 : 0 ≤ k := by omega
    by_cases hkp : 0 < k
    · have hpk := pw_pos k
      have hpl := pw_le k (by omega)
      have hkb := keep_bd a k ha0
      have hz0 : (pw k == 0) = false := by simp; omega
      have hzn : ¬ pw k = 0 := by omega
      have htd : a.tdiv (pw k) = a / pw k := Int.tdiv_eq_ediv_of_nonneg ha0
      have hwq : IntKind.u64.wrap (a / pw k) = a / pw k := u64_wrap _ (Int.ediv_nonneg ha0 (by omega)) (by have := Int.ediv_le_self (pw k) ha0; omega)
      have hwk : IntKind.u64.wrap (a / pw k * pw k) = a / pw k * pw k := u64_wrap _ (by omega) (by omega)
      have hwk2 : IntKind.u32.wrap (a / pw k * pw k) = a / pw k * pw k := u32_wrap _ (by omega) (by omega)
      go_wp2
      go_region_held3 (fun w' => w'.cell? ⟨w.heap.size, 0, none⟩ = some (.int .u32 0)) (go_simp) ((go_at_call 50; refine (ref_size _ hk00 hk1 _).mono ?_; rintro e w' ⟨rfl, rfl⟩))
      all_goals
        clear hz0 hzn htd hwq hwk hwk2
        have hkeep : contB (a / pw k * pw k) k b = decide (b / pw k = a / pw k) := contB_mul _ b k hk00 hk1
        by_cases hkn : k = n
        · have hcb : contB (a / pw k * pw k) k b = true := by rw [hkeep, hkn, HD.out]; simp
          have HC := Lib.hid hcb
          have hz1 : w.heap.size < wr.heap.size + 1 := by omega
          have HK := Lib.hid hkn
          clear hcb hkeep hkn
          go_wp2_with (go_at_call 54; refine (ref_Contains _ _ _ hkb.1 (Int.le_trans hkb.2 ha1) HC.out _).mono ?_; rintro e w2 ⟨rfl, hb2⟩; obtain ⟨hc2, hf2⟩ := bcell hb2; have hs2 := hb2.size; (try simp at hs2); have hz2_0 : w.heap.size < w2.heap.size := (by omega); have hz2_1 : wr.heap.size < w2.heap.size := (by omega))
          go_wp2
          refine bodyPost_ret (v := .agg #[.int .u32 (a / pw k * pw k), .int .i64 k]) (by simp [results, Tryd.results56, go_sem, hc2, hz, hz1, hz2_0, hz2_1, hc0, hc1, Nat.ne_of_lt hz]) rfl ?_
          exact ⟨by rw [HK.out, HP.out], by ((repeat (first | exact Below.refl _ _ | refine Below.drew ?_ | refine Below.setCell ?_ (by first | (simp; done) | (simp; omega) | omega) _ | refine Below.alloc ?_ (by first | (simp; done) | (simp; omega) | omega) _ | refine Below.trans ?_ (Below.mono hb2 (by first | (simp; done) | (simp; omega) | omega)) | refine Below.trans ?_ (Below.mono hb (by first | (simp; done) | (simp; omega) | omega)))); done)⟩
        · have hcb : contB (a / pw k * pw k) k b = false := by
            rw [hkeep]
            have : ¬ b / pw k = a / pw k := fun h => hkn (by have := HL.out k hk1 h.symm; omega)
            simpa using this
          have HC := Lib.hid hcb
          have hz1 : w.heap.size < wr.heap.size + 1 := by omega
          clear hcb hkeep
          go_wp2_with (go_at_call 54; refine (ref_Contains _ _ _ hkb.1 (Int.le_trans hkb.2 ha1) HC.out _).mono ?_; rintro e w2 ⟨rfl, hb2⟩; obtain ⟨hc2, hf2⟩ := bcell hb2; have hs2 := hb2.size; (try simp at hs2); have hz2_0 : w.heap.size < w2.heap.size := (by omega); have hz2_1 : wr.heap.size < w2.heap.size := (by omega))
          go_roundw
          case rel => exact ⟨k - 1, rfl, by omega, by omega, by simp [go_sem, hc2, hz, hz1, hc0, Nat.ne_of_lt hz], by simp [go_sem, hc2, hz, hz1, hc1, Nat.ne_of_lt hz], by simp [go_sem, hf2, hz, hz1, hf0, Nat.ne_of_lt hz], by simp [go_sem, hf2, hz, hz1, hf1, Nat.ne_of_lt hz], by ((repeat (first | exact Below.refl _ _ | refine Below.drew ?_ | refine Below.setCell ?_ (by first | (simp; done) | (simp; omega) | omega) _ | refine Below.alloc ?_ (by first | (simp; done) | (simp; omega) | omega) _ | refine Below.trans ?_ (Below.mono hb2 (by first | (simp; done) | (simp; omega) | omega)) | refine Below.trans ?_ (Below.mono hb (by first | (simp; done) | (simp; omega) | omega)))); done), by omega⟩
          case measure => simp [intOf]; omega
    · have hk0' : k = 0 := by omega
      have hn0 : n = 0 := by omega
      subst hk0'; subst hn0
      have hpz : p = 0 := by
        have := HP.out
        rw [pw_zero] at this
        rw [← this, Int.ediv_eq_zero_of_lt ha0 (by omega)]; rfl
      subst hpz
      go_wp2
      refine bodyPost_ret (v := .agg #[.int .u32 0, .int .i64 0]) (by simp [results, Tryd.results56, go_sem, hc0, hc1]) rfl ?_
      exact ⟨rfl, by ((repeat (first | exact Below.refl _ _ | refine Below.drew ?_ | refine Below.setCell ?_ (by first | (simp; done) | (simp; omega) | omega) _ | refine Below.alloc ?_ (by first | (simp; done) | (simp; omega) | omega) _ | refine Below.trans ?_ (Below.mono hb (by first | (simp; done) | (simp; omega) | omega)))); done)⟩
end Go.Proofs.YtekhggaafeonjaaDoor
