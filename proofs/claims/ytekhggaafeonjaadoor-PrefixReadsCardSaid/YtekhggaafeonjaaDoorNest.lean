/- PrefixNested: the walk of nested (printed by gen_nest.py). -/
import Derived.Test.YtekhggaafeonjaaDoorGen5
import Derived.Test.YtekhggaafeonjaaDoorNestM
import Derived.Test.YtekhggaafeonjaaDoorCommon
namespace Go.Proofs.YtekhggaafeonjaaDoor
open Go.RowKit
theorem prefix_CoversB (a n b m : Int) (ha0 : 0 ≤ a) (ha1 : a ≤ 4294967295) (hb0 : 0 ≤ b) (hb1 : b ≤ 4294967295) {r : Bool} (hr : coverB a n b m = r) (w : World) :
    Calls Tryd.prog 48 #[.agg #[.int .u32 a, .int .i64 n], .agg #[.int .u32 b, .int .i64 m]] w fun e w' => e = .returned (.bool r) ∧ Below w.heap.size w w' := by
  subst hr; exact prefix_Covers a n b m ha0 ha1 hb0 hb1 w

set_option maxHeartbeats 8000000 in
theorem nested_same_half (a n x : Int) (ha0 : 0 ≤ a) (ha1 : a ≤ 4294967295) (hx0 : 0 ≤ x) (hx1 : x ≤ 4294967295) (hv : valB a n = true) (h31 : n ≤ 31) (w : World) :
    Calls Tryd.prog 26 #[.agg #[.int .u32 a, .int .i64 n], .agg #[.int .u32 a, .int .i64 n], .int .u32 x] w fun e w' => e = .returned (.bool true) ∧ Below w.heap.size w w' := by
  have hcut := halves_cut a n x hv h31
  obtain ⟨h1, e1⟩ : ∃ c, contB a (n + 1) x = c := ⟨_, rfl⟩
  obtain ⟨h2, e2⟩ : ∃ c, contB (a + pw (n + 1)) (n + 1) x = c := ⟨_, rfl⟩
  rw [e1, e2] at hcut
  have hup := half_val a n hv h31 ha0 ha1
  have hu0 := hup.1
  have hu1 := hup.2
  clear hup
  have E1 := Lib.hid e1
  have E2 := Lib.hid e2
  clear e1 e2
  have hpn := (valB_iff a n).1 hv
  have hn0 := hpn.1
  clear hpn
  have h32 : n < 32 := by omega
  obtain ⟨c1, g1⟩ : ∃ c, contB a n x = c := ⟨_, rfl⟩
  rw [g1] at hcut
  obtain ⟨hcut, hnot⟩ := hcut
  subst hcut
  have g3 : coverB a n a n = true := by
    rw [coverB, hv, contB, hv]
    have := (valB_iff a n).1 hv
    simp [Int.ediv_mul_cancel (Int.dvd_of_emod_eq_zero this.2.2)]
  have GP := Lib.hid hv
  have G1 := Lib.hid g1
  have G3 := Lib.hid g3
  clear hv g1 g3
  go_enter Tryd.func26, Tryd.ntmps26
  go_wp2_with fail
  obtain ⟨W0, hW⟩ : ∃ W, W = (w.alloc (.cells #[.int .u32 a, .int .i64 n] 25)).alloc (.cells #[.int .u32 a, .int .i64 n] 25) := ⟨_, rfl⟩
  rw [← hW]
  have hB0 : Below w.heap.size w W0 := by rw [hW]; ((repeat (first | exact Below.refl _ _ | refine Below.drew ?_ | refine Below.setCell ?_ (by first | (simp; done) | (simp; omega) | omega) _ | refine Below.alloc ?_ (by first | (simp; done) | (simp; omega) | omega) _)); done)
  have p0 : W0.cell? ⟨w.heap.size, 0, none⟩ = some (.int .u32 a) := by rw [hW, World.cell?_alloc_some _ _ _ (by rw [World.cell?_alloc_at _ _ _ _ rfl]; rfl), World.cell?_alloc_at _ _ _ _ rfl]; rfl
  have p1 : W0.cell? ⟨w.heap.size, 1, none⟩ = some (.int .i64 n) := by rw [hW, World.cell?_alloc_some _ _ _ (by rw [World.cell?_alloc_at _ _ _ _ rfl]; rfl), World.cell?_alloc_at _ _ _ _ rfl]; rfl
  have q0 : W0.cell? ⟨w.heap.size + 1, 0, none⟩ = some (.int .u32 a) := by rw [hW, World.cell?_alloc_at _ _ _ _ (by simp)]; rfl
  have q1 : W0.cell? ⟨w.heap.size + 1, 1, none⟩ = some (.int .i64 n) := by rw [hW, World.cell?_alloc_at _ _ _ _ (by simp)]; rfl
  have z0 : w.heap.size < W0.heap.size := by rw [hW]; simp; omega
  have z1 : w.heap.size + 1 < W0.heap.size := by rw [hW]; simp
  clear hW
  have P0 := Lib.hid p0
  have P1 := Lib.hid p1
  have Q0 := Lib.hid q0
  have Q1 := Lib.hid q1
  have HB0 := Lib.hid hB0
  have HB := Lib.hid (Below.refl W0.heap.size W0)
  have hsz : W0.heap.size ≤ W0.heap.size := Nat.le_refl _
  clear hB0
  cases h1 <;> cases h2 <;> simp at hnot
  all_goals
    go_wp2_with (first | (go_at_call 38; with_reducible refine (ref_Valid a n ha0 ha1 GP.out _).mono ?_; rintro e w' ⟨rfl, hb'⟩; replace HB := Lib.hid (show Below W0.heap.size W0 w' from by ((repeat (first | exact HB.out | exact Below.refl _ _ | refine Below.drew ?_ | refine Below.setCell ?_ (by first | (simp; done) | (simp; omega) | omega) _ | refine Below.alloc ?_ (by first | (simp; done) | (simp; omega) | omega) _ | refine Below.trans ?_ (Below.mono hb' (by first | (simp; done) | (simp; omega) | omega)))); done)); replace hsz := HB.out.size; clear hb'; replace p0 := ((bcell HB.out).1 _ 0 z0).trans P0.out; replace p1 := ((bcell HB.out).1 _ 1 z0).trans P1.out; replace q0 := ((bcell HB.out).1 _ 0 z1).trans Q0.out; replace q1 := ((bcell HB.out).1 _ 1 z1).trans Q1.out; replace yz0 := Nat.lt_of_lt_of_le z0 hsz; replace yz01 := Nat.lt_succ_of_lt yz0; replace yz1 := Nat.lt_of_lt_of_le z1 hsz; replace yz11 := Nat.lt_succ_of_lt yz1) | (go_at_call 35; with_reducible refine (prefix_ContainsB a n x ha0 ha1 hx0 hx1 G1.out _).mono ?_; rintro e w' ⟨rfl, hb'⟩; replace HB := Lib.hid (show Below W0.heap.size W0 w' from by ((repeat (first | exact HB.out | exact Below.refl _ _ | refine Below.drew ?_ | refine Below.setCell ?_ (by first | (simp; done) | (simp; omega) | omega) _ | refine Below.alloc ?_ (by first | (simp; done) | (simp; omega) | omega) _ | refine Below.trans ?_ (Below.mono hb' (by first | (simp; done) | (simp; omega) | omega)))); done)); replace hsz := HB.out.size; clear hb'; replace p0 := ((bcell HB.out).1 _ 0 z0).trans P0.out; replace p1 := ((bcell HB.out).1 _ 1 z0).trans P1.out; replace q0 := ((bcell HB.out).1 _ 0 z1).trans Q0.out; replace q1 := ((bcell HB.out).1 _ 1 z1).trans Q1.out; replace yz0 := Nat.lt_of_lt_of_le z0 hsz; replace yz01 := Nat.lt_succ_of_lt yz0; replace yz1 := Nat.lt_of_lt_of_le z1 hsz; replace yz11 := Nat.lt_succ_of_lt yz1) | (go_at_call 48; with_reducible refine (prefix_CoversB a n a n ha0 ha1 ha0 ha1 G3.out _).mono ?_; rintro e w' ⟨rfl, hb'⟩; replace HB := Lib.hid (show Below W0.heap.size W0 w' from by ((repeat (first | exact HB.out | exact Below.refl _ _ | refine Below.drew ?_ | refine Below.setCell ?_ (by first | (simp; done) | (simp; omega) | omega) _ | refine Below.alloc ?_ (by first | (simp; done) | (simp; omega) | omega) _ | refine Below.trans ?_ (Below.mono hb' (by first | (simp; done) | (simp; omega) | omega)))); done)); replace hsz := HB.out.size; clear hb'; replace p0 := ((bcell HB.out).1 _ 0 z0).trans P0.out; replace p1 := ((bcell HB.out).1 _ 1 z0).trans P1.out; replace q0 := ((bcell HB.out).1 _ 0 z1).trans Q0.out; replace q1 := ((bcell HB.out).1 _ 1 z1).trans Q1.out; replace yz0 := Nat.lt_of_lt_of_le z0 hsz; replace yz01 := Nat.lt_succ_of_lt yz0; replace yz1 := Nat.lt_of_lt_of_le z1 hsz; replace yz11 := Nat.lt_succ_of_lt yz1) | (go_at_call 34; with_reducible refine (prefix_Halves_yes a n ha0 ha1 GP.out h31 _).mono ?_; rintro e w' ⟨rfl, hb'⟩; replace HB := Lib.hid (show Below W0.heap.size W0 w' from by ((repeat (first | exact HB.out | exact Below.refl _ _ | refine Below.drew ?_ | refine Below.setCell ?_ (by first | (simp; done) | (simp; omega) | omega) _ | refine Below.alloc ?_ (by first | (simp; done) | (simp; omega) | omega) _ | refine Below.trans ?_ (Below.mono hb' (by first | (simp; done) | (simp; omega) | omega)))); done)); replace hsz := HB.out.size; clear hb'; replace p0 := ((bcell HB.out).1 _ 0 z0).trans P0.out; replace p1 := ((bcell HB.out).1 _ 1 z0).trans P1.out; replace q0 := ((bcell HB.out).1 _ 0 z1).trans Q0.out; replace q1 := ((bcell HB.out).1 _ 1 z1).trans Q1.out; replace yz0 := Nat.lt_of_lt_of_le z0 hsz; replace yz01 := Nat.lt_succ_of_lt yz0; replace yz1 := Nat.lt_of_lt_of_le z1 hsz; replace yz11 := Nat.lt_succ_of_lt yz1))
  all_goals
    refine wp_region_later (by kernel_rfl) (by kernel_rfl) ?_
    repeat (go_big_quiet_step ((first | (go_at_call 35; with_reducible exact calls_later (prefix_ContainsB a (n + 1) x ha0 ha1 hx0 hx1 E1.out _)) | (go_at_call 35; with_reducible exact calls_later (prefix_ContainsB (a + pw (n + 1)) (n + 1) x hu0 hu1 hx0 hx1 E2.out _)) | (go_at_call 35; with_reducible exact calls_later (prefix_ContainsB a n x ha0 ha1 hx0 hx1 G1.out _)))))
    refine wpQuiet_nil ?_
    intro w5 hw'
    have hb5 := ext_below hw'
    clear hw'
    obtain ⟨hc5, hf5⟩ := bcell hb5
    have hs5 := hb5.size
    try simp at hs5
    go_wp2
    go_ret
    exact ⟨rfl, by ((repeat (first | exact Below.refl _ _ | refine Below.drew ?_ | refine Below.setCell ?_ (by first | (simp; done) | (simp; omega) | omega) _ | refine Below.alloc ?_ (by first | (simp; done) | (simp; omega) | omega) _ | refine Below.trans ?_ (Below.mono hb5 (by first | (simp; done) | (simp; omega) | omega)) | refine Below.trans ?_ (Below.mono HB.out (by first | (simp; done) | (simp; omega) | omega)) | refine Below.trans ?_ (Below.mono HB0.out (by first | (simp; done) | (simp; omega) | omega)))); done)⟩
set_option maxHeartbeats 8000000 in
theorem nested_same_one (a x : Int) (ha0 : 0 ≤ a) (ha1 : a ≤ 4294967295) (hx0 : 0 ≤ x) (hx1 : x ≤ 4294967295) (hv : valB a 32 = true) (w : World) :
    Calls Tryd.prog 26 #[.agg #[.int .u32 a, .int .i64 32], .agg #[.int .u32 a, .int .i64 32], .int .u32 x] w fun e w' => e = .returned (.bool true) ∧ Below w.heap.size w w' := by
  obtain ⟨c1, g1⟩ : ∃ c, contB a 32 x = c := ⟨_, rfl⟩
  have g3 : coverB a 32 a 32 = true := by
    rw [coverB, hv, contB, hv]
    have := (valB_iff a 32).1 hv
    simp [Int.ediv_mul_cancel (Int.dvd_of_emod_eq_zero this.2.2)]
  have GP := Lib.hid hv
  have G1 := Lib.hid g1
  have G3 := Lib.hid g3
  clear hv g1 g3
  go_enter Tryd.func26, Tryd.ntmps26
  go_wp2_with fail
  obtain ⟨W0, hW⟩ : ∃ W, W = (w.alloc (.cells #[.int .u32 a, .int .i64 32] 25)).alloc (.cells #[.int .u32 a, .int .i64 32] 25) := ⟨_, rfl⟩
  rw [← hW]
  have hB0 : Below w.heap.size w W0 := by rw [hW]; ((repeat (first | exact Below.refl _ _ | refine Below.drew ?_ | refine Below.setCell ?_ (by first | (simp; done) | (simp; omega) | omega) _ | refine Below.alloc ?_ (by first | (simp; done) | (simp; omega) | omega) _)); done)
  have p0 : W0.cell? ⟨w.heap.size, 0, none⟩ = some (.int .u32 a) := by rw [hW, World.cell?_alloc_some _ _ _ (by rw [World.cell?_alloc_at _ _ _ _ rfl]; rfl), World.cell?_alloc_at _ _ _ _ rfl]; rfl
  have p1 : W0.cell? ⟨w.heap.size, 1, none⟩ = some (.int .i64 32) := by rw [hW, World.cell?_alloc_some _ _ _ (by rw [World.cell?_alloc_at _ _ _ _ rfl]; rfl), World.cell?_alloc_at _ _ _ _ rfl]; rfl
  have q0 : W0.cell? ⟨w.heap.size + 1, 0, none⟩ = some (.int .u32 a) := by rw [hW, World.cell?_alloc_at _ _ _ _ (by simp)]; rfl
  have q1 : W0.cell? ⟨w.heap.size + 1, 1, none⟩ = some (.int .i64 32) := by rw [hW, World.cell?_alloc_at _ _ _ _ (by simp)]; rfl
  have z0 : w.heap.size < W0.heap.size := by rw [hW]; simp; omega
  have z1 : w.heap.size + 1 < W0.heap.size := by rw [hW]; simp
  clear hW
  have P0 := Lib.hid p0
  have P1 := Lib.hid p1
  have Q0 := Lib.hid q0
  have Q1 := Lib.hid q1
  have HB0 := Lib.hid hB0
  have HB := Lib.hid (Below.refl W0.heap.size W0)
  have hsz : W0.heap.size ≤ W0.heap.size := Nat.le_refl _
  clear hB0
  cases c1 <;> skip
  all_goals
    go_wp2_with (first | (go_at_call 38; with_reducible refine (ref_Valid a 32 ha0 ha1 GP.out _).mono ?_; rintro e w' ⟨rfl, hb'⟩; replace HB := Lib.hid (show Below W0.heap.size W0 w' from by ((repeat (first | exact HB.out | exact Below.refl _ _ | refine Below.drew ?_ | refine Below.setCell ?_ (by first | (simp; done) | (simp; omega) | omega) _ | refine Below.alloc ?_ (by first | (simp; done) | (simp; omega) | omega) _ | refine Below.trans ?_ (Below.mono hb' (by first | (simp; done) | (simp; omega) | omega)))); done)); replace hsz := HB.out.size; clear hb'; replace p0 := ((bcell HB.out).1 _ 0 z0).trans P0.out; replace p1 := ((bcell HB.out).1 _ 1 z0).trans P1.out; replace q0 := ((bcell HB.out).1 _ 0 z1).trans Q0.out; replace q1 := ((bcell HB.out).1 _ 1 z1).trans Q1.out; replace yz0 := Nat.lt_of_lt_of_le z0 hsz; replace yz01 := Nat.lt_succ_of_lt yz0; replace yz1 := Nat.lt_of_lt_of_le z1 hsz; replace yz11 := Nat.lt_succ_of_lt yz1) | (go_at_call 35; with_reducible refine (prefix_ContainsB a 32 x ha0 ha1 hx0 hx1 G1.out _).mono ?_; rintro e w' ⟨rfl, hb'⟩; replace HB := Lib.hid (show Below W0.heap.size W0 w' from by ((repeat (first | exact HB.out | exact Below.refl _ _ | refine Below.drew ?_ | refine Below.setCell ?_ (by first | (simp; done) | (simp; omega) | omega) _ | refine Below.alloc ?_ (by first | (simp; done) | (simp; omega) | omega) _ | refine Below.trans ?_ (Below.mono hb' (by first | (simp; done) | (simp; omega) | omega)))); done)); replace hsz := HB.out.size; clear hb'; replace p0 := ((bcell HB.out).1 _ 0 z0).trans P0.out; replace p1 := ((bcell HB.out).1 _ 1 z0).trans P1.out; replace q0 := ((bcell HB.out).1 _ 0 z1).trans Q0.out; replace q1 := ((bcell HB.out).1 _ 1 z1).trans Q1.out; replace yz0 := Nat.lt_of_lt_of_le z0 hsz; replace yz01 := Nat.lt_succ_of_lt yz0; replace yz1 := Nat.lt_of_lt_of_le z1 hsz; replace yz11 := Nat.lt_succ_of_lt yz1) | (go_at_call 48; with_reducible refine (prefix_CoversB a 32 a 32 ha0 ha1 ha0 ha1 G3.out _).mono ?_; rintro e w' ⟨rfl, hb'⟩; replace HB := Lib.hid (show Below W0.heap.size W0 w' from by ((repeat (first | exact HB.out | exact Below.refl _ _ | refine Below.drew ?_ | refine Below.setCell ?_ (by first | (simp; done) | (simp; omega) | omega) _ | refine Below.alloc ?_ (by first | (simp; done) | (simp; omega) | omega) _ | refine Below.trans ?_ (Below.mono hb' (by first | (simp; done) | (simp; omega) | omega)))); done)); replace hsz := HB.out.size; clear hb'; replace p0 := ((bcell HB.out).1 _ 0 z0).trans P0.out; replace p1 := ((bcell HB.out).1 _ 1 z0).trans P1.out; replace q0 := ((bcell HB.out).1 _ 0 z1).trans Q0.out; replace q1 := ((bcell HB.out).1 _ 1 z1).trans Q1.out; replace yz0 := Nat.lt_of_lt_of_le z0 hsz; replace yz01 := Nat.lt_succ_of_lt yz0; replace yz1 := Nat.lt_of_lt_of_le z1 hsz; replace yz11 := Nat.lt_succ_of_lt yz1) | (go_at_call 34; with_reducible refine (prefix_Halves_no a 32 ha0 ha1 (by simp) _).mono ?_; rintro e w' ⟨rfl, hb'⟩; replace HB := Lib.hid (show Below W0.heap.size W0 w' from by ((repeat (first | exact HB.out | exact Below.refl _ _ | refine Below.drew ?_ | refine Below.setCell ?_ (by first | (simp; done) | (simp; omega) | omega) _ | refine Below.alloc ?_ (by first | (simp; done) | (simp; omega) | omega) _ | refine Below.trans ?_ (Below.mono hb' (by first | (simp; done) | (simp; omega) | omega)))); done)); replace hsz := HB.out.size; clear hb'; replace p0 := ((bcell HB.out).1 _ 0 z0).trans P0.out; replace p1 := ((bcell HB.out).1 _ 1 z0).trans P1.out; replace q0 := ((bcell HB.out).1 _ 0 z1).trans Q0.out; replace q1 := ((bcell HB.out).1 _ 1 z1).trans Q1.out; replace yz0 := Nat.lt_of_lt_of_le z0 hsz; replace yz01 := Nat.lt_succ_of_lt yz0; replace yz1 := Nat.lt_of_lt_of_le z1 hsz; replace yz11 := Nat.lt_succ_of_lt yz1))
  all_goals
    refine wp_region_later (by kernel_rfl) (by kernel_rfl) ?_
    repeat (go_big_quiet_step ((fail)))
    refine wpQuiet_nil ?_
    intro w5 hw'
    have hb5 := ext_below hw'
    clear hw'
    obtain ⟨hc5, hf5⟩ := bcell hb5
    have hs5 := hb5.size
    try simp at hs5
    go_wp2
    go_ret
    exact ⟨rfl, by ((repeat (first | exact Below.refl _ _ | refine Below.drew ?_ | refine Below.setCell ?_ (by first | (simp; done) | (simp; omega) | omega) _ | refine Below.alloc ?_ (by first | (simp; done) | (simp; omega) | omega) _ | refine Below.trans ?_ (Below.mono hb5 (by first | (simp; done) | (simp; omega) | omega)) | refine Below.trans ?_ (Below.mono HB.out (by first | (simp; done) | (simp; omega) | omega)) | refine Below.trans ?_ (Below.mono HB0.out (by first | (simp; done) | (simp; omega) | omega)))); done)⟩
set_option maxHeartbeats 8000000 in
theorem nested_diff_half (a n b m x : Int) (ha0 : 0 ≤ a) (ha1 : a ≤ 4294967295) (hb0 : 0 ≤ b) (hb1 : b ≤ 4294967295) (hx0 : 0 ≤ x) (hx1 : x ≤ 4294967295) (hv : valB a n = true) (h31 : n ≤ 31) (hw : valB b m = true) (hne : ¬ (coverB a n b m = true ∧ coverB b m a n = true)) (w : World) :
    Calls Tryd.prog 26 #[.agg #[.int .u32 a, .int .i64 n], .agg #[.int .u32 b, .int .i64 m], .int .u32 x] w fun e w' => e = .returned (.bool true) ∧ Below w.heap.size w w' := by
  have hcut := halves_cut a n x hv h31
  obtain ⟨h1, e1⟩ : ∃ c, contB a (n + 1) x = c := ⟨_, rfl⟩
  obtain ⟨h2, e2⟩ : ∃ c, contB (a + pw (n + 1)) (n + 1) x = c := ⟨_, rfl⟩
  rw [e1, e2] at hcut
  have hup := half_val a n hv h31 ha0 ha1
  have hu0 := hup.1
  have hu1 := hup.2
  clear hup
  have E1 := Lib.hid e1
  have E2 := Lib.hid e2
  clear e1 e2
  have hpn := (valB_iff a n).1 hv
  have hn0 := hpn.1
  clear hpn
  have h32 : n < 32 := by omega
  obtain ⟨c1, g1⟩ : ∃ c, contB a n x = c := ⟨_, rfl⟩
  rw [g1] at hcut
  obtain ⟨hcut, hnot⟩ := hcut
  subst hcut
  obtain ⟨c2, g2⟩ : ∃ c, contB b m x = c := ⟨_, rfl⟩
  obtain ⟨k1, g3⟩ : ∃ c, coverB a n b m = c := ⟨_, rfl⟩
  obtain ⟨k2, g4⟩ : ∃ c, coverB b m a n = c := ⟨_, rfl⟩
  have hor := nest_or a n b m x hv hw
  rw [g1, g2, g3, g4] at hor
  rw [g3, g4] at hne
  have GQ := Lib.hid hw
  have G2 := Lib.hid g2
  have G4 := Lib.hid g4
  clear hw g2 g4
  have GP := Lib.hid hv
  have G1 := Lib.hid g1
  have G3 := Lib.hid g3
  clear hv g1 g3
  go_enter Tryd.func26, Tryd.ntmps26
  go_wp2_with fail
  obtain ⟨W0, hW⟩ : ∃ W, W = (w.alloc (.cells #[.int .u32 a, .int .i64 n] 25)).alloc (.cells #[.int .u32 b, .int .i64 m] 25) := ⟨_, rfl⟩
  rw [← hW]
  have hB0 : Below w.heap.size w W0 := by rw [hW]; ((repeat (first | exact Below.refl _ _ | refine Below.drew ?_ | refine Below.setCell ?_ (by first | (simp; done) | (simp; omega) | omega) _ | refine Below.alloc ?_ (by first | (simp; done) | (simp; omega) | omega) _)); done)
  have p0 : W0.cell? ⟨w.heap.size, 0, none⟩ = some (.int .u32 a) := by rw [hW, World.cell?_alloc_some _ _ _ (by rw [World.cell?_alloc_at _ _ _ _ rfl]; rfl), World.cell?_alloc_at _ _ _ _ rfl]; rfl
  have p1 : W0.cell? ⟨w.heap.size, 1, none⟩ = some (.int .i64 n) := by rw [hW, World.cell?_alloc_some _ _ _ (by rw [World.cell?_alloc_at _ _ _ _ rfl]; rfl), World.cell?_alloc_at _ _ _ _ rfl]; rfl
  have q0 : W0.cell? ⟨w.heap.size + 1, 0, none⟩ = some (.int .u32 b) := by rw [hW, World.cell?_alloc_at _ _ _ _ (by simp)]; rfl
  have q1 : W0.cell? ⟨w.heap.size + 1, 1, none⟩ = some (.int .i64 m) := by rw [hW, World.cell?_alloc_at _ _ _ _ (by simp)]; rfl
  have z0 : w.heap.size < W0.heap.size := by rw [hW]; simp; omega
  have z1 : w.heap.size + 1 < W0.heap.size := by rw [hW]; simp
  clear hW
  have P0 := Lib.hid p0
  have P1 := Lib.hid p1
  have Q0 := Lib.hid q0
  have Q1 := Lib.hid q1
  have HB0 := Lib.hid hB0
  have HB := Lib.hid (Below.refl W0.heap.size W0)
  have hsz : W0.heap.size ≤ W0.heap.size := Nat.le_refl _
  clear hB0
  cases h1 <;> cases h2 <;> cases c2 <;> cases k1 <;> cases k2 <;> simp at hnot hor hne
  all_goals
    go_wp2_with (first | (go_at_call 38; with_reducible refine (ref_Valid a n ha0 ha1 GP.out _).mono ?_; rintro e w' ⟨rfl, hb'⟩; replace HB := Lib.hid (show Below W0.heap.size W0 w' from by ((repeat (first | exact HB.out | exact Below.refl _ _ | refine Below.drew ?_ | refine Below.setCell ?_ (by first | (simp; done) | (simp; omega) | omega) _ | refine Below.alloc ?_ (by first | (simp; done) | (simp; omega) | omega) _ | refine Below.trans ?_ (Below.mono hb' (by first | (simp; done) | (simp; omega) | omega)))); done)); replace hsz := HB.out.size; clear hb'; replace p0 := ((bcell HB.out).1 _ 0 z0).trans P0.out; replace p1 := ((bcell HB.out).1 _ 1 z0).trans P1.out; replace q0 := ((bcell HB.out).1 _ 0 z1).trans Q0.out; replace q1 := ((bcell HB.out).1 _ 1 z1).trans Q1.out; replace yz0 := Nat.lt_of_lt_of_le z0 hsz; replace yz01 := Nat.lt_succ_of_lt yz0; replace yz1 := Nat.lt_of_lt_of_le z1 hsz; replace yz11 := Nat.lt_succ_of_lt yz1) | (go_at_call 35; with_reducible refine (prefix_ContainsB a n x ha0 ha1 hx0 hx1 G1.out _).mono ?_; rintro e w' ⟨rfl, hb'⟩; replace HB := Lib.hid (show Below W0.heap.size W0 w' from by ((repeat (first | exact HB.out | exact Below.refl _ _ | refine Below.drew ?_ | refine Below.setCell ?_ (by first | (simp; done) | (simp; omega) | omega) _ | refine Below.alloc ?_ (by first | (simp; done) | (simp; omega) | omega) _ | refine Below.trans ?_ (Below.mono hb' (by first | (simp; done) | (simp; omega) | omega)))); done)); replace hsz := HB.out.size; clear hb'; replace p0 := ((bcell HB.out).1 _ 0 z0).trans P0.out; replace p1 := ((bcell HB.out).1 _ 1 z0).trans P1.out; replace q0 := ((bcell HB.out).1 _ 0 z1).trans Q0.out; replace q1 := ((bcell HB.out).1 _ 1 z1).trans Q1.out; replace yz0 := Nat.lt_of_lt_of_le z0 hsz; replace yz01 := Nat.lt_succ_of_lt yz0; replace yz1 := Nat.lt_of_lt_of_le z1 hsz; replace yz11 := Nat.lt_succ_of_lt yz1) | (go_at_call 48; with_reducible refine (prefix_CoversB a n b m ha0 ha1 hb0 hb1 G3.out _).mono ?_; rintro e w' ⟨rfl, hb'⟩; replace HB := Lib.hid (show Below W0.heap.size W0 w' from by ((repeat (first | exact HB.out | exact Below.refl _ _ | refine Below.drew ?_ | refine Below.setCell ?_ (by first | (simp; done) | (simp; omega) | omega) _ | refine Below.alloc ?_ (by first | (simp; done) | (simp; omega) | omega) _ | refine Below.trans ?_ (Below.mono hb' (by first | (simp; done) | (simp; omega) | omega)))); done)); replace hsz := HB.out.size; clear hb'; replace p0 := ((bcell HB.out).1 _ 0 z0).trans P0.out; replace p1 := ((bcell HB.out).1 _ 1 z0).trans P1.out; replace q0 := ((bcell HB.out).1 _ 0 z1).trans Q0.out; replace q1 := ((bcell HB.out).1 _ 1 z1).trans Q1.out; replace yz0 := Nat.lt_of_lt_of_le z0 hsz; replace yz01 := Nat.lt_succ_of_lt yz0; replace yz1 := Nat.lt_of_lt_of_le z1 hsz; replace yz11 := Nat.lt_succ_of_lt yz1) | (go_at_call 38; with_reducible refine (ref_Valid b m hb0 hb1 GQ.out _).mono ?_; rintro e w' ⟨rfl, hb'⟩; replace HB := Lib.hid (show Below W0.heap.size W0 w' from by ((repeat (first | exact HB.out | exact Below.refl _ _ | refine Below.drew ?_ | refine Below.setCell ?_ (by first | (simp; done) | (simp; omega) | omega) _ | refine Below.alloc ?_ (by first | (simp; done) | (simp; omega) | omega) _ | refine Below.trans ?_ (Below.mono hb' (by first | (simp; done) | (simp; omega) | omega)))); done)); replace hsz := HB.out.size; clear hb'; replace p0 := ((bcell HB.out).1 _ 0 z0).trans P0.out; replace p1 := ((bcell HB.out).1 _ 1 z0).trans P1.out; replace q0 := ((bcell HB.out).1 _ 0 z1).trans Q0.out; replace q1 := ((bcell HB.out).1 _ 1 z1).trans Q1.out; replace yz0 := Nat.lt_of_lt_of_le z0 hsz; replace yz01 := Nat.lt_succ_of_lt yz0; replace yz1 := Nat.lt_of_lt_of_le z1 hsz; replace yz11 := Nat.lt_succ_of_lt yz1) | (go_at_call 35; with_reducible refine (prefix_ContainsB b m x hb0 hb1 hx0 hx1 G2.out _).mono ?_; rintro e w' ⟨rfl, hb'⟩; replace HB := Lib.hid (show Below W0.heap.size W0 w' from by ((repeat (first | exact HB.out | exact Below.refl _ _ | refine Below.drew ?_ | refine Below.setCell ?_ (by first | (simp; done) | (simp; omega) | omega) _ | refine Below.alloc ?_ (by first | (simp; done) | (simp; omega) | omega) _ | refine Below.trans ?_ (Below.mono hb' (by first | (simp; done) | (simp; omega) | omega)))); done)); replace hsz := HB.out.size; clear hb'; replace p0 := ((bcell HB.out).1 _ 0 z0).trans P0.out; replace p1 := ((bcell HB.out).1 _ 1 z0).trans P1.out; replace q0 := ((bcell HB.out).1 _ 0 z1).trans Q0.out; replace q1 := ((bcell HB.out).1 _ 1 z1).trans Q1.out; replace yz0 := Nat.lt_of_lt_of_le z0 hsz; replace yz01 := Nat.lt_succ_of_lt yz0; replace yz1 := Nat.lt_of_lt_of_le z1 hsz; replace yz11 := Nat.lt_succ_of_lt yz1) | (go_at_call 48; with_reducible refine (prefix_CoversB b m a n hb0 hb1 ha0 ha1 G4.out _).mono ?_; rintro e w' ⟨rfl, hb'⟩; replace HB := Lib.hid (show Below W0.heap.size W0 w' from by ((repeat (first | exact HB.out | exact Below.refl _ _ | refine Below.drew ?_ | refine Below.setCell ?_ (by first | (simp; done) | (simp; omega) | omega) _ | refine Below.alloc ?_ (by first | (simp; done) | (simp; omega) | omega) _ | refine Below.trans ?_ (Below.mono hb' (by first | (simp; done) | (simp; omega) | omega)))); done)); replace hsz := HB.out.size; clear hb'; replace p0 := ((bcell HB.out).1 _ 0 z0).trans P0.out; replace p1 := ((bcell HB.out).1 _ 1 z0).trans P1.out; replace q0 := ((bcell HB.out).1 _ 0 z1).trans Q0.out; replace q1 := ((bcell HB.out).1 _ 1 z1).trans Q1.out; replace yz0 := Nat.lt_of_lt_of_le z0 hsz; replace yz01 := Nat.lt_succ_of_lt yz0; replace yz1 := Nat.lt_of_lt_of_le z1 hsz; replace yz11 := Nat.lt_succ_of_lt yz1) | (go_at_call 34; with_reducible refine (prefix_Halves_yes a n ha0 ha1 GP.out h31 _).mono ?_; rintro e w' ⟨rfl, hb'⟩; replace HB := Lib.hid (show Below W0.heap.size W0 w' from by ((repeat (first | exact HB.out | exact Below.refl _ _ | refine Below.drew ?_ | refine Below.setCell ?_ (by first | (simp; done) | (simp; omega) | omega) _ | refine Below.alloc ?_ (by first | (simp; done) | (simp; omega) | omega) _ | refine Below.trans ?_ (Below.mono hb' (by first | (simp; done) | (simp; omega) | omega)))); done)); replace hsz := HB.out.size; clear hb'; replace p0 := ((bcell HB.out).1 _ 0 z0).trans P0.out; replace p1 := ((bcell HB.out).1 _ 1 z0).trans P1.out; replace q0 := ((bcell HB.out).1 _ 0 z1).trans Q0.out; replace q1 := ((bcell HB.out).1 _ 1 z1).trans Q1.out; replace yz0 := Nat.lt_of_lt_of_le z0 hsz; replace yz01 := Nat.lt_succ_of_lt yz0; replace yz1 := Nat.lt_of_lt_of_le z1 hsz; replace yz11 := Nat.lt_succ_of_lt yz1))
  all_goals
    refine wp_region_later (by kernel_rfl) (by kernel_rfl) ?_
    repeat (go_big_quiet_step ((first | (go_at_call 35; with_reducible exact calls_later (prefix_ContainsB a (n + 1) x ha0 ha1 hx0 hx1 E1.out _)) | (go_at_call 35; with_reducible exact calls_later (prefix_ContainsB (a + pw (n + 1)) (n + 1) x hu0 hu1 hx0 hx1 E2.out _)) | (go_at_call 35; with_reducible exact calls_later (prefix_ContainsB a n x ha0 ha1 hx0 hx1 G1.out _)))))
    refine wpQuiet_nil ?_
    intro w5 hw'
    have hb5 := ext_below hw'
    clear hw'
    obtain ⟨hc5, hf5⟩ := bcell hb5
    have hs5 := hb5.size
    try simp at hs5
    go_wp2
    go_ret
    exact ⟨rfl, by ((repeat (first | exact Below.refl _ _ | refine Below.drew ?_ | refine Below.setCell ?_ (by first | (simp; done) | (simp; omega) | omega) _ | refine Below.alloc ?_ (by first | (simp; done) | (simp; omega) | omega) _ | refine Below.trans ?_ (Below.mono hb5 (by first | (simp; done) | (simp; omega) | omega)) | refine Below.trans ?_ (Below.mono HB.out (by first | (simp; done) | (simp; omega) | omega)) | refine Below.trans ?_ (Below.mono HB0.out (by first | (simp; done) | (simp; omega) | omega)))); done)⟩
set_option maxHeartbeats 8000000 in
theorem nested_diff_one (a b m x : Int) (ha0 : 0 ≤ a) (ha1 : a ≤ 4294967295) (hb0 : 0 ≤ b) (hb1 : b ≤ 4294967295) (hx0 : 0 ≤ x) (hx1 : x ≤ 4294967295) (hv : valB a 32 = true) (hw : valB b m = true) (hne : ¬ (coverB a 32 b m = true ∧ coverB b m a 32 = true)) (w : World) :
    Calls Tryd.prog 26 #[.agg #[.int .u32 a, .int .i64 32], .agg #[.int .u32 b, .int .i64 m], .int .u32 x] w fun e w' => e = .returned (.bool true) ∧ Below w.heap.size w w' := by
  obtain ⟨c1, g1⟩ : ∃ c, contB a 32 x = c := ⟨_, rfl⟩
  obtain ⟨c2, g2⟩ : ∃ c, contB b m x = c := ⟨_, rfl⟩
  obtain ⟨k1, g3⟩ : ∃ c, coverB a 32 b m = c := ⟨_, rfl⟩
  obtain ⟨k2, g4⟩ : ∃ c, coverB b m a 32 = c := ⟨_, rfl⟩
  have hor := nest_or a 32 b m x hv hw
  rw [g1, g2, g3, g4] at hor
  rw [g3, g4] at hne
  have GQ := Lib.hid hw
  have G2 := Lib.hid g2
  have G4 := Lib.hid g4
  clear hw g2 g4
  have GP := Lib.hid hv
  have G1 := Lib.hid g1
  have G3 := Lib.hid g3
  clear hv g1 g3
  go_enter Tryd.func26, Tryd.ntmps26
  go_wp2_with fail
  obtain ⟨W0, hW⟩ : ∃ W, W = (w.alloc (.cells #[.int .u32 a, .int .i64 32] 25)).alloc (.cells #[.int .u32 b, .int .i64 m] 25) := ⟨_, rfl⟩
  rw [← hW]
  have hB0 : Below w.heap.size w W0 := by rw [hW]; ((repeat (first | exact Below.refl _ _ | refine Below.drew ?_ | refine Below.setCell ?_ (by first | (simp; done) | (simp; omega) | omega) _ | refine Below.alloc ?_ (by first | (simp; done) | (simp; omega) | omega) _)); done)
  have p0 : W0.cell? ⟨w.heap.size, 0, none⟩ = some (.int .u32 a) := by rw [hW, World.cell?_alloc_some _ _ _ (by rw [World.cell?_alloc_at _ _ _ _ rfl]; rfl), World.cell?_alloc_at _ _ _ _ rfl]; rfl
  have p1 : W0.cell? ⟨w.heap.size, 1, none⟩ = some (.int .i64 32) := by rw [hW, World.cell?_alloc_some _ _ _ (by rw [World.cell?_alloc_at _ _ _ _ rfl]; rfl), World.cell?_alloc_at _ _ _ _ rfl]; rfl
  have q0 : W0.cell? ⟨w.heap.size + 1, 0, none⟩ = some (.int .u32 b) := by rw [hW, World.cell?_alloc_at _ _ _ _ (by simp)]; rfl
  have q1 : W0.cell? ⟨w.heap.size + 1, 1, none⟩ = some (.int .i64 m) := by rw [hW, World.cell?_alloc_at _ _ _ _ (by simp)]; rfl
  have z0 : w.heap.size < W0.heap.size := by rw [hW]; simp; omega
  have z1 : w.heap.size + 1 < W0.heap.size := by rw [hW]; simp
  clear hW
  have P0 := Lib.hid p0
  have P1 := Lib.hid p1
  have Q0 := Lib.hid q0
  have Q1 := Lib.hid q1
  have HB0 := Lib.hid hB0
  have HB := Lib.hid (Below.refl W0.heap.size W0)
  have hsz : W0.heap.size ≤ W0.heap.size := Nat.le_refl _
  clear hB0
  cases c1 <;> cases c2 <;> cases k1 <;> cases k2 <;> simp at hor hne
  all_goals
    go_wp2_with (first | (go_at_call 38; with_reducible refine (ref_Valid a 32 ha0 ha1 GP.out _).mono ?_; rintro e w' ⟨rfl, hb'⟩; replace HB := Lib.hid (show Below W0.heap.size W0 w' from by ((repeat (first | exact HB.out | exact Below.refl _ _ | refine Below.drew ?_ | refine Below.setCell ?_ (by first | (simp; done) | (simp; omega) | omega) _ | refine Below.alloc ?_ (by first | (simp; done) | (simp; omega) | omega) _ | refine Below.trans ?_ (Below.mono hb' (by first | (simp; done) | (simp; omega) | omega)))); done)); replace hsz := HB.out.size; clear hb'; replace p0 := ((bcell HB.out).1 _ 0 z0).trans P0.out; replace p1 := ((bcell HB.out).1 _ 1 z0).trans P1.out; replace q0 := ((bcell HB.out).1 _ 0 z1).trans Q0.out; replace q1 := ((bcell HB.out).1 _ 1 z1).trans Q1.out; replace yz0 := Nat.lt_of_lt_of_le z0 hsz; replace yz01 := Nat.lt_succ_of_lt yz0; replace yz1 := Nat.lt_of_lt_of_le z1 hsz; replace yz11 := Nat.lt_succ_of_lt yz1) | (go_at_call 35; with_reducible refine (prefix_ContainsB a 32 x ha0 ha1 hx0 hx1 G1.out _).mono ?_; rintro e w' ⟨rfl, hb'⟩; replace HB := Lib.hid (show Below W0.heap.size W0 w' from by ((repeat (first | exact HB.out | exact Below.refl _ _ | refine Below.drew ?_ | refine Below.setCell ?_ (by first | (simp; done) | (simp; omega) | omega) _ | refine Below.alloc ?_ (by first | (simp; done) | (simp; omega) | omega) _ | refine Below.trans ?_ (Below.mono hb' (by first | (simp; done) | (simp; omega) | omega)))); done)); replace hsz := HB.out.size; clear hb'; replace p0 := ((bcell HB.out).1 _ 0 z0).trans P0.out; replace p1 := ((bcell HB.out).1 _ 1 z0).trans P1.out; replace q0 := ((bcell HB.out).1 _ 0 z1).trans Q0.out; replace q1 := ((bcell HB.out).1 _ 1 z1).trans Q1.out; replace yz0 := Nat.lt_of_lt_of_le z0 hsz; replace yz01 := Nat.lt_succ_of_lt yz0; replace yz1 := Nat.lt_of_lt_of_le z1 hsz; replace yz11 := Nat.lt_succ_of_lt yz1) | (go_at_call 48; with_reducible refine (prefix_CoversB a 32 b m ha0 ha1 hb0 hb1 G3.out _).mono ?_; rintro e w' ⟨rfl, hb'⟩; replace HB := Lib.hid (show Below W0.heap.size W0 w' from by ((repeat (first | exact HB.out | exact Below.refl _ _ | refine Below.drew ?_ | refine Below.setCell ?_ (by first | (simp; done) | (simp; omega) | omega) _ | refine Below.alloc ?_ (by first | (simp; done) | (simp; omega) | omega) _ | refine Below.trans ?_ (Below.mono hb' (by first | (simp; done) | (simp; omega) | omega)))); done)); replace hsz := HB.out.size; clear hb'; replace p0 := ((bcell HB.out).1 _ 0 z0).trans P0.out; replace p1 := ((bcell HB.out).1 _ 1 z0).trans P1.out; replace q0 := ((bcell HB.out).1 _ 0 z1).trans Q0.out; replace q1 := ((bcell HB.out).1 _ 1 z1).trans Q1.out; replace yz0 := Nat.lt_of_lt_of_le z0 hsz; replace yz01 := Nat.lt_succ_of_lt yz0; replace yz1 := Nat.lt_of_lt_of_le z1 hsz; replace yz11 := Nat.lt_succ_of_lt yz1) | (go_at_call 38; with_reducible refine (ref_Valid b m hb0 hb1 GQ.out _).mono ?_; rintro e w' ⟨rfl, hb'⟩; replace HB := Lib.hid (show Below W0.heap.size W0 w' from by ((repeat (first | exact HB.out | exact Below.refl _ _ | refine Below.drew ?_ | refine Below.setCell ?_ (by first | (simp; done) | (simp; omega) | omega) _ | refine Below.alloc ?_ (by first | (simp; done) | (simp; omega) | omega) _ | refine Below.trans ?_ (Below.mono hb' (by first | (simp; done) | (simp; omega) | omega)))); done)); replace hsz := HB.out.size; clear hb'; replace p0 := ((bcell HB.out).1 _ 0 z0).trans P0.out; replace p1 := ((bcell HB.out).1 _ 1 z0).trans P1.out; replace q0 := ((bcell HB.out).1 _ 0 z1).trans Q0.out; replace q1 := ((bcell HB.out).1 _ 1 z1).trans Q1.out; replace yz0 := Nat.lt_of_lt_of_le z0 hsz; replace yz01 := Nat.lt_succ_of_lt yz0; replace yz1 := Nat.lt_of_lt_of_le z1 hsz; replace yz11 := Nat.lt_succ_of_lt yz1) | (go_at_call 35; with_reducible refine (prefix_ContainsB b m x hb0 hb1 hx0 hx1 G2.out _).mono ?_; rintro e w' ⟨rfl, hb'⟩; replace HB := Lib.hid (show Below W0.heap.size W0 w' from by ((repeat (first | exact HB.out | exact Below.refl _ _ | refine Below.drew ?_ | refine Below.setCell ?_ (by first | (simp; done) | (simp; omega) | omega) _ | refine Below.alloc ?_ (by first | (simp; done) | (simp; omega) | omega) _ | refine Below.trans ?_ (Below.mono hb' (by first | (simp; done) | (simp; omega) | omega)))); done)); replace hsz := HB.out.size; clear hb'; replace p0 := ((bcell HB.out).1 _ 0 z0).trans P0.out; replace p1 := ((bcell HB.out).1 _ 1 z0).trans P1.out; replace q0 := ((bcell HB.out).1 _ 0 z1).trans Q0.out; replace q1 := ((bcell HB.out).1 _ 1 z1).trans Q1.out; replace yz0 := Nat.lt_of_lt_of_le z0 hsz; replace yz01 := Nat.lt_succ_of_lt yz0; replace yz1 := Nat.lt_of_lt_of_le z1 hsz; replace yz11 := Nat.lt_succ_of_lt yz1) | (go_at_call 48; with_reducible refine (prefix_CoversB b m a 32 hb0 hb1 ha0 ha1 G4.out _).mono ?_; rintro e w' ⟨rfl, hb'⟩; replace HB := Lib.hid (show Below W0.heap.size W0 w' from by ((repeat (first | exact HB.out | exact Below.refl _ _ | refine Below.drew ?_ | refine Below.setCell ?_ (by first | (simp; done) | (simp; omega) | omega) _ | refine Below.alloc ?_ (by first | (simp; done) | (simp; omega) | omega) _ | refine Below.trans ?_ (Below.mono hb' (by first | (simp; done) | (simp; omega) | omega)))); done)); replace hsz := HB.out.size; clear hb'; replace p0 := ((bcell HB.out).1 _ 0 z0).trans P0.out; replace p1 := ((bcell HB.out).1 _ 1 z0).trans P1.out; replace q0 := ((bcell HB.out).1 _ 0 z1).trans Q0.out; replace q1 := ((bcell HB.out).1 _ 1 z1).trans Q1.out; replace yz0 := Nat.lt_of_lt_of_le z0 hsz; replace yz01 := Nat.lt_succ_of_lt yz0; replace yz1 := Nat.lt_of_lt_of_le z1 hsz; replace yz11 := Nat.lt_succ_of_lt yz1) | (go_at_call 34; with_reducible refine (prefix_Halves_no a 32 ha0 ha1 (by simp) _).mono ?_; rintro e w' ⟨rfl, hb'⟩; replace HB := Lib.hid (show Below W0.heap.size W0 w' from by ((repeat (first | exact HB.out | exact Below.refl _ _ | refine Below.drew ?_ | refine Below.setCell ?_ (by first | (simp; done) | (simp; omega) | omega) _ | refine Below.alloc ?_ (by first | (simp; done) | (simp; omega) | omega) _ | refine Below.trans ?_ (Below.mono hb' (by first | (simp; done) | (simp; omega) | omega)))); done)); replace hsz := HB.out.size; clear hb'; replace p0 := ((bcell HB.out).1 _ 0 z0).trans P0.out; replace p1 := ((bcell HB.out).1 _ 1 z0).trans P1.out; replace q0 := ((bcell HB.out).1 _ 0 z1).trans Q0.out; replace q1 := ((bcell HB.out).1 _ 1 z1).trans Q1.out; replace yz0 := Nat.lt_of_lt_of_le z0 hsz; replace yz01 := Nat.lt_succ_of_lt yz0; replace yz1 := Nat.lt_of_lt_of_le z1 hsz; replace yz11 := Nat.lt_succ_of_lt yz1))
  all_goals
    refine wp_region_later (by kernel_rfl) (by kernel_rfl) ?_
    repeat (go_big_quiet_step ((fail)))
    refine wpQuiet_nil ?_
    intro w5 hw'
    have hb5 := ext_below hw'
    clear hw'
    obtain ⟨hc5, hf5⟩ := bcell hb5
    have hs5 := hb5.size
    try simp at hs5
    go_wp2
    go_ret
    exact ⟨rfl, by ((repeat (first | exact Below.refl _ _ | refine Below.drew ?_ | refine Below.setCell ?_ (by first | (simp; done) | (simp; omega) | omega) _ | refine Below.alloc ?_ (by first | (simp; done) | (simp; omega) | omega) _ | refine Below.trans ?_ (Below.mono hb5 (by first | (simp; done) | (simp; omega) | omega)) | refine Below.trans ?_ (Below.mono HB.out (by first | (simp; done) | (simp; omega) | omega)) | refine Below.trans ?_ (Below.mono HB0.out (by first | (simp; done) | (simp; omega) | omega)))); done)⟩
theorem law_nested (a n b m x : Int) (ha0 : 0 ≤ a) (ha1 : a ≤ 4294967295) (hb0 : 0 ≤ b) (hb1 : b ≤ 4294967295) (hx0 : 0 ≤ x) (hx1 : x ≤ 4294967295) (hv : valB a n = true) (hw : valB b m = true) (w : World) :
    Calls Tryd.prog 26 #[.agg #[.int .u32 a, .int .i64 n], .agg #[.int .u32 b, .int .i64 m], .int .u32 x] w fun e w' => e = .returned (.bool true) ∧ Below w.heap.size w w' := by
  have hn := (valB_iff a n).1 hv
  by_cases hk : coverB a n b m = true ∧ coverB b m a n = true
  · obtain ⟨rfl, rfl⟩ := nest_eq a n b m hv hw hk.1 hk.2
    by_cases h31 : n ≤ 31
    · exact nested_same_half a n x ha0 ha1 hx0 hx1 hv h31 w
    · obtain rfl : n = 32 := by omega
      exact nested_same_one a x ha0 ha1 hx0 hx1 hv w
  · by_cases h31 : n ≤ 31
    · exact nested_diff_half a n b m x ha0 ha1 hb0 hb1 hx0 hx1 hv h31 hw hk w
    · obtain rfl : n = 32 := by omega
      exact nested_diff_one a b m x ha0 ha1 hb0 hb1 hx0 hx1 hv hw hk w
theorem covers_bad {a n b m : Int} (h : (valB a n && valB b m) = false) : coverB a n b m = false := by
  simp only [coverB, contB]
  revert h
  cases valB a n <;> cases valB b m <;> simp
set_option maxHeartbeats 2000000 in
theorem law_nested_bad (a n b m x : Int) (ha0 : 0 ≤ a) (ha1 : a ≤ 4294967295) (hb0 : 0 ≤ b) (hb1 : b ≤ 4294967295) (h : (valB a n && valB b m) = false) (w : World) :
    Calls Tryd.prog 26 #[.agg #[.int .u32 a, .int .i64 n], .agg #[.int .u32 b, .int .i64 m], .int .u32 x] w fun e w' => e = .returned (.bool true) ∧ Below w.heap.size w w' := by
  have G3 := Lib.hid (covers_bad h)
  have G4 := Lib.hid (covers_bad (a := b) (n := m) (b := a) (m := n) (by rw [Bool.and_comm]; exact h))
  obtain ⟨v1, g1⟩ : ∃ c, valB a n = c := ⟨_, rfl⟩
  obtain ⟨v2, g2⟩ : ∃ c, valB b m = c := ⟨_, rfl⟩
  rw [g1, g2] at h
  have GP := Lib.hid g1
  have GQ := Lib.hid g2
  clear g1 g2
  go_enter Tryd.func26, Tryd.ntmps26
  go_wp2_with fail
  obtain ⟨W0, hW⟩ : ∃ W, W = (w.alloc (.cells #[.int .u32 a, .int .i64 n] 25)).alloc (.cells #[.int .u32 b, .int .i64 m] 25) := ⟨_, rfl⟩
  rw [← hW]
  have hB0 : Below w.heap.size w W0 := by rw [hW]; ((repeat (first | exact Below.refl _ _ | refine Below.drew ?_ | refine Below.setCell ?_ (by first | (simp; done) | (simp; omega) | omega) _ | refine Below.alloc ?_ (by first | (simp; done) | (simp; omega) | omega) _)); done)
  have p0 : W0.cell? ⟨w.heap.size, 0, none⟩ = some (.int .u32 a) := by rw [hW, World.cell?_alloc_some _ _ _ (by rw [World.cell?_alloc_at _ _ _ _ rfl]; rfl), World.cell?_alloc_at _ _ _ _ rfl]; rfl
  have p1 : W0.cell? ⟨w.heap.size, 1, none⟩ = some (.int .i64 n) := by rw [hW, World.cell?_alloc_some _ _ _ (by rw [World.cell?_alloc_at _ _ _ _ rfl]; rfl), World.cell?_alloc_at _ _ _ _ rfl]; rfl
  have q0 : W0.cell? ⟨w.heap.size + 1, 0, none⟩ = some (.int .u32 b) := by rw [hW, World.cell?_alloc_at _ _ _ _ (by simp)]; rfl
  have q1 : W0.cell? ⟨w.heap.size + 1, 1, none⟩ = some (.int .i64 m) := by rw [hW, World.cell?_alloc_at _ _ _ _ (by simp)]; rfl
  have z0 : w.heap.size < W0.heap.size := by rw [hW]; simp; omega
  have z1 : w.heap.size + 1 < W0.heap.size := by rw [hW]; simp
  clear hW
  have P0 := Lib.hid p0
  have P1 := Lib.hid p1
  have Q0 := Lib.hid q0
  have Q1 := Lib.hid q1
  have HB0 := Lib.hid hB0
  have HB := Lib.hid (Below.refl W0.heap.size W0)
  have hsz : W0.heap.size ≤ W0.heap.size := Nat.le_refl _
  clear hB0
  cases v1 <;> cases v2 <;> simp at h
  all_goals
    go_wp2_with (first | (go_at_call 38; with_reducible refine (ref_Valid a n ha0 ha1 GP.out _).mono ?_; rintro e w' ⟨rfl, hb'⟩; replace HB := Lib.hid (show Below W0.heap.size W0 w' from by ((repeat (first | exact HB.out | exact Below.refl _ _ | refine Below.drew ?_ | refine Below.setCell ?_ (by first | (simp; done) | (simp; omega) | omega) _ | refine Below.alloc ?_ (by first | (simp; done) | (simp; omega) | omega) _ | refine Below.trans ?_ (Below.mono hb' (by first | (simp; done) | (simp; omega) | omega)))); done)); replace hsz := HB.out.size; clear hb'; replace p0 := ((bcell HB.out).1 _ 0 z0).trans P0.out; replace p1 := ((bcell HB.out).1 _ 1 z0).trans P1.out; replace q0 := ((bcell HB.out).1 _ 0 z1).trans Q0.out; replace q1 := ((bcell HB.out).1 _ 1 z1).trans Q1.out; replace yz0 := Nat.lt_of_lt_of_le z0 hsz; replace yz01 := Nat.lt_succ_of_lt yz0; replace yz1 := Nat.lt_of_lt_of_le z1 hsz; replace yz11 := Nat.lt_succ_of_lt yz1) | (go_at_call 38; with_reducible refine (ref_Valid b m hb0 hb1 GQ.out _).mono ?_; rintro e w' ⟨rfl, hb'⟩; replace HB := Lib.hid (show Below W0.heap.size W0 w' from by ((repeat (first | exact HB.out | exact Below.refl _ _ | refine Below.drew ?_ | refine Below.setCell ?_ (by first | (simp; done) | (simp; omega) | omega) _ | refine Below.alloc ?_ (by first | (simp; done) | (simp; omega) | omega) _ | refine Below.trans ?_ (Below.mono hb' (by first | (simp; done) | (simp; omega) | omega)))); done)); replace hsz := HB.out.size; clear hb'; replace p0 := ((bcell HB.out).1 _ 0 z0).trans P0.out; replace p1 := ((bcell HB.out).1 _ 1 z0).trans P1.out; replace q0 := ((bcell HB.out).1 _ 0 z1).trans Q0.out; replace q1 := ((bcell HB.out).1 _ 1 z1).trans Q1.out; replace yz0 := Nat.lt_of_lt_of_le z0 hsz; replace yz01 := Nat.lt_succ_of_lt yz0; replace yz1 := Nat.lt_of_lt_of_le z1 hsz; replace yz11 := Nat.lt_succ_of_lt yz1) | (go_at_call 48; with_reducible refine (prefix_CoversB a n b m ha0 ha1 hb0 hb1 G3.out _).mono ?_; rintro e w' ⟨rfl, hb'⟩; replace HB := Lib.hid (show Below W0.heap.size W0 w' from by ((repeat (first | exact HB.out | exact Below.refl _ _ | refine Below.drew ?_ | refine Below.setCell ?_ (by first | (simp; done) | (simp; omega) | omega) _ | refine Below.alloc ?_ (by first | (simp; done) | (simp; omega) | omega) _ | refine Below.trans ?_ (Below.mono hb' (by first | (simp; done) | (simp; omega) | omega)))); done)); replace hsz := HB.out.size; clear hb'; replace p0 := ((bcell HB.out).1 _ 0 z0).trans P0.out; replace p1 := ((bcell HB.out).1 _ 1 z0).trans P1.out; replace q0 := ((bcell HB.out).1 _ 0 z1).trans Q0.out; replace q1 := ((bcell HB.out).1 _ 1 z1).trans Q1.out; replace yz0 := Nat.lt_of_lt_of_le z0 hsz; replace yz01 := Nat.lt_succ_of_lt yz0; replace yz1 := Nat.lt_of_lt_of_le z1 hsz; replace yz11 := Nat.lt_succ_of_lt yz1) | (go_at_call 48; with_reducible refine (prefix_CoversB b m a n hb0 hb1 ha0 ha1 G4.out _).mono ?_; rintro e w' ⟨rfl, hb'⟩; replace HB := Lib.hid (show Below W0.heap.size W0 w' from by ((repeat (first | exact HB.out | exact Below.refl _ _ | refine Below.drew ?_ | refine Below.setCell ?_ (by first | (simp; done) | (simp; omega) | omega) _ | refine Below.alloc ?_ (by first | (simp; done) | (simp; omega) | omega) _ | refine Below.trans ?_ (Below.mono hb' (by first | (simp; done) | (simp; omega) | omega)))); done)); replace hsz := HB.out.size; clear hb'; replace p0 := ((bcell HB.out).1 _ 0 z0).trans P0.out; replace p1 := ((bcell HB.out).1 _ 1 z0).trans P1.out; replace q0 := ((bcell HB.out).1 _ 0 z1).trans Q0.out; replace q1 := ((bcell HB.out).1 _ 1 z1).trans Q1.out; replace yz0 := Nat.lt_of_lt_of_le z0 hsz; replace yz01 := Nat.lt_succ_of_lt yz0; replace yz1 := Nat.lt_of_lt_of_le z1 hsz; replace yz11 := Nat.lt_succ_of_lt yz1))
    go_ret
    exact ⟨rfl, by ((repeat (first | exact Below.refl _ _ | refine Below.drew ?_ | refine Below.setCell ?_ (by first | (simp; done) | (simp; omega) | omega) _ | refine Below.alloc ?_ (by first | (simp; done) | (simp; omega) | omega) _ | refine Below.trans ?_ (Below.mono HB.out (by first | (simp; done) | (simp; omega) | omega)) | refine Below.trans ?_ (Below.mono HB0.out (by first | (simp; done) | (simp; omega) | omega)))); done)⟩
end Go.Proofs.YtekhggaafeonjaaDoor
