/- Walks of the generator: Subnet, Addr. -/
import Derived.Test.YtekhggaafeonjaaDoorGen1
import Derived.Test.YtekhggaafeonjaaDoorRef2
namespace Go.Proofs.YtekhggaafeonjaaDoor
open Go.RowKit
theorem gen_ModS (v n : Int) (hv0 : 0 ≤ v) (hv1 : v < n) (hn1 : n ≤ 9223372036854775807) (w : World) :
    Calls Tryd.prog 46 #[.int .i64 v, .int .i64 n] w fun e w' => e = .returned (.int .i64 v) ∧ w = w' := by
  have h := gen_Mod v n (by omega) (by omega) (by omega) hn1 w
  rwa [Int.emod_eq_of_lt hv0 (by omega), Int.emod_eq_of_lt hv0 hv1] at h
def PfxPost (w : World) (e : Ending) (w' : World) : Prop := ∃ a n : Int, e = .returned (.agg #[.int .u32 a, .int .i64 n]) ∧ 0 ≤ a ∧ a ≤ 4294967295 ∧ valB a n = true ∧ Below w.heap.size w w'
set_option maxHeartbeats 1000000 in
theorem gen_Subnet (c : Int) (h0 : 0 ≤ c) (h1 : c < 6) (w : World) : Calls Tryd.prog 37 #[.int .i64 c] w (PfxPost w) := by
  have h6 : c = 0 ∨ c = 1 ∨ c = 2 ∨ c = 3 ∨ c = 4 ∨ c = 5 := by omega
  clear h0 h1
  rcases h6 with rfl | rfl | rfl | rfl | rfl | rfl
  · go_enter Tryd.func37, Tryd.ntmps37
    go_wp2_with (go_at_call 46; refine (gen_ModS _ _ (by decide) (by decide) (by decide) _).mono ?_; rintro e w' ⟨rfl, rfl⟩)
    refine bodyPost_ret (v := .agg #[.int .u32 167772160, .int .i64 24]) (by simp [results, Tryd.results37, go_sem]) rfl ?_
    exact ⟨167772160, 24, rfl, by decide, by decide, by decide +kernel, by ((repeat (first | exact Below.refl _ _ | refine Below.drew ?_ | refine Below.setCell ?_ (by first | (simp; done) | (simp; omega) | omega) _ | refine Below.alloc ?_ (by first | (simp; done) | (simp; omega) | omega) _)); done)⟩
  · go_enter Tryd.func37, Tryd.ntmps37
    go_wp2_with (go_at_call 46; refine (gen_ModS _ _ (by decide) (by decide) (by decide) _).mono ?_; rintro e w' ⟨rfl, rfl⟩)
    refine bodyPost_ret (v := .agg #[.int .u32 167772416, .int .i64 24]) (by simp [results, Tryd.results37, go_sem]) rfl ?_
    exact ⟨167772416, 24, rfl, by decide, by decide, by decide +kernel, by ((repeat (first | exact Below.refl _ _ | refine Below.drew ?_ | refine Below.setCell ?_ (by first | (simp; done) | (simp; omega) | omega) _ | refine Below.alloc ?_ (by first | (simp; done) | (simp; omega) | omega) _)); done)⟩
  · go_enter Tryd.func37, Tryd.ntmps37
    go_wp2_with (go_at_call 46; refine (gen_ModS _ _ (by decide) (by decide) (by decide) _).mono ?_; rintro e w' ⟨rfl, rfl⟩)
    refine bodyPost_ret (v := .agg #[.int .u32 167772672, .int .i64 25]) (by simp [results, Tryd.results37, go_sem]) rfl ?_
    exact ⟨167772672, 25, rfl, by decide, by decide, by decide +kernel, by ((repeat (first | exact Below.refl _ _ | refine Below.drew ?_ | refine Below.setCell ?_ (by first | (simp; done) | (simp; omega) | omega) _ | refine Below.alloc ?_ (by first | (simp; done) | (simp; omega) | omega) _)); done)⟩
  · go_enter Tryd.func37, Tryd.ntmps37
    go_wp2_with (go_at_call 46; refine (gen_ModS _ _ (by decide) (by decide) (by decide) _).mono ?_; rintro e w' ⟨rfl, rfl⟩)
    refine bodyPost_ret (v := .agg #[.int .u32 167772800, .int .i64 26]) (by simp [results, Tryd.results37, go_sem]) rfl ?_
    exact ⟨167772800, 26, rfl, by decide, by decide, by decide +kernel, by ((repeat (first | exact Below.refl _ _ | refine Below.drew ?_ | refine Below.setCell ?_ (by first | (simp; done) | (simp; omega) | omega) _ | refine Below.alloc ?_ (by first | (simp; done) | (simp; omega) | omega) _)); done)⟩
  · go_enter Tryd.func37, Tryd.ntmps37
    go_wp2_with (go_at_call 46; refine (gen_ModS _ _ (by decide) (by decide) (by decide) _).mono ?_; rintro e w' ⟨rfl, rfl⟩)
    refine bodyPost_ret (v := .agg #[.int .u32 2886729728, .int .i64 16]) (by simp [results, Tryd.results37, go_sem]) rfl ?_
    exact ⟨2886729728, 16, rfl, by decide, by decide, by decide +kernel, by ((repeat (first | exact Below.refl _ _ | refine Below.drew ?_ | refine Below.setCell ?_ (by first | (simp; done) | (simp; omega) | omega) _ | refine Below.alloc ?_ (by first | (simp; done) | (simp; omega) | omega) _)); done)⟩
  · go_enter Tryd.func37, Tryd.ntmps37
    go_wp2_with (go_at_call 46; refine (gen_ModS _ _ (by decide) (by decide) (by decide) _).mono ?_; rintro e w' ⟨rfl, rfl⟩)
    refine bodyPost_ret (v := .agg #[.int .u32 3232237321, .int .i64 32]) (by simp [results, Tryd.results37, go_sem]) rfl ?_
    exact ⟨3232237321, 32, rfl, by decide, by decide, by decide +kernel, by ((repeat (first | exact Below.refl _ _ | refine Below.drew ?_ | refine Below.setCell ?_ (by first | (simp; done) | (simp; omega) | omega) _ | refine Below.alloc ?_ (by first | (simp; done) | (simp; omega) | omega) _)); done)⟩
end Go.Proofs.YtekhggaafeonjaaDoor
