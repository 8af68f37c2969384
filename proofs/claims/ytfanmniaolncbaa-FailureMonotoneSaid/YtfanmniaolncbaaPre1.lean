/- Walks of package prefix: mask, Valid, Of, Contains, Covers. -/
import Derived.Test.YtfanmniaolncbaaLib
import Derived.Test.YtfanmniaolncbaaComM
set_option linter.unusedVariables false
set_option linter.unusedSimpArgs false
namespace Go.Proofs.Ytfanmniaolncbaa
open Go.RowKit
set_option maxHeartbeats 400000 in
theorem prefix_mask (n : Int) (h0 : 0 ≤ n) (h1 : n ≤ 32) (w : World) :
    Calls Try.prog 105 #[.int .i64 n] w fun e w' => e = .returned (.int .u32 (mskZ n)) ∧ w = w' := by
  go_enter Try.func105, Try.ntmps105
  go_wp2
  go_ret
  exact ⟨rfl, rfl⟩
set_option maxHeartbeats 400000 in
theorem prefix_Valid (a n : Int) (ha0 : 0 ≤ a) (ha1 : a ≤ 4294967295) (w : World) :
    Calls Try.prog 83 #[.agg #[.int .u32 a, .int .i64 n]] w fun e w' => e = .returned (.bool (valB a n)) ∧ Below w.heap.size w w' := by
  unfold valB
  rcases Bool.eq_false_or_eq_true (decide (0 ≤ n)) with g0 | g0
  rcases Bool.eq_false_or_eq_true (decide (n ≤ 32)) with g1 | g1
  rw [← andNot_mask a n ha0 ha1 (by simpa using g0) (by simpa using g1)]
  all_goals
    go_enter Try.func83, Try.ntmps83
    go_wp2
    refine wp_region_later (by kernel_rfl) (by kernel_rfl) ?_
    repeat (go_big_quiet_step ((go_at_call 105; exact calls_later_same (prefix_mask _ (by simpa using g0) (by simpa using g1) _))))
    refine wpQuiet_nil ?_
    intro w2 hw'
    have hb2 := ext_below hw'
    clear hw'
    obtain ⟨hc2, hf2⟩ := bcell hb2
    have hs2 := hb2.size
    try simp at hs2
    go_wp2
    go_ret
    exact ⟨by simp only [*]; rfl, ((Below.refl _ _).alloc (Nat.le_refl _) _).trans (hb2.mono (by simp))⟩
set_option maxHeartbeats 400000 in
theorem prefix_ValidB (a n : Int) (ha0 : 0 ≤ a) (ha1 : a ≤ 4294967295) {b : Bool} (hb : valB a n = b) (w : World) :
    Calls Try.prog 83 #[.agg #[.int .u32 a, .int .i64 n]] w fun e w' => e = .returned (.bool b) ∧ Below w.heap.size w w' := by subst hb; exact prefix_Valid a n ha0 ha1 w
set_option maxHeartbeats 400000 in
theorem prefix_Contains (a n x : Int) (ha0 : 0 ≤ a) (ha1 : a ≤ 4294967295) (hx0 : 0 ≤ x) (hx1 : x ≤ 4294967295) (w : World) :
    Calls Try.prog 112 #[.agg #[.int .u32 a, .int .i64 n], .int .u32 x] w fun e w' => e = .returned (.bool (contB a n x)) ∧ Below w.heap.size w w' := by
  unfold contB
  rcases Bool.eq_false_or_eq_true (valB a n) with g0 | g0
  rw [← and_mask x n hx0 hx1 ((valB_iff a n).1 g0).1 ((valB_iff a n).1 g0).2.1]
  all_goals
    go_enter Try.func112, Try.ntmps112
    go_wp2
    refine wp_region_later (by kernel_rfl) (by kernel_rfl) ?_
    repeat (go_big_quiet_step ((first | (go_at_call 83; exact calls_later (prefix_ValidB _ _ ha0 ha1 g0 _)) | (go_at_call 105; exact calls_later_same (prefix_mask _ ((valB_iff a n).1 g0).1 ((valB_iff a n).1 g0).2.1 _)))))
    refine wpQuiet_nil ?_
    intro w2 hw'
    have hb2 := ext_below hw'
    clear hw'
    obtain ⟨hc2, hf2⟩ := bcell hb2
    have hs2 := hb2.size
    try simp at hs2
    go_wp2
    go_ret
    exact ⟨by simp only [*]; rfl, ((Below.refl _ _).alloc (Nat.le_refl _) _).trans (hb2.mono (by simp))⟩
end Go.Proofs.Ytfanmniaolncbaa
