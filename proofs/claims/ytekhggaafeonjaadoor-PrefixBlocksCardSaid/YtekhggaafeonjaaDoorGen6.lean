/- Walks of the generator: New. -/
import Derived.Test.YtekhggaafeonjaaDoorGen1
namespace Go.Proofs.YtekhggaafeonjaaDoor
open Go.RowKit
/-- a slice of whole numbers whose cells lie below block B -/
def IntsAt (w : World) (lv : Value) (len : Nat) : Prop :=
  len ≤ 9223372036854775807 ∧ ∃ a cap, lv = .slice a len cap ∧ (len = 0 ∨ ∃ b off, a = some ⟨b, off, none⟩ ∧ b < w.heap.size ∧ ∀ j, j < len → ∃ z : Int, w.cell? ⟨b, off + j, none⟩ = some (.int .i64 z) ∧ -9223372036854775808 ≤ z ∧ z ≤ 9223372036854775807)
theorem IntsAt.below {w W : World} {lv : Value} {len : Nat} (h : IntsAt w lv len) (hb : Below w.heap.size w W) : IntsAt W lv len := by
  obtain ⟨hl, a, cap, rfl, h⟩ := h
  refine ⟨hl, a, cap, rfl, h.imp id fun ⟨b, off, ha, hlt, hc⟩ => ⟨b, off, ha, Nat.lt_of_lt_of_le hlt hb.size, fun j hj => ?_⟩⟩
  obtain ⟨z, hz, h1, h2⟩ := hc j hj
  exact ⟨z, (hb.cell (p := ⟨b, off + j, none⟩) hlt).trans hz, h1, h2⟩
theorem gen_New (lv : Value) (len : Nat) (w : World) (h : IntsAt w lv len) :
    Calls Tryd.prog 10 #[lv] w fun e w' => e = .returned (.pointer (some ⟨w.heap.size, 0, none⟩)) ∧ Tp w.heap.size w' ∧ Below w.heap.size w w' ∧ w.heap.size < w'.heap.size := by
  obtain ⟨hl, a, cap, rfl, h⟩ := h
  have HH := Lib.hid h
  clear h
  go_enter Tryd.func10, Tryd.ntmps10
  go_wp2
  go_ret
  have hb : Below w.heap.size w (w.alloc (.cells #[.slice a len cap, .int .i64 0] 65)) := (Below.refl _ _).alloc (Nat.le_refl _) _
  refine ⟨rfl, ⟨_, len, 0, Nat.zero_le _, hl, ?_, ⟨a, cap, rfl, HH.out.imp id fun ⟨b, off, ha, hlt, hc⟩ => ⟨b, off, ha, hlt, fun j hj => ?_⟩⟩⟩, hb, by simp⟩
  · show (w.heap.push _)[w.heap.size]? = _
    rw [Array.getElem?_push_size]
    rfl
  · obtain ⟨z, hz, h1, h2⟩ := hc j hj
    exact ⟨z, (hb.cell (p := ⟨b, off + j, none⟩) hlt).trans hz, h1, h2⟩
end Go.Proofs.YtekhggaafeonjaaDoor
