/- Lists of pairs (ranges, prefixes) in memory: read, compared. -/
import Derived.Test.YtekhggaafeonjaaDoorRefB
import Derived.Test.YtekhggaafeonjaaDoorGen2
namespace Go.Proofs.YtekhggaafeonjaaDoor
open Go.RowKit
/-- a slice of structs of two cells, as it lies in memory -/
def PairsAt (w : World) (v : Value) (n : Nat) (cells : List Value) : Prop :=
  n ≤ maxLen ∧ ∃ a cap, v = .slice a n cap ∧ (n = 0 ∨ ∃ g, a = some ⟨g, 0, none⟩ ∧ g < w.heap.size ∧ ∀ j (u : Value), cells[j]? = some u → w.cell? ⟨g, j, none⟩ = some u)
theorem PairsAt.below {w w' : World} {v : Value} {n : Nat} {cells : List Value} (h : PairsAt w v n cells) (hb : Below w.heap.size w w') : PairsAt w' v n cells := by
  obtain ⟨hl, a, cap, rfl, h⟩ := h
  exact ⟨hl, a, cap, rfl, h.imp id fun ⟨g, ha, hlt, hc⟩ => ⟨g, ha, Nat.lt_of_lt_of_le hlt hb.size, fun j u e => (hb.cell (p := ⟨g, j, none⟩) hlt).trans (hc j u e)⟩⟩
theorem PairsAt.of_own {w : World} {B : Nat} {t : TypeId} {v : Value} {n : Nat} {cells : List Value} (h : w.ownsRow B t 2 v n cells) : PairsAt w v n cells := by
  by_cases h0 : n = 0
  · have hc := h.2
    rcases h.2 with ⟨rfl, _⟩ | ⟨g, cap, cur, rfl, _⟩
    · exact ⟨by omega, none, 0, by rw [h0], .inl h0⟩
    · exact ⟨by omega, _, cap, rfl, .inl h0⟩
  · obtain ⟨g, cap, rfl, _, hg, hcap, hm, hc⟩ := own_some h h0
    exact ⟨by omega, _, cap, rfl, .inr ⟨g, rfl, hg, hc⟩⟩
set_option maxHeartbeats 1000000 in
/-- two equal lists of ranges compare equal -/
theorem ref2_Same (u v : Value) (xs : List (Int × Int)) (w : World) (hu : PairsAt w u xs.length (rngCells xs)) (hv : PairsAt w v xs.length (rngCells xs)) :
    Calls Tryd.prog 29 #[u, v] w fun e w' => e = .returned (.bool true) ∧ Below w.heap.size w w' := by
  obtain ⟨hl, a, ca, rfl, ha⟩ := hu
  obtain ⟨_, b, cb, rfl, hb⟩ := hv
  unfold maxLen at hl
  have HA := Lib.hid ha
  have HB := Lib.hid hb
  have g0 : ((xs.length : Int) != (xs.length : Int)) = false := by simp
  clear ha hb
  go_enter Tryd.func29, Tryd.ntmps29
  go_wp2
  go_loopw [5] (fun i wr => ∃ k : Nat, k ≤ xs.length ∧ i = .int .i64 k ∧ Below w.heap.size w wr) (fun i _ => xs.length - (intOf i).toNat)
  case atStart => exact ⟨0, by omega, rfl, Below.refl _ _⟩
  case round =>
    obtain ⟨k, hk, rfl, hb⟩ := hrel
    have HW := Lib.hid hb
    by_cases hlt : k < xs.length
    · obtain ⟨⟨p, q⟩, hkl⟩ : ∃ l, xs[k]? = some l := ⟨_, List.getElem?_eq_getElem hlt⟩
      have hat := rngCells_at xs k _ hkl
      rw [Nat.mul_comm] at hat
      obtain ⟨ba, rfl, hla, hca, hca'⟩ : ∃ ba, a = some ⟨ba, 0, none⟩ ∧ ba < wr.heap.size ∧ wr.cell? ⟨ba, k * 2, none⟩ = some (.int .u32 p) ∧ wr.cell? ⟨ba, k * 2 + 1, none⟩ = some (.int .u32 q) := by
        rcases HA.out with h | ⟨ba, rfl, h1, h2⟩
        · omega
        · exact ⟨ba, rfl, Nat.lt_of_lt_of_le h1 hb.size, (hb.cell (p := ⟨ba, k * 2, none⟩) h1).trans (h2 _ _ hat.1), (hb.cell (p := ⟨ba, k * 2 + 1, none⟩) h1).trans (h2 _ _ hat.2)⟩
      obtain ⟨bb, rfl, hlb, hcb, hcb'⟩ : ∃ bb, b = some ⟨bb, 0, none⟩ ∧ bb < wr.heap.size ∧ wr.cell? ⟨bb, k * 2, none⟩ = some (.int .u32 p) ∧ wr.cell? ⟨bb, k * 2 + 1, none⟩ = some (.int .u32 q) := by
        rcases HB.out with h | ⟨bb, rfl, h1, h2⟩
        · omega
        · exact ⟨bb, rfl, Nat.lt_of_lt_of_le h1 hb.size, (hb.cell (p := ⟨bb, k * 2, none⟩) h1).trans (h2 _ _ hat.1), (hb.cell (p := ⟨bb, k * 2 + 1, none⟩) h1).trans (h2 _ _ hat.2)⟩
      have hltI : (k : Int) < (xs.length : Int) := by omega
      have HKL := Lib.hid hkl
      clear hb hkl hat
      go_wp2
      refine wp_region_later (by kernel_rfl) (by kernel_rfl) ?_
      repeat (go_big_quiet_step ((fail)))
      refine wpQuiet_nil ?_
      intro w3 hw'
      have hb3 := ext_below hw'
      clear hw'
      obtain ⟨hc3, hf3⟩ := bcell hb3
      have hs3 := hb3.size
      try simp at hs3
      go_wp2
      go_roundw
      case rel => exact ⟨k + 1, by omega, by go_num, HW.out.trans (hb3.mono HW.out.size)⟩
      case measure => simp [intOf]; omega
    · obtain rfl : k = xs.length := by omega
      clear hb
      go_wp2
      go_ret
      exact ⟨rfl, HW.out⟩
end Go.Proofs.YtekhggaafeonjaaDoor
