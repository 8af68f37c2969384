/- Lists of texts in memory: read, compared. -/
import Derived.Test.YtmaiillomoehgaaDoorOwn
import Derived.Test.YtmaiillomoehgaaDoorRefT1
import Derived.Test.YtmaiillomoehgaaDoorEq
namespace Go.Proofs.YtmaiillomoehgaaDoor
open Go.RowKit
/-- a slice of texts as it lies in memory -/
def StrsAt (w : World) (v : Value) (xs : List (List UInt8)) : Prop :=
  xs.length ≤ 9223372036854775807 ∧ ∃ a cap, v = .slice a xs.length cap ∧ (xs = [] ∨ ∃ b off, a = some ⟨b, off, none⟩ ∧ b < w.heap.size ∧ ∀ j (l : List UInt8), xs[j]? = some l → w.cell? ⟨b, off + j, none⟩ = some (.string ⟨l.toArray⟩))
theorem StrsAt.below {w w' : World} {v : Value} {xs : List (List UInt8)} (h : StrsAt w v xs) (hb : Below w.heap.size w w') : StrsAt w' v xs := by
  obtain ⟨hl, a, cap, rfl, h⟩ := h
  exact ⟨hl, a, cap, rfl, h.imp id fun ⟨b, off, ha, hlt, hc⟩ => ⟨b, off, ha, Nat.lt_of_lt_of_le hlt hb.size, fun j l e => (hb.cell (p := ⟨b, off + j, none⟩) hlt).trans (hc j l e)⟩⟩
theorem StrsAt.of_own {w : World} {B : Nat} {v : Value} {xs : List (List UInt8)} (h : w.ownsRow B 9 1 v xs.length (strCells xs)) (hl : xs.length ≤ 9223372036854775807) : StrsAt w v xs := by
  refine ⟨hl, ?_⟩
  have hc := fun g (hg : v.ownBlock = some g) => h.cells hg
  have hlt := h.lt
  rcases h.2 with ⟨rfl, h0⟩ | ⟨g, cap, cur, rfl, _⟩
  · exact ⟨none, 0, by rw [h0], .inl (List.length_eq_zero_iff.1 h0)⟩
  · refine ⟨_, cap, rfl, .inr ⟨g, 0, rfl, (hlt g rfl).2, fun j l e => ?_⟩⟩
    have := hc g rfl j (.string ⟨l.toArray⟩) (by simp [strCells, e])
    rwa [show (⟨g, 0, none⟩ : Addr).add j = ⟨g, 0 + j, none⟩ by simp only [Addr.add]; split <;> simp_all] at this
set_option maxHeartbeats 2000000 in
/-- two equal lists of texts compare equal -/
theorem ref_Same9 (u v : Value) (xs : List (List UInt8)) (w : World) (hu : StrsAt w u xs) (hv : StrsAt w v xs) :
    Calls Tryd.prog 19 #[u, v] w fun e w' => e = .returned (.bool true) ∧ Below w.heap.size w w' := by
  obtain ⟨hl, a, ca, rfl, ha⟩ := hu
  obtain ⟨_, b, cb, rfl, hb⟩ := hv
  have HA := Lib.hid ha
  have HB := Lib.hid hb
  have g0 : ((xs.length : Int) != (xs.length : Int)) = false := by simp
  clear ha hb
  go_enter Tryd.func19, Tryd.ntmps19
  go_wp2
  go_loopw [5] (fun i wr => ∃ k : Nat, k ≤ xs.length ∧ i = .int .i64 k ∧ Below w.heap.size w wr) (fun i _ => xs.length - (intOf i).toNat)
  case atStart => exact ⟨0, by omega, rfl, Below.refl _ _⟩
  case round =>
    obtain ⟨k, hk, rfl, hb⟩ := hrel
    have HW := Lib.hid hb
    by_cases hlt : k < xs.length
    · obtain ⟨l, hkl⟩ : ∃ l, xs[k]? = some l := ⟨_, List.getElem?_eq_getElem hlt⟩
      obtain ⟨ba, oa, rfl, hla, hca⟩ : ∃ ba oa, a = some ⟨ba, oa, none⟩ ∧ ba < wr.heap.size ∧ wr.cell? ⟨ba, oa + k, none⟩ = some (.string ⟨l.toArray⟩) := by
        rcases HA.out with h | ⟨ba, oa, rfl, h1, h2⟩
        · rw [h] at hlt; simp at hlt
        · exact ⟨ba, oa, rfl, Nat.lt_of_lt_of_le h1 hb.size, (hb.cell (p := ⟨ba, oa + k, none⟩) h1).trans (h2 k l hkl)⟩
      obtain ⟨bb, ob, rfl, hlb, hcb⟩ : ∃ bb ob, b = some ⟨bb, ob, none⟩ ∧ bb < wr.heap.size ∧ wr.cell? ⟨bb, ob + k, none⟩ = some (.string ⟨l.toArray⟩) := by
        rcases HB.out with h | ⟨bb, ob, rfl, h1, h2⟩
        · rw [h] at hlt; simp at hlt
        · exact ⟨bb, ob, rfl, Nat.lt_of_lt_of_le h1 hb.size, (hb.cell (p := ⟨bb, ob + k, none⟩) h1).trans (h2 k l hkl)⟩
      have hltI : (k : Int) < (xs.length : Int) := by omega
      have HKL := Lib.hid hkl
      clear hb hkl
      go_wp2
      refine wp_region_later (by kernel_rfl) (by kernel_rfl) ?_
      repeat (go_big_quiet_step ((fail)))
      refine wpQuiet_nil ?_
      intro w3 hw'
      have hb3 := ext_below hw'
      clear hw'
      obtain ⟨hc3, hf3⟩ := bcell hb3
      have hs3 := hb3.size
      try simp at hs3
      go_wp2
      go_roundw
      case rel => exact ⟨k + 1, by omega, by go_num, HW.out.trans (hb3.mono HW.out.size)⟩
      case measure => simp [intOf]; omega
    · obtain rfl : k = xs.length := by omega
      clear hb
      go_wp2
      go_ret
      exact ⟨rfl, HW.out⟩
end Go.Proofs.YtmaiillomoehgaaDoor
