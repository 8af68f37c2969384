/- strings.Cut at a separator of one byte: no bound on the text. -/
import Derived.Test.YtekhggaafeonjaaDoorLib
import Derived.Test.YtekhggaafeonjaaDoorShelf
namespace Go.Proofs.YtekhggaafeonjaaDoor
open Go.RowKit
def cutB (c : UInt8) (s : ByteArray) : ByteArray × ByteArray × Bool :=
  if 0 ≤ Lib.indexByte s.data.toList c then (s.extract 0 (Lib.indexByte s.data.toList c).toNat, s.extract ((Lib.indexByte s.data.toList c).toNat + 1) s.size, true) else (s, ⟨#[]⟩, false)
theorem indexByte_lt (l : List UInt8) (c : UInt8) : Lib.indexByte l c < l.length := by
  induction l with
  | nil => simp [Lib.indexByte]
  | cons b l ih =>
    simp only [Lib.indexByte, List.length_cons]
    split
    · omega
    · split <;> omega
set_option maxHeartbeats 400000 in
theorem stringslite_Cut1 (s : ByteArray) (c : UInt8) (w : World) (hs : s.size ≤ maxLen) :
    Calls Tryd.prog 57 #[.string s, .string ⟨#[c]⟩] w fun e w' => e = .returned (.tuple #[.string (cutB c s).1, .string (cutB c s).2.1, .bool (cutB c s).2.2]) ∧ Below w.heap.size w w' := by
  have hlt : Lib.indexByte s.data.toList c < s.size := by have := indexByte_lt s.data.toList c; simpa using this
  have hge := Lib.indexByte_ge s.data.toList c
  have HC : ∀ w, Calls Tryd.prog 61 #[.string s, .string ⟨#[c]⟩] w fun e w' => e = .returned (.int .i64 (Lib.indexByte s.data.toList c)) ∧ w' = w := Tryd.stringslite_Index_one s c
  unfold cutB
  generalize Lib.indexByte s.data.toList c = i at *
  have HC' := Lib.hid HC
  clear HC
  unfold maxLen at hs
  by_cases h : 0 ≤ i
  · rw [if_pos h]
    obtain ⟨i, rfl⟩ := Int.eq_ofNat_of_zero_le h
    rw [Int.toNat_natCast]
    have hlt' : i < s.size := by omega
    go_enter Tryd.func57, Tryd.ntmps57
    go_wp2_with (go_at_call 61; refine (HC'.out _).mono ?_; rintro e w' ⟨rfl, rfl⟩)
    refine wp_region_later (by kernel_rfl) (by kernel_rfl) ?_
    repeat (go_big_quiet_step ((fail)))
    refine wpQuiet_nil ?_
    intro w2 hw'
    have hb2 := ext_below hw'
    clear hw'
    obtain ⟨hc2, hf2⟩ := bcell hb2
    have hs2 := hb2.size
    try simp at hs2
    go_wp2
    go_ret3
    exact ⟨rfl, by ((repeat (first | exact Below.refl _ _ | refine Below.drew ?_ | refine Below.setCell ?_ (by first | (simp; done) | (simp; omega) | omega) _ | refine Below.alloc ?_ (by first | (simp; done) | (simp; omega) | omega) _ | refine Below.trans ?_ (Below.mono hb2 (by first | (simp; done) | (simp; omega) | omega)))); done)⟩
  · rw [if_neg h]
    go_enter Tryd.func57, Tryd.ntmps57
    go_wp2_with (go_at_call 61; refine (HC'.out _).mono ?_; rintro e w' ⟨rfl, rfl⟩)
    go_ret3
    exact ⟨rfl, by ((repeat (first | exact Below.refl _ _ | refine Below.drew ?_ | refine Below.setCell ?_ (by first | (simp; done) | (simp; omega) | omega) _ | refine Below.alloc ?_ (by first | (simp; done) | (simp; omega) | omega) _)); done)⟩
set_option maxHeartbeats 400000 in
theorem strings_Cut1 (s : ByteArray) (c : UInt8) (w : World) (hs : s.size ≤ maxLen) :
    Calls Tryd.prog 43 #[.string s, .string ⟨#[c]⟩] w fun e w' => e = .returned (.tuple #[.string (cutB c s).1, .string (cutB c s).2.1, .bool (cutB c s).2.2]) ∧ Below w.heap.size w w' := by
  have HC := Lib.hid (stringslite_Cut1 s c w hs)
  generalize cutB c s = r at *
  obtain ⟨l, r, f⟩ := r
  go_enter Tryd.func43, Tryd.ntmps43
  go_wp2_with (go_at_call 57; refine HC.out.mono ?_; rintro e w' ⟨rfl, hb2⟩)
  go_ret3
  exact ⟨rfl, by ((repeat (first | exact Below.refl _ _ | refine Below.drew ?_ | refine Below.setCell ?_ (by first | (simp; done) | (simp; omega) | omega) _ | refine Below.alloc ?_ (by first | (simp; done) | (simp; omega) | omega) _ | refine Below.trans ?_ (Below.mono hb2 (by first | (simp; done) | (simp; omega) | omega)))); done)⟩
end Go.Proofs.YtekhggaafeonjaaDoor
