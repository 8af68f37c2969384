/- nsglaw1.sane returns true. -/
import Derived.Test.YtekhggaafeonjaaDoorPre5
import Derived.Test.YtekhggaafeonjaaDoorBlk
namespace Go.Proofs.YtekhggaafeonjaaDoor
open Go.RowKit
theorem sane_p1 : parseP ⟨#[49, 48, 46, 48, 46, 48, 46, 48, 47, 56]⟩ = (167772160, 8, true) := by decide +kernel
theorem sane_p2 : parseP ⟨#[49, 48, 46, 48, 46, 48, 46, 49, 47, 56]⟩ = (0, 0, false) := by decide +kernel
theorem sane_b : blocksP 1 6 3 = [(1, 1), (2, 3), (4, 5), (6, 6)] := by decide +kernel
theorem sane_v : valB 167772160 8 = true := by decide +kernel
theorem sane_f : fmtP 167772160 8 = [49, 48, 46, 48, 46, 48, 46, 48, 47, 56] := by
  have h10 := Lib.decDigits_two (i := 10) (by decide) (by decide)
  have h0 := Lib.decDigits_one (i := 0) (by decide)
  have h8 := Lib.decDigits_one (i := 8) (by decide)
  have o0 : (octs 167772160 0).toNat = 10 := by decide +kernel
  have o1 : (octs 167772160 1).toNat = 0 := by decide +kernel
  have o2 : (octs 167772160 2).toNat = 0 := by decide +kernel
  have o3 : (octs 167772160 3).toNat = 0 := by decide +kernel
  simp only [fmtP, fmtTo, o0, o1, o2, o3, h10, h0, show (8 : Int).toNat = 8 from rfl, h8]
  rfl
set_option maxHeartbeats 1000000 in
theorem law1_sane (w : World) (htab : Lib.TabIs Tryd.prog w "internal/strconv.uint64pow10" .u64 Lib.pow10Tab) :
    Calls Tryd.prog 22 #[] w fun e w' => e = .returned (.bool true) ∧ Below w.heap.size w w' := by
  have HT := Lib.hid htab
  clear htab
  go_enter Tryd.func22, Tryd.ntmps22
  go_wp2_with fail
  refine (prefix_Parse ⟨#[49, 48, 46, 48, 46, 48, 46, 48, 47, 56]⟩ (by decide) _ _ _ sane_p1 _).mono ?_
  rintro e w2 ⟨rfl, hb2⟩
  obtain ⟨hc2, hf2⟩ := bcell hb2
  go_wp2_with fail
  refine (prefix_Parse ⟨#[49, 48, 46, 48, 46, 48, 46, 49, 47, 56]⟩ (by decide) _ _ _ sane_p2 _).mono ?_
  rintro e w3 ⟨rfl, hb3⟩
  obtain ⟨hc3, hf3⟩ := bcell hb3
  go_wp2_with fail
  refine (prefix_Blocks 1 6 3 (by decide) (by decide) (by decide) (by decide) sane_b _).mono ?_
  rintro e w4 ⟨v, rfl, hown, hb4⟩
  obtain ⟨hc4, hf4⟩ := bcell hb4
  obtain ⟨g, cap, rfl, hg0, hg1, hcap, hcm, hcell⟩ := own_some hown (by decide)
  have q0 : w4.cell? ⟨g, 2, none⟩ = some (.int .u32 2) := hcell 2 _ rfl
  have q1 : w4.cell? ⟨g, 3, none⟩ = some (.int .u32 3) := hcell 3 _ rfl
  clear hcell hown
  have z3 : w2.heap.size < w3.heap.size := by have := hb3.size; simp at this; omega
  have z3' := Nat.lt_succ_of_lt z3
  have z3n := Nat.ne_of_lt z3
  have c0 : w4.cell? ⟨w2.heap.size, 0, none⟩ = some (.int .u32 167772160) := by simp [go_sem, hc4, hc3, z3', z3n, z3]
  have c1 : w4.cell? ⟨w2.heap.size, 1, none⟩ = some (.int .i64 8) := by simp [go_sem, hc4, hc3, z3', z3n, z3]
  have HB4 : Below w.heap.size w w4 := by
    have h1 := hb2.size
    have h2 := hb3.size
    simp at h2
    ((repeat (first | exact Below.refl _ _ | refine Below.drew ?_ | refine Below.setCell ?_ (by first | (simp; done) | (simp; omega) | omega) _ | refine Below.alloc ?_ (by first | (simp; done) | (simp; omega) | omega) _ | refine Below.trans ?_ (Below.mono hb4 (by first | (simp; done) | (simp; omega) | omega)) | refine Below.trans ?_ (Below.mono hb3 (by first | (simp; done) | (simp; omega) | omega)) | refine Below.trans ?_ (Below.mono hb2 (by first | (simp; done) | (simp; omega) | omega)))); done)
  have HT4 := Lib.hid (tab_below HT.out (Nat.le_refl _) HB4)
  have HB := Lib.hid HB4
  clear HB4 hc2 hc3 hc4 hf2 hf3 hf4 z3 z3' z3n hcm hg0 hcap
  go_wp2_with (go_at_call 21; refine (prefix_Format_yes 167772160 8 (by decide) (by decide) sane_v _ HT4.out).mono ?_; rw [sane_f]; rintro e w5 ⟨rfl, hb5⟩; obtain ⟨hc5, hf5⟩ := bcell hb5)
  go_ret
  exact ⟨rfl, HB.out.trans (hb5.mono (by have := HB.out.size; omega))⟩
end Go.Proofs.YtekhggaafeonjaaDoor
