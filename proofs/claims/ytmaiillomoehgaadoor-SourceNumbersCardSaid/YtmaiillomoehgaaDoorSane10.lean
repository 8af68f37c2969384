/- The sanity check of the laws of package source. -/
import Derived.Test.YtmaiillomoehgaaDoorPrt
import Derived.Test.YtmaiillomoehgaaDoorSrc3
namespace Go.Proofs.YtmaiillomoehgaaDoor
open Go.RowKit
theorem sane_lines : linesL [10, 97, 32, 61, 98, 44, 99, 32, 35, 32, 120] = ([(2, [[97], [61], [98], [44], [99]])], 0, 0) := by decide +kernel
theorem sane_ports : portsL [56, 48, 45, 52, 52, 51] = some (80, 443) := by decide +kernel
set_option maxRecDepth 100000 in
set_option maxHeartbeats 2000000 in
theorem law10_sane (w : World) (hml : ML w) : Calls Tryd.prog 15 #[] w fun e w' => e = .returned (.bool true) ∧ Below w.heap.size w w' := by
  have HML := Lib.hid hml
  have HP : Hid (∀ w, Calls Tryd.prog 22 #[.string ⟨#[56, 48, 45, 52, 52, 51]⟩] w fun e w' => e = .returned (.tuple #[.agg #[.int .u32 80, .int .u32 443], .bool true]) ∧ Below w.heap.size w w') := Lib.hid (src_Ports ⟨#[56, 48, 45, 52, 52, 51]⟩ (by decide) sane_ports)
  have HL : Hid (∀ w, ML w → Calls Tryd.prog 17 #[.string ⟨#[10, 97, 32, 61, 98, 44, 99, 32, 35, 32, 120]⟩] w fun e w' => ∃ (g o cap gw ow cw : Nat), e = .returned (.tuple #[.slice (some ⟨g, o, none⟩) 1 cap, .int .i64 0, .int .i64 0]) ∧ g < w'.heap.size ∧ gw < w'.heap.size ∧
      w'.cell? ⟨g, o, none⟩ = some (.int .i64 2) ∧ w'.cell? ⟨g, o + 1, none⟩ = some (.slice (some ⟨gw, ow, none⟩) 5 cw) ∧ w'.cell? ⟨gw, ow + 1, none⟩ = some (.string ⟨#[61]⟩) ∧ Below w.heap.size w w') := Lib.hid fun w hm => by
    refine (src_Lines ⟨#[10, 97, 32, 61, 98, 44, 99, 32, 35, 32, 120]⟩ (by decide) sane_lines w hm).mono fun e w' ⟨v, he, hat, hb⟩ => ?_
    obtain ⟨_, a, cap, rfl, h⟩ := hat
    rcases h with h | ⟨g, o, rfl, hg, hc⟩
    · cases h
    · obtain ⟨h1, u, h2, _, aw, cw, rfl, h3⟩ := hc 0 _ rfl
      rcases h3 with h3 | ⟨gw, ow, rfl, hgw, hcw⟩
      · cases h3
      · exact ⟨g, o, cap, gw, ow, cw, he, hg, hgw, h1, h2, hcw 1 _ rfl, hb⟩
  clear hml
  go_enter Tryd.func15, Tryd.ntmps15
  go_wp2_with fail
  refine (HL.out _ HML.out).mono ?_
  rintro e w1 ⟨g, o, cap, gw, ow, cw, rfl, hg, hgw, c1, c2, c3, hb1⟩
  have HB1 := Lib.hid hb1
  clear hb1
  go_wp2_with fail
  refine (HP.out _).mono ?_
  rintro e w2 ⟨rfl, hb2⟩
  have hs2 := hb2.size
  have d1 := (hb2.cell (p := ⟨g, o, none⟩) hg).trans c1
  have d2 := (hb2.cell (p := ⟨g, o + 1, none⟩) hg).trans c2
  have d3 := (hb2.cell (p := ⟨gw, ow + 1, none⟩) hgw).trans c3
  have hg2 : g < w2.heap.size := by omega
  have hgw2 : gw < w2.heap.size := by omega
  have HB2 := Lib.hid (HB1.out.trans (hb2.mono HB1.out.size))
  have N1 : Hid (∀ w, Calls Tryd.prog 28 #[.string ⟨#[97, 45, 49]⟩] w fun e w' => e = .returned (.bool true) ∧ w = w') := Lib.hid (src_ValidName ⟨#[97, 45, 49]⟩ (by decide) (by decide +kernel))
  have N2 : Hid (∀ w, Calls Tryd.prog 28 #[.string ⟨#[97, 110, 121]⟩] w fun e w' => e = .returned (.bool false) ∧ w = w') := Lib.hid (src_ValidName ⟨#[97, 110, 121]⟩ (by decide) (by decide +kernel))
  have hsz := HB2.out.size
  clear hb2 c1 c2 c3 hg hgw hs2
  go_wp2_with (first | (go_at_call 28; with_reducible refine (N1.out _).mono ?_; rintro e w' ⟨rfl, rfl⟩) | (go_at_call 28; with_reducible refine (N2.out _).mono ?_; rintro e w' ⟨rfl, rfl⟩))
  go_ret
  exact ⟨rfl, by ((repeat (first | exact Below.refl _ _ | refine Below.drew ?_ | refine Below.setCell ?_ (by first | (simp; done) | (simp; omega) | omega) _ | refine Below.alloc ?_ (by first | (simp; done) | (simp; omega) | omega) _ | refine Below.trans ?_ (Below.mono HB2.out (by first | (simp; done) | (simp; omega) | omega)))); done)⟩
end Go.Proofs.YtmaiillomoehgaaDoor
