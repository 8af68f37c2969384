/- The generator's tape: what a call of it leaves as it was, and Next's contract: some number below n. -/
import Derived.Test.YtekhggaafeonjaaDoorLib
import Derived.Test.YtekhggaafeonjaaDoorReg
import Derived.Deep.RegionHeld3
namespace Go.Proofs.YtekhggaafeonjaaDoor
open Go.RowKit
/-- all that w holds, but for block T, stands in w' as it stood -/
structure Keep (T : Nat) (w w' : World) : Prop where
  os : w'.os = w.os
  tape : w'.tape = w.tape
  output : w'.output = w.output
  size : w.heap.size ≤ w'.heap.size
  block : ∀ k, k < w.heap.size → k ≠ T → w'.heap[k]? = w.heap[k]?
theorem Keep.refl (T : Nat) (w : World) : Keep T w w := ⟨rfl, rfl, rfl, Nat.le_refl _, fun _ _ _ => rfl⟩
theorem Keep.trans {T : Nat} {a b c : World} (h : Keep T a b) (k : Keep T b c) : Keep T a c :=
  ⟨k.os.trans h.os, k.tape.trans h.tape, k.output.trans h.output, Nat.le_trans h.size k.size, fun i hi hT => (k.block i (Nat.lt_of_lt_of_le hi h.size) hT).trans (h.block i hi hT)⟩
theorem Keep.of_below {T : Nat} {w w' : World} (h : Below w.heap.size w w') : Keep T w w' := ⟨h.os, h.tape, h.output, h.size, fun k hk _ => h.block k hk⟩
theorem Keep.cell {T : Nat} {w w' : World} (h : Keep T w w') {p : Addr} (hp : p.block < w.heap.size) (hT : p.block ≠ T) : w'.cell? p = w.cell? p := World.cell?_of_block (w := w) (h.block p.block hp hT)
theorem Keep.frozen {T : Nat} {w w' : World} (h : Keep T w w') {p : Addr} (hp : p.block < w.heap.size) (hT : p.block ≠ T) : w'.frozen? p = w.frozen? p := World.frozen?_of_block (w := w) (h.block p.block hp hT)
theorem Keep.drew {T : Nat} {a w : World} (h : Keep T a w) : Keep T a w.drew := ⟨h.os, h.tape, h.output, h.size, h.block⟩
theorem Keep.alloc {T : Nat} {a w : World} (h : Keep T a w) (o : Obj) : Keep T a (w.alloc o) := h.trans (.of_below ((Below.refl _ _).alloc (Nat.le_refl _) o))
theorem Keep.setCell {T : Nat} {a w : World} (h : Keep T a w) {p : Addr} (hp : a.heap.size ≤ p.block ∨ p.block = T) (u : Value) : Keep T a (w.setCell p u) :=
  ⟨h.os, h.tape, h.output, by simpa [World.setCell] using h.size, fun k hk hT => by rw [Below.heap_setCell _ _ _ _ (by omega)]; exact h.block k hk hT⟩
theorem Keep.below {T B : Nat} {w w' : World} (h : Keep T w w') (hB : B ≤ T) (hw : B ≤ w.heap.size) : Below B w w' := ⟨h.os, h.tape, h.output, h.size, fun k hk => h.block k (by omega) (by omega)⟩
/-- a slice of whole numbers that is read -/
def Ints (w : World) (T : Nat) (lv : Value) (len : Nat) : Prop :=
  ∃ a cap, lv = .slice a len cap ∧ (len = 0 ∨ ∃ b off, a = some ⟨b, off, none⟩ ∧ b < T ∧ ∀ j, j < len → ∃ z : Int, w.cell? ⟨b, off + j, none⟩ = some (.int .i64 z) ∧ -9223372036854775808 ≤ z ∧ z ≤ 9223372036854775807)
/-- the tape lies in block T -/
def Tp (T : Nat) (w : World) : Prop :=
  ∃ (lv : Value) (len i : Nat), i ≤ len ∧ len ≤ 9223372036854775807 ∧ w.heap[T]? = some (.cells #[lv, .int .i64 i] 65 (0, 0)) ∧ Ints w T lv len
theorem Tp.lt {T : Nat} {w : World} (h : Tp T w) : T < w.heap.size := by
  obtain ⟨lv, len, i, _, _, hb, _⟩ := h
  rcases Nat.lt_or_ge T w.heap.size with g | g
  · exact g
  · rw [Array.getElem?_eq_none g] at hb; cases hb
theorem Ints.below {w w' : World} {T : Nat} {lv : Value} {len : Nat} (h : Ints w T lv len) (hk : ∀ k, k < w.heap.size → k ≠ T → w'.heap[k]? = w.heap[k]?) : Ints w' T lv len := by
  obtain ⟨a, cap, rfl, h⟩ := h
  refine ⟨a, cap, rfl, h.imp id fun ⟨b, off, ha, hT, hc⟩ => ⟨b, off, ha, hT, fun j hj => ?_⟩⟩
  obtain ⟨z, hz, h1, h2⟩ := hc j hj
  refine ⟨z, ?_, h1, h2⟩
  rw [World.cell?_of_block (w := w) (hk b (World.block_lt_of_cell? w _ hz) (Nat.ne_of_lt hT))]
  exact hz
theorem Tp.of_below {T : Nat} {w w' : World} (h : Tp T w) (hb : Below w.heap.size w w') : Tp T w' := by
  have hlt := h.lt
  obtain ⟨lv, len, i, h1, h2, h3, h4⟩ := h
  exact ⟨lv, len, i, h1, h2, (hb.block T hlt).trans h3, h4.below fun k hk _ => hb.block k hk⟩
theorem Tp.drew {T : Nat} {w : World} (h : Tp T w) : Tp T w.drew := h
theorem Tp.alloc {T : Nat} {w : World} (h : Tp T w) (o : Obj) : Tp T (w.alloc o) := h.of_below ((Below.refl _ _).alloc (Nat.le_refl _) o)
theorem Tp.setCell {T : Nat} {w : World} (h : Tp T w) {p : Addr} (hp : T < p.block) (u : Value) : Tp T (w.setCell p u) := by
  obtain ⟨lv, len, i, h1, h2, h3, h4⟩ := h
  refine ⟨lv, len, i, h1, h2, by rw [Below.heap_setCell _ _ _ _ (Nat.ne_of_lt hp)]; exact h3, ?_⟩
  obtain ⟨a, cap, rfl, h4⟩ := h4
  refine ⟨a, cap, rfl, h4.imp id fun ⟨b, off, ha, hT, hc⟩ => ⟨b, off, ha, hT, fun j hj => ?_⟩⟩
  obtain ⟨z, hz, h1, h2⟩ := hc j hj
  refine ⟨z, ?_, h1, h2⟩
  rw [World.cell?_setCell_other _ _ _ _ (by intro e; subst e; exact absurd hp (by dsimp only; omega))]
  exact hz
def NextPost (T : Nat) (n : Int) (w : World) (e : Ending) (w' : World) : Prop := ∃ c : Int, e = .returned (.int .i64 c) ∧ 0 ≤ c ∧ (c < n ∨ c = 0) ∧ Tp T w' ∧ Keep T w w'
set_option maxHeartbeats 400000 in
theorem gen_Mod (v n : Int) (hv0 : -9223372036854775808 ≤ v) (hv1 : v ≤ 9223372036854775807) (hn0 : 1 ≤ n) (hn1 : n ≤ 9223372036854775807) (w : World) :
    Calls Tryd.prog 46 #[.int .i64 v, .int .i64 n] w fun e w' => e = .returned (.int .i64 (v % 18446744073709551616 % n)) ∧ w = w' := by
  go_enter Tryd.func46, Tryd.ntmps46
  go_wp2
  go_ret
  refine ⟨?_, rfl⟩
  have e1 : IntKind.u64.wrap v = v % 18446744073709551616 := by simp [IntKind.wrap, IntKind.bits, IntKind.signed]
  have h0 : 0 ≤ v % 18446744073709551616 := by omega
  have e2 : (v % 18446744073709551616).tmod n = v % 18446744073709551616 % n := Int.tmod_eq_emod_of_nonneg h0
  have h1 : 0 ≤ v % 18446744073709551616 % n := Int.emod_nonneg _ (by omega)
  have h2 : v % 18446744073709551616 % n < n := Int.emod_lt_of_pos _ (by omega)
  have e3 : wrap64 (v % 18446744073709551616 % n) = v % 18446744073709551616 % n := IntWalk.wrap64_in _ ⟨by omega, by omega⟩
  show Ending.returned (Value.int IntKind.i64 (wrap64 ((IntKind.u64.wrap v).tmod n))) = _
  rw [e1, e2, e3]
theorem Tp.cells {T : Nat} {w : World} {lv : Value} {i : Nat} (h : w.heap[T]? = some (.cells #[lv, .int .i64 i] 65 (0, 0))) :
    w.cell? ⟨T, 0, none⟩ = some lv ∧ w.cell? ⟨T, 1, none⟩ = some (.int .i64 i) ∧ w.frozen? ⟨T, 1, none⟩ = false := by
  refine ⟨?_, ?_, ?_⟩ <;> simp [World.cell?, World.frozen?, h]
set_option maxHeartbeats 400000 in
theorem gen_Next_zero (T : Nat) (n : Int) (w : World) (h : Tp T w) (hz : n ≤ 1) :
    Calls Tryd.prog 23 #[.pointer (some ⟨T, 0, none⟩), .int .i64 n] w fun e w' => e = .returned (.int .i64 0) ∧ Tp T w' ∧ Keep T w w' := by
  have H := Lib.hid h
  have g0 : decide (n ≤ 1) = true := by simpa using hz
  clear h hz
  go_enter Tryd.func23, Tryd.ntmps23
  go_wp2
  refine wp_region_later (by kernel_rfl) (by kernel_rfl) ?_
  repeat (go_big_quiet_step ((fail)))
  refine wpQuiet_nil ?_
  intro w2 hw'
  have hb2 := ext_below hw'
  clear hw'
  obtain ⟨hc2, hf2⟩ := bcell hb2
  have hs2 := hb2.size
  try simp at hs2
  go_wp2
  go_ret
  exact ⟨rfl, H.out.of_below hb2, Keep.of_below hb2⟩
set_option maxHeartbeats 400000 in
theorem gen_Next_end (T : Nat) (n : Int) (w : World) (h : Tp T w) (hz : 2 ≤ n) {a : Option Addr} {len cap i : Nat} (hi : len ≤ i) (hb : w.heap[T]? = some (.cells #[.slice a len cap, .int .i64 i] 65 (0, 0))) :
    Calls Tryd.prog 23 #[.pointer (some ⟨T, 0, none⟩), .int .i64 n] w fun e w' => e = .returned (.int .i64 0) ∧ Tp T w' ∧ Keep T w w' := by
  have H := Lib.hid h
  obtain ⟨hc0, hc1, hf1⟩ := Tp.cells hb
  have g0 : decide (n ≤ 1) = false := by simp; omega
  have gge : decide ((len : Int) ≤ i) = true := by simp; omega
  have hTl := h.lt
  clear h hz hb
  go_enter Tryd.func23, Tryd.ntmps23
  go_wp2
  refine wp_region_later (by kernel_rfl) (by kernel_rfl) ?_
  repeat (go_big_quiet_step ((fail)))
  refine wpQuiet_nil ?_
  intro w2 hw'
  have hb2 := ext_below hw'
  clear hw'
  obtain ⟨hc2, hf2⟩ := bcell hb2
  have hs2 := hb2.size
  try simp at hs2
  go_wp2
  go_ret
  exact ⟨rfl, H.out.of_below hb2, Keep.of_below hb2⟩
set_option maxHeartbeats 400000 in
theorem gen_Next_hit (T : Nat) (n : Int) (hn1 : n ≤ 9223372036854775807) (w : World) (h : Tp T w) (hn2 : 2 ≤ n) {b off len cap i : Nat} {z : Int} (hil : i < len) (hlen : len ≤ 9223372036854775807)
    (hb : w.heap[T]? = some (.cells #[.slice (some ⟨b, off, none⟩) len cap, .int .i64 i] 65 (0, 0))) (hbT : b < T)
    (hcells : ∀ j, j < len → ∃ z : Int, w.cell? ⟨b, off + j, none⟩ = some (.int .i64 z) ∧ -9223372036854775808 ≤ z ∧ z ≤ 9223372036854775807)
    (hz : w.cell? ⟨b, off + i, none⟩ = some (.int .i64 z)) (hz0 : -9223372036854775808 ≤ z) (hz1 : z ≤ 9223372036854775807) :
    Calls Tryd.prog 23 #[.pointer (some ⟨T, 0, none⟩), .int .i64 n] w fun e w' => e = .returned (.int .i64 (z % 18446744073709551616 % n)) ∧ Tp T w' ∧ Keep T w w' := by
  have HTp := Lib.hid h
  obtain ⟨hc0, hc1, hf1⟩ := Tp.cells hb
  have HB := Lib.hid hb
  have g0 : decide (n ≤ 1) = false := by simp; omega
  have hlt : (i : Int) < len := by omega
  have gge : decide ((len : Int) ≤ i) = false := by simp; omega
  have hbl : b < w.heap.size := World.block_lt_of_cell? w _ hz
  have hTl := h.lt
  have hCs := Lib.hid hcells
  obtain ⟨r, hr⟩ : ∃ r, z % 18446744073709551616 % n = r := ⟨_, rfl⟩
  have HM := Lib.hid (fun w => gen_Mod z n hz0 hz1 (by omega) hn1 w)
  rw [hr]
  simp only [hr] at HM
  clear h hcells hb hr
  go_enter Tryd.func23, Tryd.ntmps23
  go_wp2
  refine wp_region_later (by kernel_rfl) (by kernel_rfl) ?_
  repeat (go_big_quiet_step ((fail)))
  refine wpQuiet_nil ?_
  intro w2 hw'
  have hb2 := ext_below hw'
  clear hw'
  obtain ⟨hc2, hf2⟩ := bcell hb2
  have hs2 := hb2.size
  try simp at hs2
  have hbl2 : b < w2.heap.size := by omega
  have hTl2 : T < w2.heap.size := by omega
  have hzz : w2.cell? ⟨b, off + i, none⟩ = some (.int .i64 z) := by rw [hc2 _ _ hbl]; exact hz
  go_wp2
  have hzz3 : (w2.setCell ⟨T, 1, none⟩ (.int .i64 ((i : Int) + 1))).cell? ⟨b, off + i, none⟩ = some (.int .i64 z) := by
    rw [World.cell?_setCell_other _ _ _ _ (by intro e; injection e with e1 _ _; exact Nat.ne_of_lt hbT e1.symm)]; exact hzz
  have hc0' : (w2.setCell ⟨T, 1, none⟩ (.int .i64 ((i : Int) + 1))).cell? ⟨T, 0, none⟩ = some (.slice (some ⟨b, off, none⟩) len cap) := by
    rw [World.cell?_setCell_other _ _ _ _ (by intro e; injection e with _ e1 _; exact absurd e1 (by decide))]
    rw [hc2 _ _ hTl]; exact hc0
  have hc1' : (w2.setCell ⟨T, 1, none⟩ (.int .i64 ((i : Int) + 1))).cell? ⟨T, 1, none⟩ = some (.int .i64 ((i : Int) + 1)) := by
    refine World.cell?_setCell_same _ _ _ (u := .int .i64 i) ?_
    rw [hc2 _ _ hTl]; exact hc1
  have hS : T < (w2.setCell ⟨T, 1, none⟩ (.int .i64 ((i : Int) + 1))).heap.size := by simpa [World.setCell] using hTl2
  have hS2 : b < (w2.setCell ⟨T, 1, none⟩ (.int .i64 ((i : Int) + 1))).heap.size := by simpa [World.setCell] using hbl2
  have hKs : Keep T w (w2.setCell ⟨T, 1, none⟩ (.int .i64 ((i : Int) + 1))) := Keep.setCell (T := T) (p := ⟨T, 1, none⟩) (Keep.of_below hb2) (.inr rfl) _
  have hTs : Tp T (w2.setCell ⟨T, 1, none⟩ (.int .i64 ((i : Int) + 1))) := by
    refine ⟨_, len, i + 1, by omega, hlen, ?_, (show Ints w T (.slice (some ⟨b, off, none⟩) len cap) len from ⟨_, _, rfl, .inr ⟨b, off, rfl, hbT, hCs.out⟩⟩).below hKs.block⟩
    have hb' := (hb2.block T hTl).trans HB.out
    simp only [World.setCell, Array.getElem?_modify, if_true, hb', Option.map_some]
    simp
  have HKs := Lib.hid hKs
  have HTs := Lib.hid hTs
  clear hKs hTs hzz hc2 hf2 hc0 hc1 hz
  generalize (w2.setCell ⟨T, 1, none⟩ (.int .i64 ((i : Int) + 1))) = w3 at *
  refine wp_region_later (by kernel_rfl) (by kernel_rfl) ?_
  repeat (go_big_quiet_step (((go_at_call 46; exact calls_later_same (HM.out _)))))
  refine wpQuiet_nil ?_
  intro w4 hw'
  have hb4 := ext_below hw'
  clear hw'
  obtain ⟨hc4, hf4⟩ := bcell hb4
  have hs4 := hb4.size
  try simp at hs4
  go_wp2
  go_ret
  exact ⟨rfl, HTs.out.of_below hb4, HKs.out.trans (Keep.of_below hb4)⟩
/-- what Next will return is known before it is called, as long as nothing that lies there has been turned -/
theorem gen_Next_in (T : Nat) (n : Int) (hn1 : n ≤ 9223372036854775807) (W : World) (h : Tp T W) :
    ∃ c : Int, 0 ≤ c ∧ (c < n ∨ c = 0) ∧ ∀ w, Below W.heap.size W w → Calls Tryd.prog 23 #[.pointer (some ⟨T, 0, none⟩), .int .i64 n] w fun e w' => e = .returned (.int .i64 c) ∧ Tp T w' ∧ Keep T w w' := by
  have hTp := h
  obtain ⟨lv, len, i, hi, hlen, hb, a, cap, rfl, hcell⟩ := h
  by_cases hn : n ≤ 1
  · exact ⟨0, Int.le_refl _, .inr rfl, fun w hw => gen_Next_zero T n w (hTp.of_below hw) hn⟩
  · by_cases hil : i < len
    · obtain ⟨b, off, rfl, hbT, hcells⟩ : ∃ b off, a = some ⟨b, off, none⟩ ∧ b < T ∧ ∀ j, j < len → ∃ z : Int, W.cell? ⟨b, off + j, none⟩ = some (.int .i64 z) ∧ -9223372036854775808 ≤ z ∧ z ≤ 9223372036854775807 := by
        rcases hcell with h0 | h0
        · omega
        · exact h0
      obtain ⟨z, hz, hz0, hz1⟩ := hcells i hil
      have hbl : b < W.heap.size := World.block_lt_of_cell? W _ hz
      refine ⟨z % 18446744073709551616 % n, Int.emod_nonneg _ (by omega), Or.inl (Int.emod_lt_of_pos _ (by omega)), fun w hw => ?_⟩
      exact gen_Next_hit T n hn1 w (hTp.of_below hw) (by omega) hil hlen ((hw.block T hTp.lt).trans hb) hbT
        (fun j hj => by obtain ⟨z, h1, h2⟩ := hcells j hj; exact ⟨z, (hw.cell (p := ⟨b, off + j, none⟩) hbl).trans h1, h2⟩) ((hw.cell (p := ⟨b, off + i, none⟩) hbl).trans hz) hz0 hz1
    · exact ⟨0, Int.le_refl _, .inr rfl, fun w hw => gen_Next_end T n w (hTp.of_below hw) (by omega) (by omega) ((hw.block T hTp.lt).trans hb)⟩
theorem gen_Next (T : Nat) (n : Int) (hn1 : n ≤ 9223372036854775807) (w : World) (h : Tp T w) :
    Calls Tryd.prog 23 #[.pointer (some ⟨T, 0, none⟩), .int .i64 n] w (NextPost T n w) := by
  obtain ⟨c, h0, h1, h2⟩ := gen_Next_in T n hn1 w h
  exact (h2 w (Below.refl _ _)).mono fun _ _ ⟨he, hT, hK⟩ => ⟨c, he, h0, h1, hT, hK⟩
/-- a world later than W in which the tape stands -/
def RS (T : Nat) (W w : World) : Prop := Tp T w ∧ Keep T W w
theorem RS.refl {T : Nat} {W : World} (h : Tp T W) : RS T W W := ⟨h, Keep.refl _ _⟩
theorem RS.drew {T : Nat} {W w : World} (h : RS T W w) : RS T W w.drew := ⟨h.1.drew, h.2.drew⟩
theorem RS.alloc {T : Nat} {W w : World} (h : RS T W w) (o : Obj) : RS T W (w.alloc o) := ⟨h.1.alloc o, h.2.alloc o⟩
theorem RS.step {T : Nat} {W w w' : World} (h : RS T W w) (hT : Tp T w') (hK : Keep T w w') : RS T W w' := ⟨hT, h.2.trans hK⟩
theorem RS.below {T : Nat} {W w w' : World} (h : RS T W w) (hb : Below w.heap.size w w') : RS T W w' := ⟨h.1.of_below hb, h.2.trans (Keep.of_below hb)⟩
theorem RS.setCell {T : Nat} {W w : World} (h : RS T W w) {p : Addr} (hp : W.heap.size ≤ p.block) (hT : T < W.heap.size) (u : Value) : RS T W (w.setCell p u) := ⟨h.1.setCell (by omega) u, h.2.setCell (.inl hp) u⟩
theorem RS.cell {T : Nat} {W w : World} (h : RS T W w) {b o : Nat} (hb : b < W.heap.size) (hne : ¬ b = T) : w.cell? ⟨b, o, none⟩ = W.cell? ⟨b, o, none⟩ := h.2.cell (p := ⟨b, o, none⟩) hb hne
theorem kcell {T : Nat} {W w1 : World} (hb : Keep T W w1) : (∀ b o, b < W.heap.size → ¬ b = T → w1.cell? ⟨b, o, none⟩ = W.cell? ⟨b, o, none⟩) ∧ (∀ b o, b < W.heap.size → ¬ b = T → w1.frozen? ⟨b, o, none⟩ = W.frozen? ⟨b, o, none⟩) :=
  ⟨fun b o h hT => hb.cell (p := ⟨b, o, none⟩) h hT, fun b o h hT => hb.frozen (p := ⟨b, o, none⟩) h hT⟩
end Go.Proofs.YtekhggaafeonjaaDoor
