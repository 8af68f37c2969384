/- GenL TxtL in one text -/
import Derived.Test.YtmaiillomoehgaaDoorGrpP
import Derived.Test.YtmaiillomoehgaaDoorGrpR
import Derived.Deep.RegionLaw
import Derived.Deep.AppendLies
import Derived.Deep.RegionLawGrows
import Derived.Laws.IdiomStrings
import Derived.IntWalk
set_option linter.unusedVariables false
set_option linter.unusedSimpArgs false
/- The tape of the generator, its list told. -/
namespace Go.Proofs.YtmaiillomoehgaaDoor.TL
open Go.RowKit Go.Proofs.YtmaiillomoehgaaDoor
variable {L : Value × Nat}
/-- the tape lies in block T -/
def Tp (L : Value × Nat) (T : Nat) (w : World) : Prop :=
  ∃ (i : Nat), i ≤ L.2 ∧ L.2 ≤ 9223372036854775807 ∧ w.heap[T]? = some (.cells #[L.1, .int .i64 i] 58 (0, 0)) ∧ Ints w T L.1 L.2
theorem Tp.lt {T : Nat} {w : World} (h : Tp L T w) : T < w.heap.size := by
  obtain ⟨i, _, _, hb, _⟩ := h
  rcases Nat.lt_or_ge T w.heap.size with g | g
  · exact g
  · rw [Array.getElem?_eq_none g] at hb; cases hb
theorem Tp.of_below {T : Nat} {w w' : World} (h : Tp L T w) (hb : Below w.heap.size w w') : Tp L T w' := by
  have hlt := h.lt
  obtain ⟨i, h1, h2, h3, h4⟩ := h
  exact ⟨i, h1, h2, (hb.block T hlt).trans h3, h4.below fun k hk _ => hb.block k hk⟩
theorem Tp.drew {T : Nat} {w : World} (h : Tp L T w) : Tp L T w.drew := h
theorem Tp.alloc {T : Nat} {w : World} (h : Tp L T w) (o : Obj) : Tp L T (w.alloc o) := h.of_below ((Below.refl _ _).alloc (Nat.le_refl _) o)
theorem Tp.setCell {T : Nat} {w : World} (h : Tp L T w) {p : Addr} (hp : T < p.block) (u : Value) : Tp L T (w.setCell p u) := by
  obtain ⟨i, h1, h2, h3, h4⟩ := h
  refine ⟨i, h1, h2, by rw [Below.heap_setCell _ _ _ _ (Nat.ne_of_lt hp)]; exact h3, ?_⟩
  obtain ⟨a, cap, he, h4⟩ := h4
  refine ⟨a, cap, he, h4.imp id fun ⟨b, off, ha, hT, hc⟩ => ⟨b, off, ha, hT, fun j hj => ?_⟩⟩
  obtain ⟨z, hz, h1, h2⟩ := hc j hj
  refine ⟨z, ?_, h1, h2⟩
  rw [World.cell?_setCell_other _ _ _ _ (by intro e; subst e; exact absurd hp (by dsimp only; omega))]
  exact hz
def NextPost (L : Value × Nat) (T : Nat) (n : Int) (w : World) (e : Ending) (w' : World) : Prop := ∃ c : Int, e = .returned (.int .i64 c) ∧ 0 ≤ c ∧ (c < n ∨ c = 0) ∧ Tp L T w' ∧ Keep T w w'
theorem Tp.cells {T : Nat} {w : World} {lv : Value} {i : Nat} (h : w.heap[T]? = some (.cells #[lv, .int .i64 i] 58 (0, 0))) :
    w.cell? ⟨T, 0, none⟩ = some lv ∧ w.cell? ⟨T, 1, none⟩ = some (.int .i64 i) ∧ w.frozen? ⟨T, 1, none⟩ = false := by
  refine ⟨?_, ?_, ?_⟩ <;> simp [World.cell?, World.frozen?, h]
set_option maxHeartbeats 400000 in
theorem gen_Next_zero (T : Nat) (n : Int) (w : World) (h : Tp L T w) (hz : n ≤ 1) :
    Calls Tryd.prog 14 #[.pointer (some ⟨T, 0, none⟩), .int .i64 n] w fun e w' => e = .returned (.int .i64 0) ∧ Tp L T w' ∧ Keep T w w' := by
  have H := Lib.hid h
  have g0 : decide (n ≤ 1) = true := by simpa using hz
  clear h hz
  go_enter Tryd.func14, Tryd.ntmps14
  go_wp2
  refine wp_region_later (by kernel_rfl) (by kernel_rfl) ?_
  repeat (go_big_quiet_step ((fail)))
  refine wpQuiet_nil ?_
  intro w2 hw'
  have hb2 := ext_below hw'
  clear hw'
  obtain ⟨hc2, hf2⟩ := bcell hb2
  have hs2 := hb2.size
  try simp at hs2
  go_wp2
  go_ret
  exact ⟨rfl, H.out.of_below hb2, Keep.of_below hb2⟩
set_option maxHeartbeats 400000 in
theorem gen_Next_end (T : Nat) (n : Int) (w : World) (h : Tp L T w) (hz : 2 ≤ n) {a : Option Addr} {len cap i : Nat} (hi : len ≤ i) (hb : w.heap[T]? = some (.cells #[.slice a len cap, .int .i64 i] 58 (0, 0))) :
    Calls Tryd.prog 14 #[.pointer (some ⟨T, 0, none⟩), .int .i64 n] w fun e w' => e = .returned (.int .i64 0) ∧ Tp L T w' ∧ Keep T w w' := by
  have H := Lib.hid h
  obtain ⟨hc0, hc1, hf1⟩ := Tp.cells hb
  have g0 : decide (n ≤ 1) = false := by simp; omega
  have gge : decide ((len : Int) ≤ i) = true := by simp; omega
  have hTl := h.lt
  clear h hz hb
  go_enter Tryd.func14, Tryd.ntmps14
  go_wp2
  refine wp_region_later (by kernel_rfl) (by kernel_rfl) ?_
  repeat (go_big_quiet_step ((fail)))
  refine wpQuiet_nil ?_
  intro w2 hw'
  have hb2 := ext_below hw'
  clear hw'
  obtain ⟨hc2, hf2⟩ := bcell hb2
  have hs2 := hb2.size
  try simp at hs2
  go_wp2
  go_ret
  exact ⟨rfl, H.out.of_below hb2, Keep.of_below hb2⟩
set_option maxHeartbeats 400000 in
theorem gen_Next_hit {b off len cap i : Nat} {z : Int} (T : Nat) (n : Int) (hn1 : n ≤ 9223372036854775807) (w : World) (h : Tp (.slice (some ⟨b, off, none⟩) len cap, len) T w) (hn2 : 2 ≤ n) (hil : i < len) (hlen : len ≤ 9223372036854775807)
    (hb : w.heap[T]? = some (.cells #[.slice (some ⟨b, off, none⟩) len cap, .int .i64 i] 58 (0, 0))) (hbT : b < T)
    (hcells : ∀ j, j < len → ∃ z : Int, w.cell? ⟨b, off + j, none⟩ = some (.int .i64 z) ∧ -9223372036854775808 ≤ z ∧ z ≤ 9223372036854775807)
    (hz : w.cell? ⟨b, off + i, none⟩ = some (.int .i64 z)) (hz0 : -9223372036854775808 ≤ z) (hz1 : z ≤ 9223372036854775807) :
    Calls Tryd.prog 14 #[.pointer (some ⟨T, 0, none⟩), .int .i64 n] w fun e w' => e = .returned (.int .i64 (z % 18446744073709551616 % n)) ∧ Tp (.slice (some ⟨b, off, none⟩) len cap, len) T w' ∧ Keep T w w' := by
  have HTp := Lib.hid h
  obtain ⟨hc0, hc1, hf1⟩ := Tp.cells hb
  have HB := Lib.hid hb
  have g0 : decide (n ≤ 1) = false := by simp; omega
  have hlt : (i : Int) < len := by omega
  have gge : decide ((len : Int) ≤ i) = false := by simp; omega
  have hbl : b < w.heap.size := World.block_lt_of_cell? w _ hz
  have hTl := h.lt
  have hCs := Lib.hid hcells
  obtain ⟨r, hr⟩ : ∃ r, z % 18446744073709551616 % n = r := ⟨_, rfl⟩
  have HM := Lib.hid (fun w => gen_Mod z n hz0 hz1 (by omega) hn1 w)
  rw [hr]
  simp only [hr] at HM
  clear h hcells hb hr
  go_enter Tryd.func14, Tryd.ntmps14
  go_wp2
  refine wp_region_later (by kernel_rfl) (by kernel_rfl) ?_
  repeat (go_big_quiet_step ((fail)))
  refine wpQuiet_nil ?_
  intro w2 hw'
  have hb2 := ext_below hw'
  clear hw'
  obtain ⟨hc2, hf2⟩ := bcell hb2
  have hs2 := hb2.size
  try simp at hs2
  have hbl2 : b < w2.heap.size := by omega
  have hTl2 : T < w2.heap.size := by omega
  have hzz : w2.cell? ⟨b, off + i, none⟩ = some (.int .i64 z) := by rw [hc2 _ _ hbl]; exact hz
  go_wp2
  have hzz3 : (w2.setCell ⟨T, 1, none⟩ (.int .i64 ((i : Int) + 1))).cell? ⟨b, off + i, none⟩ = some (.int .i64 z) := by
    rw [World.cell?_setCell_other _ _ _ _ (by intro e; injection e with e1 _ _; exact Nat.ne_of_lt hbT e1.symm)]; exact hzz
  have hc0' : (w2.setCell ⟨T, 1, none⟩ (.int .i64 ((i : Int) + 1))).cell? ⟨T, 0, none⟩ = some (.slice (some ⟨b, off, none⟩) len cap) := by
    rw [World.cell?_setCell_other _ _ _ _ (by intro e; injection e with _ e1 _; exact absurd e1 (by decide))]
    rw [hc2 _ _ hTl]; exact hc0
  have hc1' : (w2.setCell ⟨T, 1, none⟩ (.int .i64 ((i : Int) + 1))).cell? ⟨T, 1, none⟩ = some (.int .i64 ((i : Int) + 1)) := by
    refine World.cell?_setCell_same _ _ _ (u := .int .i64 i) ?_
    rw [hc2 _ _ hTl]; exact hc1
  have hS : T < (w2.setCell ⟨T, 1, none⟩ (.int .i64 ((i : Int) + 1))).heap.size := by simpa [World.setCell] using hTl2
  have hS2 : b < (w2.setCell ⟨T, 1, none⟩ (.int .i64 ((i : Int) + 1))).heap.size := by simpa [World.setCell] using hbl2
  have hKs : Keep T w (w2.setCell ⟨T, 1, none⟩ (.int .i64 ((i : Int) + 1))) := Keep.setCell (T := T) (p := ⟨T, 1, none⟩) (Keep.of_below hb2) (.inr rfl) _
  have hTs : Tp (.slice (some ⟨b, off, none⟩) len cap, len) T (w2.setCell ⟨T, 1, none⟩ (.int .i64 ((i : Int) + 1))) := by
    refine ⟨i + 1, by omega, hlen, ?_, (show Ints w T (.slice (some ⟨b, off, none⟩) len cap) len from ⟨_, _, rfl, .inr ⟨b, off, rfl, hbT, hCs.out⟩⟩).below hKs.block⟩
    have hb' := (hb2.block T hTl).trans HB.out
    simp only [World.setCell, Array.getElem?_modify, if_true, hb', Option.map_some]
    simp
  have HKs := Lib.hid hKs
  have HTs := Lib.hid hTs
  clear hKs hTs hzz hc2 hf2 hc0 hc1 hz
  generalize (w2.setCell ⟨T, 1, none⟩ (.int .i64 ((i : Int) + 1))) = w3 at *
  refine wp_region_later (by kernel_rfl) (by kernel_rfl) ?_
  repeat (go_big_quiet_step (((go_at_call 13; exact calls_later_same (HM.out _)))))
  refine wpQuiet_nil ?_
  intro w4 hw'
  have hb4 := ext_below hw'
  clear hw'
  obtain ⟨hc4, hf4⟩ := bcell hb4
  have hs4 := hb4.size
  try simp at hs4
  go_wp2
  go_ret
  exact ⟨rfl, HTs.out.of_below hb4, HKs.out.trans (Keep.of_below hb4)⟩
/-- what Next will return is known before it is called, as long as nothing that lies there has been turned -/
theorem gen_Next_in (T : Nat) (n : Int) (hn1 : n ≤ 9223372036854775807) (W : World) (h : Tp L T W) :
    ∃ c : Int, 0 ≤ c ∧ (c < n ∨ c = 0) ∧ ∀ w, Below W.heap.size W w → Calls Tryd.prog 14 #[.pointer (some ⟨T, 0, none⟩), .int .i64 n] w fun e w' => e = .returned (.int .i64 c) ∧ Tp L T w' ∧ Keep T w w' := by
  have hTp := h
  obtain ⟨lv, len⟩ := L
  obtain ⟨i, hi, hlen, hb, a, cap, hlv, hcell⟩ := h
  dsimp only at hi hlen hb hlv hcell
  subst hlv
  by_cases hn : n ≤ 1
  · exact ⟨0, Int.le_refl _, .inr rfl, fun w hw => gen_Next_zero T n w (hTp.of_below hw) hn⟩
  · by_cases hil : i < len
    · obtain ⟨b, off, rfl, hbT, hcells⟩ : ∃ b off, a = some ⟨b, off, none⟩ ∧ b < T ∧ ∀ j, j < len → ∃ z : Int, W.cell? ⟨b, off + j, none⟩ = some (.int .i64 z) ∧ -9223372036854775808 ≤ z ∧ z ≤ 9223372036854775807 := by
        rcases hcell with h0 | h0
        · omega
        · exact h0
      obtain ⟨z, hz, hz0, hz1⟩ := hcells i hil
      have hbl : b < W.heap.size := World.block_lt_of_cell? W _ hz
      refine ⟨z % 18446744073709551616 % n, Int.emod_nonneg _ (by omega), Or.inl (Int.emod_lt_of_pos _ (by omega)), fun w hw => ?_⟩
      exact gen_Next_hit T n hn1 w (hTp.of_below hw) (by omega) hil hlen ((hw.block T hTp.lt).trans hb) hbT
        (fun j hj => by obtain ⟨z, h1, h2⟩ := hcells j hj; exact ⟨z, (hw.cell (p := ⟨b, off + j, none⟩) hbl).trans h1, h2⟩) ((hw.cell (p := ⟨b, off + i, none⟩) hbl).trans hz) hz0 hz1
    · exact ⟨0, Int.le_refl _, .inr rfl, fun w hw => gen_Next_end T n w (hTp.of_below hw) (by omega) (by omega) ((hw.block T hTp.lt).trans hb)⟩
theorem gen_Next (T : Nat) (n : Int) (hn1 : n ≤ 9223372036854775807) (w : World) (h : Tp L T w) :
    Calls Tryd.prog 14 #[.pointer (some ⟨T, 0, none⟩), .int .i64 n] w (NextPost L T n w) := by
  obtain ⟨c, h0, h1, h2⟩ := gen_Next_in T n hn1 w h
  exact (h2 w (Below.refl _ _)).mono fun _ _ ⟨he, hT, hK⟩ => ⟨c, he, h0, h1, hT, hK⟩
/-- a world later than W in which the tape stands -/
def RS (L : Value × Nat) (T : Nat) (W w : World) : Prop := Tp L T w ∧ Keep T W w
theorem RS.refl {T : Nat} {W : World} (h : Tp L T W) : RS L T W W := ⟨h, Keep.refl _ _⟩
theorem RS.drew {T : Nat} {W w : World} (h : RS L T W w) : RS L T W w.drew := ⟨h.1.drew, h.2.drew⟩
theorem RS.alloc {T : Nat} {W w : World} (h : RS L T W w) (o : Obj) : RS L T W (w.alloc o) := ⟨h.1.alloc o, h.2.alloc o⟩
theorem RS.step {T : Nat} {W w w' : World} (h : RS L T W w) (hT : Tp L T w') (hK : Keep T w w') : RS L T W w' := ⟨hT, h.2.trans hK⟩
theorem RS.below {T : Nat} {W w w' : World} (h : RS L T W w) (hb : Below w.heap.size w w') : RS L T W w' := ⟨h.1.of_below hb, h.2.trans (Keep.of_below hb)⟩
theorem RS.setCell {T : Nat} {W w : World} (h : RS L T W w) {p : Addr} (hp : W.heap.size ≤ p.block) (hT : T < W.heap.size) (u : Value) : RS L T W (w.setCell p u) := ⟨h.1.setCell (by omega) u, h.2.setCell (.inl hp) u⟩
theorem RS.cell {T : Nat} {W w : World} (h : RS L T W w) {b o : Nat} (hb : b < W.heap.size) (hne : ¬ b = T) : w.cell? ⟨b, o, none⟩ = W.cell? ⟨b, o, none⟩ := h.2.cell (p := ⟨b, o, none⟩) hb hne
end Go.Proofs.YtmaiillomoehgaaDoor.TL
/- Walks of the generator: Text. -/
namespace Go.Proofs.YtmaiillomoehgaaDoor.TL
open Go.RowKit Go.Proofs.YtmaiillomoehgaaDoor
variable {L0 : Value × Nat}
theorem infoU8T : (Tryd.prog.info? 5).map (fun i => (i.zero, i.size, i.bytes)) = some (some (.int .u8 0), 1, 1) := by kernel_rfl
def byteVals (l : List UInt8) : List Value := l.map fun b => .int .u8 b.toNat
theorem conv_BA {w : World} {g : Nat} {L : List UInt8} (h : Box w g (byteVals L)) {n : Nat} (hn : n ≤ L.length) (cap : Nat) :
    (convert 59 9 (.slice (some ⟨g, 0, none⟩) n cap)).run Tryd.prog w = .ok (.string ⟨(L.take n).toArray⟩) w := by
  have hl : (L.take n).length = n := by simp; omega
  have := run_convert_bytes_back (P := Tryd.prog) w 59 9 5 ⟨g, 0, none⟩ cap (L.take n) Tryd.underlying59 Tryd.underlying5 Tryd.underlying9 (fun j hj => by
    rw [show (⟨g, 0, none⟩ : Addr).add j = ⟨g, j, none⟩ by simp only [Addr.add, Nat.zero_add]; split <;> simp_all]
    refine h.cell j _ ?_
    have hjL : j < L.length := by rw [hl] at hj; omega
    simp only [byteVals, List.getElem?_map, List.getElem?_eq_getElem hjL, Option.map_some, List.getElem_take])
  rw [hl] at this
  exact this
theorem Box.marked (w : World) (l : List Value) (t : TypeId) (m : Nat) (hm : l.length ≤ m) : Box (w.alloc (.cells l.toArray t (m, m + 1))) w.heap.size l :=
  ⟨by simp, fun j v h => by rw [World.cell?_alloc_mark]; simpa using h, fun j v h => by
    have hj : j < l.length := by
      rcases Nat.lt_or_ge j l.length with h1 | h1
      · exact h1
      · rw [List.getElem?_eq_none h1] at h; cases h
    rw [World.frozen?_alloc_mark]; simp; omega⟩
theorem bytesRow_list (s : ByteArray) (c : Nat) : bytesRow s c = (byteVals (s.data.toList ++ List.replicate (c - s.size) 0)).toArray := by
  apply Array.ext'
  simp [bytesRow, byteVals]
theorem byteVals_set (l : List UInt8) (i : Nat) (x : UInt8) : (byteVals l).set i (.int .u8 x.toNat) = byteVals (l.set i x) := by
  simp [byteVals, List.map_set]
theorem byteVals_len (l : List UInt8) : (byteVals l).length = l.length := by simp [byteVals]
theorem setCells_heap (b : Nat) : ∀ (vs : List Value) (o : Nat) (w : World) (k : Nat), k ≠ b → (w.setCells b o vs).heap[k]? = w.heap[k]?
  | [], _, _, _, _ => rfl
  | v :: vs, o, w, k, h => by
    rw [World.setCells, setCells_heap b vs (o + 1) _ k h, Below.heap_setCell _ _ _ _ (by dsimp only; exact h)]
theorem setCells_rest (b : Nat) : ∀ (vs : List Value) (o : Nat) (w : World), (w.setCells b o vs).os = w.os ∧ (w.setCells b o vs).tape = w.tape ∧ (w.setCells b o vs).output = w.output ∧ (w.setCells b o vs).heap.size = w.heap.size
  | [], _, _ => ⟨rfl, rfl, rfl, rfl⟩
  | v :: vs, o, w => by
    obtain ⟨h1, h2, h3, h4⟩ := setCells_rest b vs (o + 1) (w.setCell ⟨b, o, none⟩ v)
    rw [World.setCells]
    exact ⟨h1, h2, h3, by rw [h4]; simp [World.setCell]⟩
theorem RS.setCells {T : Nat} {W w : World} (h : RS L0 T W w) {b : Nat} (hb : W.heap.size ≤ b) (hT : T < W.heap.size) : ∀ (vs : List Value) (o : Nat), RS L0 T W (w.setCells b o vs) := by
  intro vs
  induction vs generalizing w with
  | nil => intro o; exact h
  | cons v vs ih => intro o; rw [World.setCells]; exact ih (h.setCell (p := ⟨b, o, none⟩) hb hT v) (o + 1)
theorem Box.setCells {b : Nat} : ∀ (vs : List Value) (o : Nat) (w : World) (us : List Value), Box w b us → o + vs.length ≤ us.length → ∃ us' : List Value, us'.length = us.length ∧ Box (w.setCells b o vs) b us' ∧ us' = us.take o ++ vs ++ us.drop (o + vs.length)
  | [], o, w, us, h, _ => ⟨us, rfl, h, by simp⟩
  | v :: vs, o, w, us, h, hl => by
    simp only [List.length_cons] at hl
    obtain ⟨us', h1, h2, h3⟩ := Box.setCells vs (o + 1) _ _ (h.set o (by omega) v) (by simp; omega)
    refine ⟨us', by simpa using h1, by rw [World.setCells]; exact h2, ?_⟩
    rw [h3]
    rw [List.take_set, List.drop_set_of_lt (by omega), List.take_succ_eq_append_getElem (by omega), List.set_append_right _ _ (by rw [List.length_take]; omega)]
    simp only [List.length_take, List.length_cons]
    rw [show o - min o us.length = 0 by omega, List.set_cons_zero, show o + 1 + vs.length = o + (vs.length + 1) by omega]
    simp
theorem grown0 {w w' : World} (h : w.grownBy w' none) {B : Nat} (hB : B ≤ w.heap.size) : Below B w w' := ⟨h.os, h.tape, h.output, h.size, fun k hk => h.block k (by omega) (by simp)⟩
theorem spare_of {w : World} {g : Nat} {L news : List UInt8} {i : Nat} (h : Box w g (byteVals L)) (hl : i + (byteVals news).length ≤ L.length) : ∀ j, j < (byteVals news).length → (w.cell? ⟨g, 0 + i * 1 + j, none⟩).isSome = true ∧ w.frozen? ⟨g, 0 + i * 1 + j, none⟩ = false := by
  intro j hj
  rw [Nat.mul_one, Nat.zero_add]
  have hij : i + j < L.length := by omega
  have hcl : (byteVals L)[i + j]? = some (.int .u8 L[i + j].toNat) := by rw [byteVals, List.getElem?_map, List.getElem?_eq_getElem hij]; rfl
  exact ⟨by rw [h.cell (i + j) _ hcl]; rfl, h.froz (i + j) _ hcl⟩
theorem olds_of {w : World} {g : Nat} {L : List UInt8} {i : Nat} (h : Box w g (byteVals L)) : ∀ (j : Nat) (u : Value), (byteVals (L.take i))[j]? = some u → w.cell? ((⟨g, 0, none⟩ : Addr).add j) = some u := by
  intro j u hj
  rw [show (⟨g, 0, none⟩ : Addr).add j = ⟨g, j, none⟩ by simp only [Addr.add, Nat.zero_add]; split <;> simp_all]
  refine h.cell j u ?_
  rw [byteVals, List.map_take, List.getElem?_take] at hj
  split at hj
  · exact hj
  · cases hj
set_option maxRecDepth 100000 in
set_option maxHeartbeats 4000000 in
theorem gen_Text (T : Nat) (s : ByteArray) (hs : s.size ≤ 1099511627776) (w : World) (h : Tp L0 T w) :
    Calls Tryd.prog 12 #[.pointer (some ⟨T, 0, none⟩), .string s] w fun e w' => ∃ t : ByteArray, e = .returned (.string t) ∧ t.size ≤ s.size + 1 ∧ Tp L0 T w' ∧ Keep T w w' := by
  have hconv := fun w => run_bytes_of_string (P := Tryd.prog) w 9 59 5 s Tryd.underlying9 Tryd.underlying59 Tryd.underlying5
  have H := Lib.hid h
  clear h
  go_enter Tryd.func12, Tryd.ntmps12
  go_wp2_with fail
  have hlt := H.out.lt
  have hge := grownCap_ge w s.size 0 5
  have hgm := grownCap_le_maxLen w s.size 0 5 (by unfold maxLen; omega)
  have hgT : ¬ w.heap.size = T := by omega
  obtain ⟨W1, hW1⟩ : ∃ W, W = (w.alloc (Obj.cells (bytesRow s (grownCap w s.size 0 5)) 5 ((bytesRow s (grownCap w s.size 0 5)).size, (bytesRow s (grownCap w s.size 0 5)).size + 1))).drew := ⟨_, rfl⟩
  rw [← hW1]
  have HR1 : Hid (RS L0 T w W1) := Lib.hid (by rw [hW1]; exact ((RS.refl H.out).alloc _).drew)
  have hbx : ∃ L0 : List UInt8, L0.length = grownCap w s.size 0 5 ∧ Box W1 w.heap.size (byteVals L0) := by
    refine ⟨s.data.toList ++ List.replicate (grownCap w s.size 0 5 - s.size) 0, by rw [List.length_append, List.length_replicate, ← size_len]; omega, ?_⟩
    rw [hW1, bytesRow_list]
    refine (Box.marked w _ _ _ ?_).drew
    simp
  obtain ⟨L, hL, hbox⟩ := hbx
  have HBX1 := Lib.hid hbox
  clear hW1 hbox hconv
  generalize grownCap w s.size 0 5 = c0 at *
  refine (gen_Next T s.size (by omega) _ HR1.out.1).mono ?_
  rintro e w2 ⟨i, rfl, hi0, hi1, hT2, hK2⟩
  have HR2 := Lib.hid (HR1.out.step hT2 hK2)
  have HBX2 := Lib.hid (HBX1.out.keep hK2 hgT)
  clear hT2 hK2 HBX1 HR1
  obtain ⟨i, rfl⟩ := Int.eq_ofNat_of_zero_le hi0
  go_wp2_with fail
  obtain ⟨W3, hW3⟩ : ∃ W, W = w2.alloc (.cells #[.int .u8 32, .int .u8 44, .int .u8 61, .int .u8 45, .int .u8 48, .int .u8 57, .int .u8 97, .int .u8 35, .int .u8 10, .int .u8 47, .int .u8 46, .int .u8 0, .int .u8 128, .int .u8 58, .int .u8 62] 5) := ⟨_, rfl⟩
  rw [← hW3]
  have HR3 : Hid (RS L0 T w W3) := Lib.hid (by rw [hW3]; exact HR2.out.alloc _)
  have HBX3 : Hid (Box W3 w.heap.size (byteVals L)) := Lib.hid (by rw [hW3]; exact HBX2.out.alloc _)
  have HBT : Hid (Box W3 w2.heap.size (byteVals [32, 44, 61, 45, 48, 57, 97, 35, 10, 47, 46, 0, 128, 58, 62])) := Lib.hid (by rw [hW3]; exact Box.new w2 _ _)
  have hT2n : ¬ w2.heap.size = T := by have := HR2.out.1.lt; omega
  clear hW3 HR2 HBX2
  refine (gen_Next T 15 (by decide) _ HR3.out.1).mono ?_
  rintro e w4 ⟨d, rfl, hd0, hd1, hT4, hK4⟩
  have HR4 := Lib.hid (HR3.out.step hT4 hK4)
  have HBX4 := Lib.hid (HBX3.out.keep hK4 hgT)
  obtain ⟨d, rfl⟩ := Int.eq_ofNat_of_zero_le hd0
  have hxd : ∃ x : UInt8, w4.cell? ⟨w2.heap.size, d, none⟩ = some (.int .u8 x.toNat) := by
    obtain ⟨x, hx⟩ : ∃ x : UInt8, ([32, 44, 61, 45, 48, 57, 97, 35, 10, 47, 46, 0, 128, 58, 62] : List UInt8)[d]? = some x := ⟨_, List.getElem?_eq_getElem (by simp; omega)⟩
    exact ⟨x, (HBT.out.keep hK4 hT2n).cell d _ (by rw [byteVals, List.getElem?_map, hx]; rfl)⟩
  obtain ⟨x, hx⟩ := hxd
  have hdb : (0 : Int) ≤ (d : Int) := by omega
  have hd15 : (d : Int) < 15 := by omega
  clear hT4 hK4 HR3 HBX3 HBT hd1 hd0
  go_wp2_with fail
  refine (gen_Next T 5 (by decide) _ HR4.out.1).mono ?_
  rintro e w5 ⟨k, rfl, hk0, hk1, hT5, hK5⟩
  have HR5 := Lib.hid (HR4.out.step hT5 hK5)
  have HBX5 := Lib.hid (HBX4.out.keep hK5 hgT)
  have hi1' : i < s.size ∨ i = 0 := by omega
  have hlen : L.length = c0 := hL
  clear hT5 hK5 HR4 HBX4 hx hdb hd15 hi0 hi1 hT2n
  have fin : ∀ (w' : World) (L' : List UInt8) (n : Nat), n ≤ s.size + 1 → RS L0 T w w' → ∃ t : ByteArray, Ending.returned (.string ⟨(L'.take n).toArray⟩) = .returned (.string t) ∧ t.size ≤ s.size + 1 ∧ Tp L0 T w' ∧ Keep T w w' := fun w' L' n hn hr =>
    ⟨_, rfl, by rw [size_list, List.length_take]; omega, hr.1, hr.2⟩
  have FIN := Lib.hid fin
  clear fin hL
  have h5 : k = 0 ∨ k = 1 ∨ k = 2 ∨ k = 3 ∨ k = 4 := by omega
  clear hk0 hk1
  rcases h5 with rfl | rfl | rfl | rfl | rfl
  · -- a byte is changed
    by_cases h0 : s.size = 0
    · have hcv := conv_BA HBX5.out (n := 0) (by omega) c0
      go_wp2
      go_ret
      exact FIN.out _ L 0 (by omega) HR5.out
    · have hpos : 0 < s.size := by omega
      have hiL : i < L.length := by omega
      have c1 := HBX5.out.cell i (.int .u8 L[i].toNat) (by rw [byteVals, List.getElem?_map, List.getElem?_eq_getElem hiL]; rfl)
      have f1 := HBX5.out.froz i (.int .u8 L[i].toNat) (by rw [byteVals, List.getElem?_map, List.getElem?_eq_getElem hiL]; rfl)
      have hset := HBX5.out.set i (by rw [byteVals_len]; exact hiL) (.int .u8 x.toNat)
      rw [byteVals_set] at hset
      have hcv := conv_BA hset (n := s.size) (by simp; omega) c0
      have HR6 := Lib.hid (HR5.out.setCell (p := ⟨w.heap.size, i, none⟩) (Nat.le_refl _) hlt (.int .u8 x.toNat))
      have hiI : (i : Int) < (s.size : Int) := by omega
      clear hset h0 HBX5
      go_wp2
      go_ret
      exact FIN.out _ _ _ (by omega) HR6.out
  · -- a byte is taken out
    by_cases h0 : s.size = 0
    · have hcv := conv_BA HBX5.out (n := 0) (by omega) c0
      go_wp2
      go_ret
      exact FIN.out _ L 0 (by omega) HR5.out
    · have hpos : 0 < s.size := by omega
      have hiI : (i : Int) < (s.size : Int) := by omega
      have hiS : i < s.size := by omega
      obtain ⟨i0, hi0, hz0, hz1, hz2⟩ := info_parts infoU8T
      have q1 : IntKind.i64.wrap ((i : Int) + 1) = (i : Int) + 1 := IntWalk.i64_in _ ⟨by omega, by omega⟩
      have q2 : (0 : Int) ≤ (i : Int) + 1 := by omega
      have q3 : ((i : Int) + 1).toNat = i + 1 := by omega
      have q4 : (i : Int) + 1 ≤ (s.size : Int) := by omega
      have q5 : (i : Int) ≤ (c0 : Int) := by omega
      have q6 : (s.size : Int) ≤ (c0 : Int) := by omega
      clear h0
      obtain ⟨nw, hnw⟩ : ∃ nw : List UInt8, nw = (L.drop (i + 1)).take (s.size - (i + 1)) := ⟨_, rfl⟩
      have hnl : nw.length = s.size - (i + 1) := by rw [hnw]; simp; omega
      have hnat : ∀ j, j < nw.length → nw[j]? = L[i + 1 + j]? := fun j hj => by rw [hnw, List.getElem?_take_of_lt (by omega), List.getElem?_drop]
      have s1 : Hid ((byteVals nw).length = (s.size - (i + 1)) * 1) := Lib.hid (by rw [byteVals_len, hnl, Nat.mul_one])
      have s2 : Hid (∀ u ∈ byteVals nw, u.oneCell' = true) := Lib.hid (by intro u hu; obtain ⟨x, _, rfl⟩ := List.mem_map.1 hu; rfl)
      have s3 : Hid (∀ j, j < (byteVals nw).length → (w5.drew.cell? ⟨w.heap.size, 0 + i * 1 + j, none⟩).isSome = true ∧ w5.drew.frozen? ⟨w.heap.size, 0 + i * 1 + j, none⟩ = false) := Lib.hid (by
        intro j hj
        rw [byteVals_len, hnl] at hj
        rw [Nat.mul_one, Nat.zero_add]
        have hij : i + j < L.length := by omega
        have hcl : (byteVals L)[i + j]? = some (.int .u8 L[i + j].toNat) := by rw [byteVals, List.getElem?_map, List.getElem?_eq_getElem hij]; rfl
        refine ⟨?_, HBX5.out.froz (i + j) _ hcl⟩
        show (w5.cell? _).isSome = true
        rw [HBX5.out.cell (i + j) _ hcl]; rfl)
      obtain ⟨us', hul, hbu, hus⟩ := Box.setCells (b := w.heap.size) (byteVals nw) i w5.drew (byteVals L) HBX5.out.drew (by rw [byteVals_len, byteVals_len, hnl]; omega)
      have hbv : us' = byteVals (L.take i ++ nw ++ L.drop (i + nw.length)) := by rw [hus, byteVals_len]; simp [byteVals, List.map_take, List.map_drop]
      rw [hbv] at hbu
      have hcv := conv_BA hbu (n := i + (s.size - (i + 1))) (by simp; omega) c0
      have HR6 := Lib.hid (HR5.out.drew.setCells (b := w.heap.size) (Nat.le_refl _) hlt (byteVals nw) i)
      have e0 : 0 + i * 1 = i := by omega
      obtain ⟨A, hA, hnews⟩ : ∃ A : Addr, (if c0 = i + 1 then some (⟨w.heap.size, 0, none⟩ : Addr) else some ⟨w.heap.size, i + 1, none⟩) = some A ∧ Hid (∀ j u, (byteVals nw)[j]? = some u → w5.drew.cell? (A.add j) = some u) := by
        by_cases hcap : c0 = i + 1
        · refine ⟨⟨w.heap.size, 0, none⟩, by simp [hcap], Lib.hid fun j u hu => ?_⟩
          have h0 : nw.length = 0 := by rw [hnl]; omega
          rw [List.length_eq_zero_iff.1 h0] at hu
          simp [byteVals] at hu
        · refine ⟨⟨w.heap.size, i + 1, none⟩, by simp [hcap], Lib.hid fun j u hj => ?_⟩
          have hjl : j < nw.length := by
            rcases Nat.lt_or_ge j nw.length with h1 | h1
            · exact h1
            · rw [List.getElem?_eq_none (by rw [byteVals_len]; exact h1)] at hj; cases hj
          rw [Addr.add_lit]
          refine HBX5.out.cell (i + 1 + j) u ?_
          rw [byteVals, List.getElem?_map, ← hnat j hjl, ← List.getElem?_map]
          exact hj
      clear hnw hnat hbu hus hul hbv
      go_wp2_with fail
      go_region_law (refine step_append_room rfl (.tmp 37) (.tmp 41) 59 rfl 5 i0 1 Tryd.underlying59 hi0 hz1 w.heap.size 0 i c0 (by simp [Act.eval, Act.put]) A (s.size - (i + 1)) (c0 - (i + 1)) (byteVals nw) (by simp [Act.eval, Act.put]) s1.out hnews.out s2.out (by omega) s3.out ?_)
      all_goals
        go_wp2
        go_ret
        exact FIN.out _ _ _ (by omega) HR6.out
  · -- a byte is put in
    by_cases h0 : s.size = 0
    · have hz : i = 0 := by omega
      subst hz
      obtain ⟨i0, hi0, hz0, hz1, hz2⟩ := info_parts infoU8T
      have q6 : (0 : Int) ≤ (c0 : Int) := by omega
      have hAD : (if c0 = 0 then some (⟨w.heap.size, 0, none⟩ : Addr) else some ⟨w.heap.size, 0, none⟩) = some ⟨w.heap.size, 0, none⟩ := by split <;> rfl
      by_cases hroom : 1 ≤ c0
      · go_wp2_with fail
        go_region_law? ((first | (refine step_append_room rfl (.tmp 49) (.tmp 52) 59 rfl 5 i0 1 Tryd.underlying59 hi0 hz1 w5.heap.size 0 1 1 (by simp [Act.eval, Act.put]) ⟨w.heap.size, 0, none⟩ 0 c0 [] (by simp [Act.eval, Act.put]) rfl (by intro j u hj; simp at hj) (by intro u hu; simp at hu) (by omega) (by intro j hj; simp at hj) ?_) | (refine step_append_room rfl (.tmp 47) (.tmp 53) 59 rfl 5 i0 1 Tryd.underlying59 hi0 hz1 w.heap.size 0 0 c0 (by simp [Act.eval, Act.put]) ⟨w5.heap.size, 0, none⟩ 1 1 [.int .u8 x.toNat] (by simp [Act.eval, Act.put]) rfl (by intro j u hj; exact World.news_of_block (by first | exact heap_alloc_new w5 _ | exact heap_alloc_new w5.drew _) j u hj) (by intro u hu; simp at hu; subst hu; rfl) (by omega) (spare_of (news := [x]) (HBX5.out.below (by have hb0 : Below w5.heap.size w5 (w5.alloc (Obj.cells #[Value.int IntKind.u8 x.toNat] 5)).drew := (by ((repeat (first | exact Below.refl _ _ | refine Below.drew ?_ | refine Below.setCell ?_ (by first | (simp; done) | (simp; omega) | omega) _ | refine Below.alloc ?_ (by first | (simp; done) | (simp; omega) | omega) _)); done)); exact hb0) HBX5.out.lt) (by rw [byteVals_len]; simp only [List.length_singleton]; omega)) ?_)))
        all_goals
          have hb0 : Below w5.heap.size w5 (w5.alloc (Obj.cells #[Value.int IntKind.u8 x.toNat] 5)).drew := (by ((repeat (first | exact Below.refl _ _ | refine Below.drew ?_ | refine Below.setCell ?_ (by first | (simp; done) | (simp; omega) | omega) _ | refine Below.alloc ?_ (by first | (simp; done) | (simp; omega) | omega) _)); done))
          obtain ⟨us', hul, hbu, hus⟩ := Box.setCells (b := w.heap.size) (byteVals [x]) 0 _ (byteVals L) (HBX5.out.below hb0 HBX5.out.lt) (by rw [byteVals_len, byteVals_len, List.length_singleton]; omega)
          have hbv : us' = byteVals (L.take 0 ++ [x] ++ L.drop (0 + [x].length)) := by rw [hus, byteVals_len]; simp [byteVals, List.map_drop]
          rw [hbv] at hbu
          have hcv : Sem.run Tryd.prog (convert 59 9 (.slice (some ⟨w.heap.size, 0, none⟩) 1 c0)) (World.setCells ((w5.alloc (Obj.cells #[Value.int IntKind.u8 x.toNat] 5)).drew.setCells w5.heap.size 1 []) w.heap.size 0 [.int .u8 x.toNat]) = _ := conv_BA hbu (n := 1) (by simp) c0
          have HR6 := Lib.hid ((HR5.out.below hb0).setCells (b := w.heap.size) (Nat.le_refl _) hlt (byteVals [x]) 0)
          clear hbv hus hul hbu hb0
          go_wp2
          go_ret
          refine ⟨_, rfl, ?_, HR6.out.1, HR6.out.2⟩
          rw [size_list]
          simp
      · have hc0 : c0 = 0 := by omega
        subst hc0
        go_wp2_with fail
        go_region_law? ((first | (refine step_append_room rfl (.tmp 49) (.tmp 52) 59 rfl 5 i0 1 Tryd.underlying59 hi0 hz1 w5.heap.size 0 1 1 (by simp [Act.eval, Act.put]) ⟨w.heap.size, 0, none⟩ 0 0 [] (by simp [Act.eval, Act.put]) rfl (by intro j u hj; simp at hj) (by intro u hu; simp at hu) (by omega) (by intro j hj; simp at hj) ?_) | (refine step_append_grows rfl (.tmp 47) (.tmp 53) 59 rfl 5 i0 (.int .u8 0) 1 1 Tryd.underlying59 hi0 hz0 hz1 hz2 rfl (by decide) (some ⟨w.heap.size, 0, none⟩) 0 0 [] (by simp [Act.eval, Act.put]) (by intro h; cases h) rfl (by intro b hb j u hj; simp at hj) ⟨w5.heap.size, 0, none⟩ 1 1 [.int .u8 x.toNat] (by simp [Act.eval, Act.put]) rfl (by intro j u hj; exact World.news_of_block (by first | exact heap_alloc_new w5 _ | exact heap_alloc_new w5.drew _) j u hj) (by intro u hu; simp at hu; subst hu; rfl) (by omega) (by unfold maxLen; omega) (by omega) ?_; intro v7 w7 hown7 hgrow7; have HO7 := Lib.hid hown7; have HB7 : Hid (Below w5.heap.size w5 w7) := Lib.hid (by refine Below.trans ?_ (grown0 hgrow7 (by simp [World.setCells])) <;> simp only [World.setCells] <;> ((repeat (first | exact Below.refl _ _ | refine Below.drew ?_ | refine Below.setCell ?_ (by first | (simp; done) | (simp; omega) | omega) _ | refine Below.alloc ?_ (by first | (simp; done) | (simp; omega) | omega) _)); done)); clear hown7 hgrow7)))
        all_goals
          have hcv := conv_own_string (P := Tryd.prog) (src := 59) (dst := 9) (l := [x]) Tryd.underlying59 Tryd.underlying5 Tryd.underlying9 (by simpa [Lib.byteCells] using HO7.out)
          have HR7 := Lib.hid (HR5.out.below HB7.out)
          go_wp2
          go_ret
          exact ⟨_, rfl, by rw [size_list]; simp, HR7.out.1, HR7.out.2⟩
    · have hpos : 0 < s.size := by omega
      have hiS : i < s.size := by omega
      obtain ⟨i0, hi0, hz0, hz1, hz2⟩ := info_parts infoU8T
      have q4 : (i : Int) ≤ (s.size : Int) := by omega
      have q5 : (i : Int) ≤ (c0 : Int) := by omega
      have q6 : (s.size : Int) ≤ (c0 : Int) := by omega
      have q7 : ¬ c0 = i := by omega
      obtain ⟨nw, hnw⟩ : ∃ nw : List UInt8, nw = (L.drop i).take (s.size - i) := ⟨_, rfl⟩
      have hnl : nw.length = s.size - i := by rw [hnw]; simp; omega
      have hnat : ∀ j, j < nw.length → nw[j]? = L[i + j]? := fun j hj => by rw [hnw, List.getElem?_take_of_lt (by omega), List.getElem?_drop]
      have s1 : Hid ((byteVals nw).length = (s.size - i) * 1) := Lib.hid (by rw [byteVals_len, hnl, Nat.mul_one])
      have s2 : Hid (∀ u ∈ byteVals nw, u.oneCell' = true) := Lib.hid (by intro u hu; obtain ⟨x, _, rfl⟩ := List.mem_map.1 hu; rfl)
      obtain ⟨A, hA⟩ : ∃ A : Addr, A = ⟨w.heap.size, i, none⟩ := ⟨_, rfl⟩
      have hnews : Hid (∀ W', Below w5.heap.size w5 W' → ∀ j u, (byteVals nw)[j]? = some u → W'.cell? (A.add j) = some u) := Lib.hid (fun W' hb j u hj => by
        have hjl : j < nw.length := by
          rcases Nat.lt_or_ge j nw.length with h1 | h1
          · exact h1
          · rw [List.getElem?_eq_none (by rw [byteVals_len]; exact h1)] at hj; cases hj
        rw [hA, Addr.add_lit]
        refine (HBX5.out.below hb HBX5.out.lt).cell (i + j) u ?_
        rw [byteVals, List.getElem?_map, ← hnat j hjl, ← List.getElem?_map]
        exact hj)
      subst hA
      clear hnw hnat h0
      by_cases hroom : s.size + 1 ≤ c0
      · go_wp2_with fail
        go_region_law? ((first | (refine step_append_grows rfl (.tmp 49) (.tmp 52) 59 rfl 5 i0 (.int .u8 0) 1 1 Tryd.underlying59 hi0 hz0 hz1 hz2 rfl (by decide) (some ⟨w5.heap.size, 0, none⟩) 1 1 [.int .u8 x.toNat] (by simp [Act.eval, Act.put]) (by intro h; cases h) rfl (by intro b hb j u hj; cases hb; exact World.news_of_block (by first | exact heap_alloc_new w5 _ | exact heap_alloc_new w5.drew _) j u hj) ⟨w.heap.size, i, none⟩ (s.size - i) (c0 - i) (byteVals nw) (by simp [Act.eval, Act.put]) s1.out (hnews.out _ (by ((repeat (first | exact Below.refl _ _ | refine Below.drew ?_ | refine Below.setCell ?_ (by first | (simp; done) | (simp; omega) | omega) _ | refine Below.alloc ?_ (by first | (simp; done) | (simp; omega) | omega) _)); done))) s2.out (by omega) (by unfold maxLen; omega) (by omega) ?_; intro v1 w6 hown6 hgrow6; have hb6 : Below w5.heap.size w5 w6 := (by refine Below.trans ?_ (grown0 hgrow6 (by simp)) <;> ((repeat (first | exact Below.refl _ _ | refine Below.drew ?_ | refine Below.setCell ?_ (by first | (simp; done) | (simp; omega) | omega) _ | refine Below.alloc ?_ (by first | (simp; done) | (simp; omega) | omega) _)); done)); obtain ⟨g6, cap6, rfl, hg6a, hg6b⟩ := hown6.form (by omega); have HO6 := Lib.hid hown6; have HB6 := Lib.hid hb6; clear hown6 hgrow6 hb6) | (refine step_append_room rfl (.tmp 47) (.tmp 53) 59 rfl 5 i0 1 Tryd.underlying59 hi0 hz1 w.heap.size 0 i c0 (by simp [Act.eval, Act.put]) ⟨g6, 0, none⟩ (1 + (s.size - i)) cap6 (byteVals (x :: nw)) (by simp [Act.eval, Act.put]) (by rw [byteVals_len, List.length_cons, hnl]; omega) (by intro j u hj; exact HO6.out.cells (g := g6) rfl j u hj) (by intro u hu; obtain ⟨y, _, rfl⟩ := List.mem_map.1 hu; rfl) (by omega) (spare_of (HBX5.out.below HB6.out HBX5.out.lt) (by rw [byteVals_len, List.length_cons, hnl]; omega)) ?_)))
        all_goals
          obtain ⟨us', hul, hbu, hus⟩ := Box.setCells (b := w.heap.size) (byteVals (x :: nw)) i w6 (byteVals L) (HBX5.out.below HB6.out HBX5.out.lt) (by rw [byteVals_len, byteVals_len, List.length_cons, hnl]; omega)
          have hbv : us' = byteVals (L.take i ++ (x :: nw) ++ L.drop (i + (x :: nw).length)) := by rw [hus, byteVals_len]; simp [byteVals, List.map_take, List.map_drop]
          rw [hbv] at hbu
          have hcv := conv_BA hbu (n := i + (1 + (s.size - i))) (by simp; omega) c0
          have HR6 := Lib.hid ((HR5.out.below HB6.out).setCells (b := w.heap.size) (Nat.le_refl _) hlt (byteVals (x :: nw)) i)
          clear hbv hus hul hbu
          go_wp2
          go_ret
          exact FIN.out _ _ _ (by omega) HR6.out
      · go_wp2_with fail
        go_region_law? ((first | (refine step_append_grows rfl (.tmp 49) (.tmp 52) 59 rfl 5 i0 (.int .u8 0) 1 1 Tryd.underlying59 hi0 hz0 hz1 hz2 rfl (by decide) (some ⟨w5.heap.size, 0, none⟩) 1 1 [.int .u8 x.toNat] (by simp [Act.eval, Act.put]) (by intro h; cases h) rfl (by intro b hb j u hj; cases hb; exact World.news_of_block (by first | exact heap_alloc_new w5 _ | exact heap_alloc_new w5.drew _) j u hj) ⟨w.heap.size, i, none⟩ (s.size - i) (c0 - i) (byteVals nw) (by simp [Act.eval, Act.put]) s1.out (hnews.out _ (by ((repeat (first | exact Below.refl _ _ | refine Below.drew ?_ | refine Below.setCell ?_ (by first | (simp; done) | (simp; omega) | omega) _ | refine Below.alloc ?_ (by first | (simp; done) | (simp; omega) | omega) _)); done))) s2.out (by omega) (by unfold maxLen; omega) (by omega) ?_; intro v1 w6 hown6 hgrow6; have hb6 : Below w5.heap.size w5 w6 := (by refine Below.trans ?_ (grown0 hgrow6 (by simp)) <;> ((repeat (first | exact Below.refl _ _ | refine Below.drew ?_ | refine Below.setCell ?_ (by first | (simp; done) | (simp; omega) | omega) _ | refine Below.alloc ?_ (by first | (simp; done) | (simp; omega) | omega) _)); done)); obtain ⟨g6, cap6, rfl, hg6a, hg6b⟩ := hown6.form (by omega); have HO6 := Lib.hid hown6; have HB6 := Lib.hid hb6; clear hown6 hgrow6 hb6) | (refine step_append_grows rfl (.tmp 47) (.tmp 53) 59 rfl 5 i0 (.int .u8 0) 1 1 Tryd.underlying59 hi0 hz0 hz1 hz2 rfl (by decide) (some ⟨w.heap.size, 0, none⟩) i c0 (byteVals (L.take i)) (by simp [Act.eval, Act.put]) (by intro h; cases h) (by rw [byteVals_len, List.length_take]; omega) (by intro b hb j u hj; cases hb; exact olds_of (HBX5.out.below HB6.out HBX5.out.lt) j u hj) ⟨g6, 0, none⟩ (1 + (s.size - i)) cap6 (byteVals (x :: nw)) (by simp [Act.eval, Act.put]) (by rw [byteVals_len, List.length_cons, hnl]; omega) (by intro j u hj; exact HO6.out.cells (g := g6) rfl j u hj) (by intro u hu; obtain ⟨y, _, rfl⟩ := List.mem_map.1 hu; rfl) (by omega) (by unfold maxLen; omega) (by omega) ?_; intro v7 w7 hown7 hgrow7; have HO7 := Lib.hid hown7; have HB7 : Hid (Below w6.heap.size w6 w7) := Lib.hid (grown0 hgrow7 (Nat.le_refl _)); clear hown7 hgrow7)))
        all_goals
          have hl7 : (L.take i ++ x :: nw).length = i + (1 + (s.size - i)) := by simp [hnl]; omega
          have hcv := conv_own_string (P := Tryd.prog) (src := 59) (dst := 9) (l := L.take i ++ x :: nw) Tryd.underlying59 Tryd.underlying5 Tryd.underlying9 (by rw [hl7]; simpa [byteVals, Lib.byteCells] using HO7.out)
          have HR7 := Lib.hid ((HR5.out.below HB6.out).below HB7.out)
          clear hl7
          go_wp2
          go_ret
          exact ⟨_, rfl, by rw [size_list]; simp [hnl]; omega, HR7.out.1, HR7.out.2⟩
  · -- cut off
    have hcv := conv_BA HBX5.out (n := i) (by omega) c0
    have hiI : (i : Int) ≤ (c0 : Int) := by omega
    go_wp2
    go_ret
    exact FIN.out _ L _ (by omega) HR5.out
  · have hcv := conv_BA HBX5.out (n := s.size) (by omega) c0
    go_wp2
    go_ret
    exact FIN.out _ L _ (by omega) HR5.out
end Go.Proofs.YtmaiillomoehgaaDoor.TL
