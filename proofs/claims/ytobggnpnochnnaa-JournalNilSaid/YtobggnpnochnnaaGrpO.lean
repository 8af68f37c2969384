/- WrapT OpenT OpenJ in one text -/
import Derived.Test.YtobggnpnochnnaaRows
import Derived.Test.YtobggnpnochnnaaGrpC
import Derived.ProofKit
import Derived.OpenShut
import Derived.Deep.DeepHandedRow
import Derived.WideKeyArgs
import Derived.Test.YtobggnpnochnnaaTD
import Derived.Deep.Slices
/- What every claim of this seat needs: the conditions of a row behind a call that writes nothing old; a list of whole numbers as an argument of my logic. -/
namespace Go.Proofs.Ytobggnpnochnnaa
open Go.ChangeShapes Go.WideShapes Go.ChangeAt Go.RowKit
section
variable {H : Type} {enc : TypeId × Value → H} {P : Program}
theorem post_of_below {f : Func} {s : ChangeSpec} {apart fresh handsOn again : Bool} {W W' : World} {args : Array Value} {v : Value} {ds gs : List (DataW H)} {before pa pv : List MemPlace}
    (hW : DataW.Whole enc P f.params.toList s.vars apart W args.toList ds gs before)
    (hres : ∀ (b : Nat) (sp : Nat → Bool) (hd : Bool), DataW.TrodAll enc P W' b sp hd f.resultTypes.toList (v.resultList f.resultTypes.size) (s.fn H (ds ++ gs)).results [])
    (hargs : ∀ sp : Nat → Bool, (∀ p ∈ before, sp p.block = true) → DataW.TrodAll enc P W' 0 sp true f.params.toList args.toList (s.fn H (ds ++ gs)).args pa)
    (hvars : ∀ sp : Nat → Bool, (∀ p ∈ before, sp p.block = true) → DataW.TrodVars enc P W' sp s.vars (s.fn H (ds ++ gs)).vars pv)
    (hps : before = pa ++ pv) (hb : Below W.heap.size W W')
    (hok : ∀ (j : Nat) (t : TypeId) (r : Value), f.resultTypes[j]? = some t → (v.resultList f.resultTypes.size)[j]? = some r → Value.okWide P W' .any 0 t r) :
    s.post enc P f apart fresh handsOn again W args v W' := by
  have hlt : ∀ p ∈ before, p.block < W.heap.size := fun p hp => hW.lt p hp
  have hold : ∀ p ∈ before, (fun b => decide (b < W.heap.size)) p.block = true := fun p hp => by simpa using hlt p hp
  refine ⟨ds, gs, before, [], pa, pv, hW, hres _ _ _, hargs _ hold, hvars _ hold, World.keptBut_mono (fun p hp => ⟨hp, ?_⟩) (hb.frame (· ∈ before)), fun _ => ?_⟩
  · rw [hps, List.mem_append] at hp
    exact Or.inr hp
  · obtain ⟨_, _, _, _, _, hz, hn⟩ := hW
    refine ⟨hok, _, _, ([] ++ pa) ++ pv, ⟨[] ++ pa, pv, trodAll_append (hargs _ (fun _ _ => rfl)) (hres _ _ _), hvars _ (fun _ _ => rfl), rfl, ?_, ?_⟩, ?_⟩
    · intro b off hp
      have hin : MemPlace.cell b off ∈ before := by rw [hps]; simpa using hp
      rw [hb.frozen (hlt _ hin)]
      exact hz b off hin
    · intro ha
      have := hn ha
      rw [hps] at this
      simpa using this
    · intro p hp _
      rw [hps]
      simpa using hp
theorem same_of_below {W W' : World} (hb : Below W.heap.size W W') {p : MemPlace} (hp : p.block < W.heap.size) : W.sameAt W' p := by
  cases p with
  | cell b off => exact hb.cell (p := ⟨b, off, none⟩) hp
  | map b => exact hb.block b hp
theorem args_again {P : Program} (hl : laidOutB P = true) {W W' : World} (hb : Below W.heap.size W W') {sp : Nat → Bool} : ∀ {ts : List TypeId} {vs : List Value} {ds : List (DataW H)} {ps : List MemPlace}, (∀ t ∈ ts, P.readableRec t = true ∧ t < P.types.size) →
    DataW.TrodAll enc P W 0 (fun _ => true) true ts vs ds ps → (∀ p ∈ ps, p.block < W.heap.size) → (∀ p ∈ ps, sp p.block = true) → DataW.TrodAll enc P W' 0 sp true ts vs ds ps
  | [], [], [], _, _, h, _, _ => h
  | _ :: _, _ :: _, _ :: _, _, hT, ⟨p, q, h1, h2, e⟩, hlt, hs => ⟨p, q, WideElems.Trod_stays hl (hT _ (List.mem_cons.2 (Or.inl rfl))).1 (hT _ (List.mem_cons.2 (Or.inl rfl))).2 h1 (fun x hx => same_of_below hb (hlt x (by rw [e]; exact List.mem_append_left _ hx))) (fun x hx => hs x (by rw [e]; exact List.mem_append_left _ hx)),
      args_again hl hb (fun t ht => hT t (List.mem_cons.2 (Or.inr ht))) h2 (fun x hx => hlt x (by rw [e]; exact List.mem_append_right _ hx)) (fun x hx => hs x (by rw [e]; exact List.mem_append_right _ hx)), e⟩
/-- a []int argument -/
theorem open_ints_sl {W : World} {r : Reach} {b0 : Nat} {t e : TypeId} {v : Value} {d : DataW H} {ps : List MemPlace} (ht : P.underlying t = some (.slice e)) (he : P.underlying e = some (.int .i64)) (hc : P.cellsOf e = 1)
    (hval : Value.okWide P W r b0 t v) (h : DataW.Trod enc P W 0 (fun _ => true) true t v d ps) : ∃ s : V.Sl Int, v = .slice s.a s.xs.length s.c ∧ (V.slE V.intE).wf (V.Fr V.No []) W.heap s := by
  obtain ⟨a0, len, cap, rfl⟩ := okWide_slice ht hval
  obtain ⟨fuel, hf⟩ := h
  rcases open_ints ht he hc hf with ⟨hcs, _⟩ | ⟨a, len', cap', zs, hcs, _, hle, hmax, hall, _, hcell, hwf⟩
  · simp [Value.cells] at hcs
    obtain ⟨rfl, rfl, rfl⟩ := hcs
    exact ⟨⟨none, 0, []⟩, rfl, V.sl_nil⟩
  · simp [Value.cells] at hcs
    obtain ⟨rfl, rfl, rfl⟩ := hcs
    simp only [if_true] at hall
    have hlen : (zs.take len).length = len := by rw [List.length_take]; omega
    refine ⟨⟨some a, cap, zs.take len⟩, by rw [hlen], ⟨by rw [hlen]; omega, fun h0 => ?_, fun i hi j u hu => ?_, fun i hi => ?_⟩, by rw [hlen]; exact hle, fun h => by cases h⟩
    · rw [hlen] at h0
      obtain ⟨b, off, rfl, hc2⟩ := ints_at hcell (by omega)
      exact ⟨rfl, ⟨fun h => h, fun h => h⟩, World.block_lt_of_cell? W _ (hc2 0 (by omega))⟩
    · rw [hlen] at hi
      obtain ⟨b, off, rfl, hc2⟩ := ints_at hcell (show 0 < zs.length by omega)
      have hg : (zs.take len).getD i 0 = zs.getD i 0 := by
        simp only [List.getD_eq_getElem?_getD]; rw [List.getElem?_take_of_lt hi]
      have e0 : V.intE.dflt = 0 := rfl
      rw [e0, hg] at hu
      rcases j with _ | j
      · have : u = .int .i64 (zs.getD i 0) := by simpa [V.intE] using hu.symm
        subst this
        show V.hcell W.heap b (off + i * 1 + 0) = _
        rw [show off + i * 1 + 0 = off + i from by omega]
        exact hc2 i (by omega)
      · simp [V.intE] at hu
    · rw [hlen] at hi
      have e0 : V.intE.dflt = 0 := rfl
      have hg : (zs.take len).getD i 0 = zs.getD i 0 := by
        simp only [List.getD_eq_getElem?_getD]; rw [List.getElem?_take_of_lt hi]
      rw [e0, hg]
      have hin : zs.getD i 0 ∈ zs := by
        rw [List.getD_eq_getElem?_getD, List.getElem?_eq_getElem (by omega)]
        exact List.getElem_mem _
      exact bounds_i64 (hwf _ hin)
end
theorem own : ownKnob Try.prog.godebug = none := by kernel_rfl
theorem laid_out : laidOutB Try.prog = true := by kernel_rfl
theorem below_tr {w w' : World} (h : V.Tr [] w [] w') : Below w.heap.size w w' := V.Ch.below (h.ch.mono fun _ h => h)
theorem true_ret {P : Program} {f : FuncId} {vs : Array Value} {w : World} (h : Calls P f vs w fun e w' => e = .returned (.bool (decide True)) ∧ V.Tr [] w [] w') : Calls P f vs w fun e w' => e = .returned (.bool true) ∧ Below w.heap.size w w' :=
  h.mono fun _ _ ⟨h1, h2⟩ => ⟨by rw [h1]; rfl, below_tr h2⟩
end Go.Proofs.Ytobggnpnochnnaa
/- Arguments of any readable type, opened into my logic: cells that a claim's reading trods are cells of a plain value that is well formed. -/
namespace Go.Proofs.Ytobggnpnochnnaa
open Go.ChangeShapes Go.WideShapes Go.ChangeAt Go.RowKit Go.Deep
section
variable {H : Type} {enc : TypeId × Value → H} {P : Program} {W : World}
/-- what the reading of a type tells of its cells -/
def Tells (enc : TypeId × Value → H) (P : Program) (W : World) (t : TypeId) (φ : List Value → Prop) : Prop :=
  ∀ fuel cs x, DataW.trod enc P W 0 (fun _ => true) true fuel t cs = some x → φ cs
abbrev TellsE {α : Type} (enc : TypeId × Value → H) (P : Program) (W : World) (t : TypeId) (E : V.Enc α) : Prop := Tells enc P W t fun cs => ∃ y, cs = E.cells y ∧ E.wf (V.Fr V.No []) W.heap y
theorem tells_int {t : TypeId} (ht : P.underlying t = some (.int .i64)) : Tells enc P W t fun cs => ∃ z, cs = [.int .i64 z] ∧ V.inI64 z := fun _ _ _ h => by
  obtain ⟨z, h1, _, h2⟩ := DataW.trod_int ht h
  exact ⟨z, h1, bounds_i64 h2⟩
theorem tells_intE {t : TypeId} (ht : P.underlying t = some (.int .i64)) : TellsE enc P W t V.intE := fun _ _ _ h => tells_int ht _ _ _ h
theorem tells_u32 {t : TypeId} (ht : P.underlying t = some (.int .u32)) : Tells enc P W t fun cs => ∃ z, cs = [.int .u32 z] ∧ V.inU32 z := fun _ _ _ h => by
  obtain ⟨z, h1, _, h2⟩ := DataW.trod_int ht h
  exact ⟨z, h1, bounds_u32 h2⟩
theorem tells_bool {t : TypeId} (ht : P.underlying t = some .bool) : Tells enc P W t fun cs => ∃ b : Bool, cs = [.bool b] := fun _ _ _ h => by
  obtain ⟨z, h1, _⟩ := DataW.trod_bool ht h
  exact ⟨z, h1⟩
theorem tells_str {t : TypeId} (ht : P.underlying t = some .string) : Tells enc P W t fun cs => ∃ s : ByteArray, cs = [.string s] ∧ V.inStr s := fun _ _ _ h => by
  obtain ⟨z, h1, _, h2⟩ := DataW.trod_string ht h
  exact ⟨z, h1, h2⟩
theorem tells_sl {α : Type} {E : V.Enc α} {t e : TypeId} (ht : P.underlying t = some (.slice e)) (hc : P.cellsOf e = E.n) (hn : 0 < E.n) (hE : TellsE enc P W e E) : TellsE enc P W t (V.slE E) := fun fuel cs x h => by
  rcases open_slice ht h with ⟨rfl, _⟩ | ⟨a, len, cap, m, n, D, Pl, rfl, hb, hl, hm, hmm, hxe, hx⟩
  · exact ⟨⟨none, 0, []⟩, rfl, V.sl_nil⟩
  · simp only [if_true] at hmm
    have h1 : ∀ i, i < len → ∃ y : α, W.cells? 0 (a.add (i * P.cellsOf e)) (P.cellsOf e) = some (E.cells y) ∧ E.wf (V.Fr V.No []) W.heap y := fun i hi => by
      obtain ⟨cs', h2, h3⟩ := hx i (by omega)
      obtain ⟨y, rfl, hw⟩ := hE _ _ _ h3
      exact ⟨y, h2, hw⟩
    have h2 : ∃ xs : List α, xs.length = len ∧ ∀ i, i < len → W.cells? 0 (a.add (i * P.cellsOf e)) (P.cellsOf e) = some (E.cells (xs.getD i E.dflt)) ∧ E.wf (V.Fr V.No []) W.heap (xs.getD i E.dflt) := by
      clear hx h hmm hl hxe
      induction len with
      | zero => exact ⟨[], rfl, fun i hi => by omega⟩
      | succ k ih =>
        obtain ⟨xs, hxl, hxs⟩ := ih fun i hi => h1 i (by omega)
        obtain ⟨y, hy1, hy2⟩ := h1 k (by omega)
        refine ⟨xs ++ [y], by simp [hxl], fun i hi => ?_⟩
        by_cases hik : i < k
        · have : (xs ++ [y]).getD i E.dflt = xs.getD i E.dflt := by simp only [List.getD_eq_getElem?_getD]; rw [List.getElem?_append_left (by omega)]
          rw [this]; exact hxs i hik
        · obtain rfl : i = k := by omega
          have : (xs ++ [y]).getD i E.dflt = y := by simp only [List.getD_eq_getElem?_getD]; rw [List.getElem?_append_right (by omega), hxl]; simp
          rw [this]; exact ⟨hy1, hy2⟩
    obtain ⟨xs, rfl, hxs⟩ := h2
    have hcell : ∀ i, i < xs.length → ∀ j v, (E.cells (xs.getD i E.dflt))[j]? = some v → W.cell? ((a.add (i * E.n)).add j) = some v := fun i hi j v hv => by
      obtain ⟨_, hlen, hg⟩ := World.cells?_some (hxs i hi).1
      have hj : j < (E.cells (xs.getD i E.dflt)).length := (List.getElem?_eq_some_iff.1 hv).1
      have := hg j (by omega)
      rw [hc] at this
      rw [this, hv]
    rcases Nat.eq_zero_or_pos xs.length with h0 | h0
    · refine ⟨⟨some a, cap, xs⟩, rfl, ⟨by show xs.length ≤ maxLen; omega, fun h1 => ?_, fun i hi => ?_, fun i hi => (hxs i hi).2⟩, hl, fun h => by cases h⟩
      · exact absurd h1 (by show ¬ 0 < xs.length; omega)
      · exact absurd hi (by show ¬ i < xs.length; omega)
    · have hl0 : 0 < (E.cells (xs.getD 0 E.dflt)).length := by rw [E.len]; exact hn
      have h3 := hcell 0 h0 0 _ (List.getElem?_eq_getElem hl0)
      obtain ⟨b, o, spot⟩ := a
      have hspot : spot = none := by simpa [Addr.add] using World.cell?_spot h3
      subst hspot
      rw [add_plain, add_plain] at h3
      have hlt := World.block_lt_of_cell? W _ h3
      refine ⟨⟨some ⟨b, o, none⟩, cap, xs⟩, rfl, ⟨by show xs.length ≤ maxLen; omega, fun _ => ⟨rfl, ⟨fun h => h, fun h => h⟩, hlt⟩, fun i hi j v hv => ?_, fun i hi => (hxs i hi).2⟩, hl, fun h => by cases h⟩
      have h4 := hcell i hi j v hv
      rw [add_plain, add_plain] at h4
      exact h4
/-- a field of a struct -/
theorem tells_field {fs : Array Field} {n : Nat} {cs cs' : List Value} {xs : List (DataW H × List MemPlace)} {φ : List Value → Prop} (hlen : xs.length = fs.size)
    (hf : ∀ (i : Nat) (f : Field), fs[i]? = some f → DataW.trod enc P W 0 (fun _ => true) true n f.type ((cs.drop f.offset).take (P.cellsOf f.type)) = xs[i]?)
    (i : Nat) {f : Field} (hi : fs[i]? = some f) (T : Tells enc P W f.type φ) (hc : (cs.drop f.offset).take (P.cellsOf f.type) = cs') : φ cs' := by
  have h1 := hf i f hi
  have h2 : i < xs.length := by rw [hlen]; exact (Array.getElem?_eq_some_iff.1 hi).1
  rw [List.getElem?_eq_getElem h2, hc] at h1
  exact T _ _ _ h1
/-- an argument of a struct type -/
theorem open_struct {α : Type} {E : V.Enc α} {r : Reach} {b0 : Nat} {t : TypeId} {fs : Array Field} {v : Value} {d : DataW H} {ps : List MemPlace} (ht : P.underlying t = some (.struct fs)) (T : TellsE enc P W t E)
    (hval : Value.okWide P W r b0 t v) (h : DataW.Trod enc P W 0 (fun _ => true) true t v d ps) : ∃ y : α, v = .agg (E.cells y).toArray ∧ E.wf (V.Fr V.No []) W.heap y := by
  unfold Value.okWide at hval
  rw [ht] at hval
  obtain ⟨cs, rfl, _, _⟩ := hval
  obtain ⟨fuel, hf⟩ := h
  obtain ⟨y, hy, hw⟩ := T _ _ _ hf
  have hy' : cs.toList = E.cells y := hy
  exact ⟨y, by rw [← hy'], hw⟩
/-- an int -/
theorem open_int {t : TypeId} {r : Reach} {b0 : Nat} {v : Value} {d : DataW H} {ps : List MemPlace} (ht : P.underlying t = some (.int .i64)) (hval : Value.okWide P W r b0 t v) (h : DataW.Trod enc P W 0 (fun _ => true) true t v d ps) : ∃ z : Int, v = .int .i64 z ∧ V.inI64 z := by
  obtain ⟨z, rfl⟩ := okWide_int ht hval
  obtain ⟨fuel, hf⟩ := h
  obtain ⟨y, hy, hw⟩ := tells_int ht _ _ _ hf
  simp [Value.cells] at hy
  exact ⟨y, by rw [hy], hw⟩
theorem len2 {l : List Value} (h : l.length = 2) : ∃ a b, l = [a, b] := match l, h with
  | [a, b], _ => ⟨a, b, rfl⟩
theorem len3 {l : List Value} (h : l.length = 3) : ∃ a b c, l = [a, b, c] := match l, h with
  | [a, b, c], _ => ⟨a, b, c, rfl⟩
theorem len5 {l : List Value} (h : l.length = 5) : ∃ a b c d e, l = [a, b, c, d, e] := match l, h with
  | [a, b, c, d, e], _ => ⟨a, b, c, d, e, rfl⟩
theorem len6 {l : List Value} (h : l.length = 6) : ∃ a b c d e f, l = [a, b, c, d, e, f] := match l, h with
  | [a, b, c, d, e, f], _ => ⟨a, b, c, d, e, f, rfl⟩
end
end Go.Proofs.Ytobggnpnochnnaa
/- Records, controllers and plans as arguments. -/
namespace Go.Proofs.Ytobggnpnochnnaa
open Go.ChangeShapes Go.WideShapes Go.ChangeAt Go.RowKit Go.Deep
section
variable {H : Type} {enc : TypeId × Value → H} {W : World}
theorem tells_u8E {P : Program} {t : TypeId} (ht : P.underlying t = some (.int .u8)) : TellsE enc P W t V.u8E := fun _ _ _ h => by
  obtain ⟨z, h1, _, h2⟩ := DataW.trod_int ht h
  exact ⟨z, h1, bounds_u8 h2⟩
theorem len4 {l : List Value} (h : l.length = 4) : ∃ a b c d, l = [a, b, c, d] := match l, h with
  | [a, b, c, d], _ => ⟨a, b, c, d, rfl⟩
theorem tells_ints : TellsE enc Try.prog W 22 (V.slE V.intE) := tells_sl Try.underlying22 (by kernel_rfl) (by decide) (tells_intE Try.underlying3)
theorem tells_bytes : TellsE enc Try.prog W 28 (V.slE V.u8E) := tells_sl Try.underlying28 (by kernel_rfl) (by decide) (tells_u8E Try.underlying5)
set_option maxRecDepth 100000 in
theorem tells_chg : TellsE enc Try.prog W 124 V.chgE := fun fuel cs x h => by
  obtain ⟨xs, n, _, rfl, hl, hlen, hf⟩ := DataW.trod_struct Try.underlying124 h
  have hl5 : cs.length = 2 := hl.trans (by kernel_rfl)
  obtain ⟨a, b, rfl⟩ := len2 hl5
  obtain ⟨y0, h0, w0⟩ := tells_field (cs := [a, b]) (cs' := [a]) hlen hf 0 rfl (tells_int Try.underlying3) (by kernel_rfl)
  obtain ⟨y1, h1, w1⟩ := tells_field (cs := [a, b]) (cs' := [b]) hlen hf 1 rfl (tells_int Try.underlying3) (by kernel_rfl)
  obtain rfl := List.head_eq_of_cons_eq h0
  obtain rfl := List.head_eq_of_cons_eq h1
  exact ⟨⟨y0, y1⟩, rfl, w0, w1⟩
theorem tells_chgs : TellsE enc Try.prog W 122 (V.slE V.chgE) := tells_sl Try.underlying122 (by kernel_rfl) (by decide) tells_chg
theorem tells_rounds : TellsE enc Try.prog W 45 (V.slE (V.slE V.chgE)) := tells_sl Try.underlying45 (by kernel_rfl) (by decide) tells_chgs
set_option maxRecDepth 100000 in
theorem tells_rec : TellsE enc Try.prog W 24 V.recE := fun fuel cs x h => by
  obtain ⟨xs, n, _, rfl, hl, hlen, hf⟩ := DataW.trod_struct Try.underlying24 h
  have hl5 : cs.length = 4 := hl.trans (by kernel_rfl)
  obtain ⟨a, b, c, d, rfl⟩ := len4 hl5
  obtain ⟨y0, h0, w0⟩ := tells_field (cs := [a, b, c, d]) (cs' := [a]) hlen hf 0 rfl (tells_int Try.underlying3) (by kernel_rfl)
  obtain ⟨y1, h1, w1⟩ := tells_field (cs := [a, b, c, d]) (cs' := [b]) hlen hf 1 rfl (tells_int Try.underlying3) (by kernel_rfl)
  obtain ⟨y2, h2, w2⟩ := tells_field (cs := [a, b, c, d]) (cs' := [c]) hlen hf 2 rfl (tells_int Try.underlying3) (by kernel_rfl)
  obtain ⟨y3, h3, w3⟩ := tells_field (cs := [a, b, c, d]) (cs' := [d]) hlen hf 3 rfl (tells_int Try.underlying3) (by kernel_rfl)
  obtain rfl := List.head_eq_of_cons_eq h0
  obtain rfl := List.head_eq_of_cons_eq h1
  obtain rfl := List.head_eq_of_cons_eq h2
  obtain rfl := List.head_eq_of_cons_eq h3
  exact ⟨⟨y0, y1, y2, y3⟩, rfl, w0, w1, w2, w3⟩
theorem tells_recs : TellsE enc Try.prog W 32 (V.slE V.recE) := tells_sl Try.underlying32 (by kernel_rfl) (by decide) tells_rec
set_option maxRecDepth 100000 in
theorem tells_ctl : TellsE enc Try.prog W 57 V.ctrlE := fun fuel cs x h => by
  obtain ⟨xs, n, _, rfl, hl, hlen, hf⟩ := DataW.trod_struct Try.underlying57 h
  have hl5 : cs.length = 6 := hl.trans (by kernel_rfl)
  obtain ⟨a, b, c, d, e, f, rfl⟩ := len6 hl5
  obtain ⟨y0, h0, w0⟩ := tells_field (cs := [a, b, c, d, e, f]) (cs' := [a]) hlen hf 0 rfl (tells_int Try.underlying3) (by kernel_rfl)
  obtain ⟨y1, h1⟩ := tells_field (cs := [a, b, c, d, e, f]) (cs' := [b]) hlen hf 1 rfl (tells_bool Try.underlying4) (by kernel_rfl)
  obtain ⟨y2, h2, w2⟩ := tells_field (cs := [a, b, c, d, e, f]) (cs' := [c]) hlen hf 2 rfl (tells_int Try.underlying3) (by kernel_rfl)
  obtain ⟨y3, h3, w3⟩ := tells_field (cs := [a, b, c, d, e, f]) (cs' := [d]) hlen hf 3 rfl (tells_ints) (by kernel_rfl)
  obtain ⟨y4, h4, w4⟩ := tells_field (cs := [a, b, c, d, e, f]) (cs' := [e]) hlen hf 4 rfl (tells_ints) (by kernel_rfl)
  obtain ⟨y5, h5, w5⟩ := tells_field (cs := [a, b, c, d, e, f]) (cs' := [f]) hlen hf 5 rfl (tells_ints) (by kernel_rfl)
  obtain rfl := List.head_eq_of_cons_eq h0
  obtain rfl := List.head_eq_of_cons_eq h1
  obtain rfl := List.head_eq_of_cons_eq h2
  obtain rfl := List.head_eq_of_cons_eq h3
  obtain rfl := List.head_eq_of_cons_eq h4
  obtain rfl := List.head_eq_of_cons_eq h5
  exact ⟨⟨y0, y1, y2, y3, y4, y5⟩, by simp [V.ctrlE], w0, trivial, w2, w3, w4, w5⟩
set_option maxRecDepth 100000 in
theorem tells_plan : TellsE enc Try.prog W 47 V.planE := fun fuel cs x h => by
  obtain ⟨xs, n, _, rfl, hl, hlen, hf⟩ := DataW.trod_struct Try.underlying47 h
  have hl5 : cs.length = 2 := hl.trans (by kernel_rfl)
  obtain ⟨a, b, rfl⟩ := len2 hl5
  obtain ⟨y0, h0⟩ := tells_field (cs := [a, b]) (cs' := [a]) hlen hf 0 rfl (tells_bool Try.underlying4) (by kernel_rfl)
  obtain ⟨y1, h1, w1⟩ := tells_field (cs := [a, b]) (cs' := [b]) hlen hf 1 rfl (tells_rounds) (by kernel_rfl)
  obtain rfl := List.head_eq_of_cons_eq h0
  obtain rfl := List.head_eq_of_cons_eq h1
  exact ⟨⟨y0, y1⟩, by simp [V.planE], trivial, w1⟩
theorem open_sl {α : Type} {E : V.Enc α} {P : Program} {t e : TypeId} {r : Reach} {b0 : Nat} {v : Value} {d : DataW H} {ps : List MemPlace} (ht : P.underlying t = some (.slice e)) (T : TellsE enc P W t (V.slE E)) (hval : Value.okWide P W r b0 t v) (h : DataW.Trod enc P W 0 (fun _ => true) true t v d ps) : ∃ s : V.Sl α, v = .slice s.a s.xs.length s.c ∧ (V.slE E).wf (V.Fr V.No []) W.heap s := by
  obtain ⟨a0, len, cap, rfl⟩ := okWide_slice ht hval
  obtain ⟨fuel, hf⟩ := h
  obtain ⟨y, hy, hw⟩ := T _ _ _ hf
  have hy' : [Value.slice a0 len cap] = [Value.slice y.a y.xs.length y.c] := hy
  exact ⟨y, List.head_eq_of_cons_eq hy', hw⟩
end
end Go.Proofs.Ytobggnpnochnnaa
