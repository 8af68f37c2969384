/- WrapS WrapD OpenD in one text -/
import Derived.Test.YtmaiillomoehgaaDoorCards
import Derived.Test.YtmaiillomoehgaaDoorTie
import Derived.Test.YtmaiillomoehgaaDoorGrpP
import Derived.Test.YtmaiillomoehgaaDoorGrpT
import Derived.ProofKit
import Derived.OpenShut
import Derived.Deep.DeepHandedRow
import Derived.Lib.LaidTab
import Derived.Lib.ItoaNum
import Derived.Stop.LaidErr
import Derived.Test.YtmaiillomoehgaaDoorGrpC
import Derived.WideKeyArgs
import Derived.ChangeMaps5
import Derived.Test.YtmaiillomoehgaaDoorTD
import Derived.Deep.Slices
set_option linter.unusedVariables false
set_option linter.unusedSimpArgs false
/- What every card of the seat of package source needs: a world for the witness, the library's number as the world's shape gives it. -/
namespace Go.Proofs.YtmaiillomoehgaaDoor
open Go.ChangeShapes Go.WideShapes Go.ChangeAt Go.RowKit
section
variable {H : Type} {enc : TypeId × Value → H} {P : Program}
theorem post_of_below {f : Func} {s : ChangeSpec} {apart fresh handsOn again : Bool} {W W' : World} {args : Array Value} {v : Value} {ds gs : List (DataW H)} {before pa pv : List MemPlace}
    (hW : DataW.Whole enc P f.params.toList s.vars apart W args.toList ds gs before)
    (hres : ∀ (b : Nat) (sp : Nat → Bool) (hd : Bool), DataW.TrodAll enc P W' b sp hd f.resultTypes.toList (v.resultList f.resultTypes.size) (s.fn H (ds ++ gs)).results [])
    (hargs : ∀ sp : Nat → Bool, (∀ p ∈ before, sp p.block = true) → DataW.TrodAll enc P W' 0 sp true f.params.toList args.toList (s.fn H (ds ++ gs)).args pa)
    (hvars : ∀ sp : Nat → Bool, (∀ p ∈ before, sp p.block = true) → DataW.TrodVars enc P W' sp s.vars (s.fn H (ds ++ gs)).vars pv)
    (hps : before = pa ++ pv) (hb : Below W.heap.size W W')
    (hok : ∀ (j : Nat) (t : TypeId) (r : Value), f.resultTypes[j]? = some t → (v.resultList f.resultTypes.size)[j]? = some r → Value.okWide P W' .any 0 t r) :
    s.post enc P f apart fresh handsOn again W args v W' := by
  have hlt : ∀ p ∈ before, p.block < W.heap.size := fun p hp => hW.lt p hp
  have hold : ∀ p ∈ before, (fun b => decide (b < W.heap.size)) p.block = true := fun p hp => by simpa using hlt p hp
  refine ⟨ds, gs, before, [], pa, pv, hW, hres _ _ _, hargs _ hold, hvars _ hold, World.keptBut_mono (fun p hp => ⟨hp, ?_⟩) (hb.frame (· ∈ before)), fun _ => ?_⟩
  · rw [hps, List.mem_append] at hp
    exact Or.inr hp
  · obtain ⟨_, _, _, _, _, hz, hn⟩ := hW
    refine ⟨hok, _, _, ([] ++ pa) ++ pv, ⟨[] ++ pa, pv, trodAll_append (hargs _ (fun _ _ => rfl)) (hres _ _ _), hvars _ (fun _ _ => rfl), rfl, ?_, ?_⟩, ?_⟩
    · intro b off hp
      have hin : MemPlace.cell b off ∈ before := by rw [hps]; simpa using hp
      rw [hb.frozen (hlt _ hin)]
      exact hz b off hin
    · intro ha
      have := hn ha
      rw [hps] at this
      simpa using this
    · intro p hp _
      rw [hps]
      simpa using hp
end
theorem own : ownKnob Tryd.prog.godebug = none := by kernel_rfl
theorem ml_of {W : World} (h : W.ShapedOpen Tryd.prog) : ML W := Tryd.laysM146.s1_3 W h
/-- a world for the witness: the settled one, the listed tables holding what their initialisers lay -/
noncomputable def laidWorld (os : Os) : World :=
  let h := (World.holding Tryd.prog os ⟨#[], #[], []⟩).heap
  let h := h.modify 1 fun | .cells _ t frozen => .cells #[.int .u8 240, .int .u8 240, .int .u8 240, .int .u8 240, .int .u8 240, .int .u8 240, .int .u8 240, .int .u8 240, .int .u8 240, .int .u8 240, .int .u8 240, .int .u8 240, .int .u8 240, .int .u8 240, .int .u8 240, .int .u8 240, .int .u8 240, .int .u8 240, .int .u8 240, .int .u8 240, .int .u8 240, .int .u8 240, .int .u8 240, .int .u8 240, .int .u8 240, .int .u8 240, .int .u8 240, .int .u8 240, .int .u8 240, .int .u8 240, .int .u8 240, .int .u8 240, .int .u8 240, .int .u8 240, .int .u8 240, .int .u8 240, .int .u8 240, .int .u8 240, .int .u8 240, .int .u8 240, .int .u8 240, .int .u8 240, .int .u8 240, .int .u8 240, .int .u8 240, .int .u8 240, .int .u8 240, .int .u8 240, .int .u8 240, .int .u8 240, .int .u8 240, .int .u8 240, .int .u8 240, .int .u8 240, .int .u8 240, .int .u8 240, .int .u8 240, .int .u8 240, .int .u8 240, .int .u8 240, .int .u8 240, .int .u8 240, .int .u8 240, .int .u8 240, .int .u8 240, .int .u8 240, .int .u8 240, .int .u8 240, .int .u8 240, .int .u8 240, .int .u8 240, .int .u8 240, .int .u8 240, .int .u8 240, .int .u8 240, .int .u8 240, .int .u8 240, .int .u8 240, .int .u8 240, .int .u8 240, .int .u8 240, .int .u8 240, .int .u8 240, .int .u8 240, .int .u8 240, .int .u8 240, .int .u8 240, .int .u8 240, .int .u8 240, .int .u8 240, .int .u8 240, .int .u8 240, .int .u8 240, .int .u8 240, .int .u8 240, .int .u8 240, .int .u8 240, .int .u8 240, .int .u8 240, .int .u8 240, .int .u8 240, .int .u8 240, .int .u8 240, .int .u8 240, .int .u8 240, .int .u8 240, .int .u8 240, .int .u8 240, .int .u8 240, .int .u8 240, .int .u8 240, .int .u8 240, .int .u8 240, .int .u8 240, .int .u8 240, .int .u8 240, .int .u8 240, .int .u8 240, .int .u8 240, .int .u8 240, .int .u8 240, .int .u8 240, .int .u8 240, .int .u8 240, .int .u8 240, .int .u8 240, .int .u8 240, .int .u8 240, .int .u8 241, .int .u8 241, .int .u8 241, .int .u8 241, .int .u8 241, .int .u8 241, .int .u8 241, .int .u8 241, .int .u8 241, .int .u8 241, .int .u8 241, .int .u8 241, .int .u8 241, .int .u8 241, .int .u8 241, .int .u8 241, .int .u8 241, .int .u8 241, .int .u8 241, .int .u8 241, .int .u8 241, .int .u8 241, .int .u8 241, .int .u8 241, .int .u8 241, .int .u8 241, .int .u8 241, .int .u8 241, .int .u8 241, .int .u8 241, .int .u8 241, .int .u8 241, .int .u8 241, .int .u8 241, .int .u8 241, .int .u8 241, .int .u8 241, .int .u8 241, .int .u8 241, .int .u8 241, .int .u8 241, .int .u8 241, .int .u8 241, .int .u8 241, .int .u8 241, .int .u8 241, .int .u8 241, .int .u8 241, .int .u8 241, .int .u8 241, .int .u8 241, .int .u8 241, .int .u8 241, .int .u8 241, .int .u8 241, .int .u8 241, .int .u8 241, .int .u8 241, .int .u8 241, .int .u8 241, .int .u8 241, .int .u8 241, .int .u8 241, .int .u8 241, .int .u8 241, .int .u8 241, .int .u8 2, .int .u8 2, .int .u8 2, .int .u8 2, .int .u8 2, .int .u8 2, .int .u8 2, .int .u8 2, .int .u8 2, .int .u8 2, .int .u8 2, .int .u8 2, .int .u8 2, .int .u8 2, .int .u8 2, .int .u8 2, .int .u8 2, .int .u8 2, .int .u8 2, .int .u8 2, .int .u8 2, .int .u8 2, .int .u8 2, .int .u8 2, .int .u8 2, .int .u8 2, .int .u8 2, .int .u8 2, .int .u8 2, .int .u8 2, .int .u8 19, .int .u8 3, .int .u8 3, .int .u8 3, .int .u8 3, .int .u8 3, .int .u8 3, .int .u8 3, .int .u8 3, .int .u8 3, .int .u8 3, .int .u8 3, .int .u8 3, .int .u8 35, .int .u8 3, .int .u8 3, .int .u8 52, .int .u8 4, .int .u8 4, .int .u8 4, .int .u8 68, .int .u8 241, .int .u8 241, .int .u8 241, .int .u8 241, .int .u8 241, .int .u8 241, .int .u8 241, .int .u8 241, .int .u8 241, .int .u8 241, .int .u8 241] t frozen | o => o
  let h := h.modify 2 fun | .cells _ t frozen => .cells #[.int .u8 128, .int .u8 191, .int .u8 160, .int .u8 191, .int .u8 128, .int .u8 159, .int .u8 144, .int .u8 191, .int .u8 128, .int .u8 143, .int .u8 0, .int .u8 0, .int .u8 0, .int .u8 0, .int .u8 0, .int .u8 0, .int .u8 0, .int .u8 0, .int .u8 0, .int .u8 0, .int .u8 0, .int .u8 0, .int .u8 0, .int .u8 0, .int .u8 0, .int .u8 0, .int .u8 0, .int .u8 0, .int .u8 0, .int .u8 0, .int .u8 0, .int .u8 0] t frozen | o => o
  { World.holding Tryd.prog os ⟨#[], #[], []⟩ with heap := h }
end Go.Proofs.YtmaiillomoehgaaDoor
/- What every claim of this seat needs: the conditions of a row behind a call that writes nothing old; a list of whole numbers as an argument of my logic. -/
namespace Go.Proofs.YtmaiillomoehgaaDoor
open Go.ChangeShapes Go.WideShapes Go.ChangeAt Go.RowKit
section
variable {H : Type} {enc : TypeId × Value → H} {P : Program}
theorem same_of_below {W W' : World} (hb : Below W.heap.size W W') {p : MemPlace} (hp : p.block < W.heap.size) : W.sameAt W' p := by
  cases p with
  | cell b off => exact hb.cell (p := ⟨b, off, none⟩) hp
  | map b => exact hb.block b hp
theorem args_again {P : Program} (hl : laidOutB P = true) {W W' : World} (hb : Below W.heap.size W W') {sp : Nat → Bool} : ∀ {ts : List TypeId} {vs : List Value} {ds : List (DataW H)} {ps : List MemPlace}, (∀ t ∈ ts, P.readableRec t = true ∧ t < P.types.size) →
    DataW.TrodAll enc P W 0 (fun _ => true) true ts vs ds ps → (∀ p ∈ ps, p.block < W.heap.size) → (∀ p ∈ ps, sp p.block = true) → DataW.TrodAll enc P W' 0 sp true ts vs ds ps
  | [], [], [], _, _, h, _, _ => h
  | _ :: _, _ :: _, _ :: _, _, hT, ⟨p, q, h1, h2, e⟩, hlt, hs => ⟨p, q, WideElems.Trod_stays hl (hT _ (List.mem_cons.2 (Or.inl rfl))).1 (hT _ (List.mem_cons.2 (Or.inl rfl))).2 h1 (fun x hx => same_of_below hb (hlt x (by rw [e]; exact List.mem_append_left _ hx))) (fun x hx => hs x (by rw [e]; exact List.mem_append_left _ hx)),
      args_again hl hb (fun t ht => hT t (List.mem_cons.2 (Or.inr ht))) h2 (fun x hx => hlt x (by rw [e]; exact List.mem_append_right _ hx)) (fun x hx => hs x (by rw [e]; exact List.mem_append_right _ hx)), e⟩
/-- a []int argument -/
theorem open_ints_sl {W : World} {r : Reach} {b0 : Nat} {t e : TypeId} {v : Value} {d : DataW H} {ps : List MemPlace} (ht : P.underlying t = some (.slice e)) (he : P.underlying e = some (.int .i64)) (hc : P.cellsOf e = 1)
    (hval : Value.okWide P W r b0 t v) (h : DataW.Trod enc P W 0 (fun _ => true) true t v d ps) : ∃ s : V.Sl Int, v = .slice s.a s.xs.length s.c ∧ (V.slE V.intE).wf (V.Fr V.No []) W.heap s := by
  obtain ⟨a0, len, cap, rfl⟩ := okWide_slice ht hval
  obtain ⟨fuel, hf⟩ := h
  rcases open_ints ht he hc hf with ⟨hcs, _⟩ | ⟨a, len', cap', zs, hcs, _, hle, hmax, hall, _, hcell, hwf⟩
  · simp [Value.cells] at hcs
    obtain ⟨rfl, rfl, rfl⟩ := hcs
    exact ⟨⟨none, 0, []⟩, rfl, V.sl_nil⟩
  · simp [Value.cells] at hcs
    obtain ⟨rfl, rfl, rfl⟩ := hcs
    simp only [if_true] at hall
    have hlen : (zs.take len).length = len := by rw [List.length_take]; omega
    refine ⟨⟨some a, cap, zs.take len⟩, by rw [hlen], ⟨by rw [hlen]; omega, fun h0 => ?_, fun i hi j u hu => ?_, fun i hi => ?_⟩, by rw [hlen]; exact hle, fun h => by cases h⟩
    · rw [hlen] at h0
      obtain ⟨b, off, rfl, hc2⟩ := ints_at hcell (by omega)
      exact ⟨rfl, ⟨fun h => h, fun h => h⟩, World.block_lt_of_cell? W _ (hc2 0 (by omega))⟩
    · rw [hlen] at hi
      obtain ⟨b, off, rfl, hc2⟩ := ints_at hcell (show 0 < zs.length by omega)
      have hg : (zs.take len).getD i 0 = zs.getD i 0 := by
        simp only [List.getD_eq_getElem?_getD]; rw [List.getElem?_take_of_lt hi]
      have e0 : V.intE.dflt = 0 := rfl
      rw [e0, hg] at hu
      rcases j with _ | j
      · have : u = .int .i64 (zs.getD i 0) := by simpa [V.intE] using hu.symm
        subst this
        show V.hcell W.heap b (off + i * 1 + 0) = _
        rw [show off + i * 1 + 0 = off + i from by omega]
        exact hc2 i (by omega)
      · simp [V.intE] at hu
    · rw [hlen] at hi
      have e0 : V.intE.dflt = 0 := rfl
      have hg : (zs.take len).getD i 0 = zs.getD i 0 := by
        simp only [List.getD_eq_getElem?_getD]; rw [List.getElem?_take_of_lt hi]
      rw [e0, hg]
      have hin : zs.getD i 0 ∈ zs := by
        rw [List.getD_eq_getElem?_getD, List.getElem?_eq_getElem (by omega)]
        exact List.getElem_mem _
      exact bounds_i64 (hwf _ hin)
end
theorem laid_out : laidOutB Tryd.prog = true := by kernel_rfl
theorem below_tr {w w' : World} (h : V.Tr [] w [] w') : Below w.heap.size w w' := V.Ch.below (h.ch.mono fun _ h => h)
theorem true_ret {P : Program} {f : FuncId} {vs : Array Value} {w : World} (h : Calls P f vs w fun e w' => e = .returned (.bool (decide True)) ∧ V.Tr [] w [] w') : Calls P f vs w fun e w' => e = .returned (.bool true) ∧ Below w.heap.size w w' :=
  h.mono fun _ _ ⟨h1, h2⟩ => ⟨by rw [h1]; rfl, below_tr h2⟩
end Go.Proofs.YtmaiillomoehgaaDoor
/- Arguments of any readable type, opened into my logic: cells that a claim's reading trods are cells of a plain value that is well formed. -/
namespace Go.Proofs.YtmaiillomoehgaaDoor
open Go.ChangeShapes Go.WideShapes Go.ChangeAt Go.RowKit Go.Deep Go.ChangeMaps
section
variable {H : Type} {enc : TypeId × Value → H} {P : Program} {W : World}
/-- what the reading of a type tells of its cells -/
def Tells (enc : TypeId × Value → H) (P : Program) (W : World) (t : TypeId) (φ : List Value → Prop) : Prop :=
  ∀ fuel cs x, DataW.trod enc P W 0 (fun _ => true) true fuel t cs = some x → φ cs
abbrev TellsE {α : Type} (enc : TypeId × Value → H) (P : Program) (W : World) (t : TypeId) (E : V.Enc α) : Prop := Tells enc P W t fun cs => ∃ y, cs = E.cells y ∧ E.wf (V.Fr V.No []) W.heap y
theorem tells_int {t : TypeId} (ht : P.underlying t = some (.int .i64)) : Tells enc P W t fun cs => ∃ z, cs = [.int .i64 z] ∧ V.inI64 z := fun _ _ _ h => by
  obtain ⟨z, h1, _, h2⟩ := DataW.trod_int ht h
  exact ⟨z, h1, bounds_i64 h2⟩
theorem tells_intE {t : TypeId} (ht : P.underlying t = some (.int .i64)) : TellsE enc P W t V.intE := fun _ _ _ h => tells_int ht _ _ _ h
theorem tells_u32 {t : TypeId} (ht : P.underlying t = some (.int .u32)) : Tells enc P W t fun cs => ∃ z, cs = [.int .u32 z] ∧ V.inU32 z := fun _ _ _ h => by
  obtain ⟨z, h1, _, h2⟩ := DataW.trod_int ht h
  exact ⟨z, h1, bounds_u32 h2⟩
theorem tells_bool {t : TypeId} (ht : P.underlying t = some .bool) : Tells enc P W t fun cs => ∃ b : Bool, cs = [.bool b] := fun _ _ _ h => by
  obtain ⟨z, h1, _⟩ := DataW.trod_bool ht h
  exact ⟨z, h1⟩
theorem tells_str {t : TypeId} (ht : P.underlying t = some .string) : Tells enc P W t fun cs => ∃ s : ByteArray, cs = [.string s] ∧ V.inStr s := fun _ _ _ h => by
  obtain ⟨z, h1, _, h2⟩ := DataW.trod_string ht h
  exact ⟨z, h1, h2⟩
theorem tells_sl {α : Type} {E : V.Enc α} {t e : TypeId} (ht : P.underlying t = some (.slice e)) (hc : P.cellsOf e = E.n) (hn : 0 < E.n) (hE : TellsE enc P W e E) : TellsE enc P W t (V.slE E) := fun fuel cs x h => by
  rcases open_slice ht h with ⟨rfl, _⟩ | ⟨a, len, cap, m, n, D, Pl, rfl, hb, hl, hm, hmm, hxe, hx⟩
  · exact ⟨⟨none, 0, []⟩, rfl, V.sl_nil⟩
  · simp only [if_true] at hmm
    have h1 : ∀ i, i < len → ∃ y : α, W.cells? 0 (a.add (i * P.cellsOf e)) (P.cellsOf e) = some (E.cells y) ∧ E.wf (V.Fr V.No []) W.heap y := fun i hi => by
      obtain ⟨cs', h2, h3⟩ := hx i (by omega)
      obtain ⟨y, rfl, hw⟩ := hE _ _ _ h3
      exact ⟨y, h2, hw⟩
    have h2 : ∃ xs : List α, xs.length = len ∧ ∀ i, i < len → W.cells? 0 (a.add (i * P.cellsOf e)) (P.cellsOf e) = some (E.cells (xs.getD i E.dflt)) ∧ E.wf (V.Fr V.No []) W.heap (xs.getD i E.dflt) := by
      clear hx h hmm hl hxe
      induction len with
      | zero => exact ⟨[], rfl, fun i hi => by omega⟩
      | succ k ih =>
        obtain ⟨xs, hxl, hxs⟩ := ih fun i hi => h1 i (by omega)
        obtain ⟨y, hy1, hy2⟩ := h1 k (by omega)
        refine ⟨xs ++ [y], by simp [hxl], fun i hi => ?_⟩
        by_cases hik : i < k
        · have : (xs ++ [y]).getD i E.dflt = xs.getD i E.dflt := by simp only [List.getD_eq_getElem?_getD]; rw [List.getElem?_append_left (by omega)]
          rw [this]; exact hxs i hik
        · obtain rfl : i = k := by omega
          have : (xs ++ [y]).getD i E.dflt = y := by simp only [List.getD_eq_getElem?_getD]; rw [List.getElem?_append_right (by omega), hxl]; simp
          rw [this]; exact ⟨hy1, hy2⟩
    obtain ⟨xs, rfl, hxs⟩ := h2
    have hcell : ∀ i, i < xs.length → ∀ j v, (E.cells (xs.getD i E.dflt))[j]? = some v → W.cell? ((a.add (i * E.n)).add j) = some v := fun i hi j v hv => by
      obtain ⟨_, hlen, hg⟩ := World.cells?_some (hxs i hi).1
      have hj : j < (E.cells (xs.getD i E.dflt)).length := (List.getElem?_eq_some_iff.1 hv).1
      have := hg j (by omega)
      rw [hc] at this
      rw [this, hv]
    rcases Nat.eq_zero_or_pos xs.length with h0 | h0
    · refine ⟨⟨some a, cap, xs⟩, rfl, ⟨by show xs.length ≤ maxLen; omega, fun h1 => ?_, fun i hi => ?_, fun i hi => (hxs i hi).2⟩, hl, fun h => by cases h⟩
      · exact absurd h1 (by show ¬ 0 < xs.length; omega)
      · exact absurd hi (by show ¬ i < xs.length; omega)
    · have hl0 : 0 < (E.cells (xs.getD 0 E.dflt)).length := by rw [E.len]; exact hn
      have h3 := hcell 0 h0 0 _ (List.getElem?_eq_getElem hl0)
      obtain ⟨b, o, spot⟩ := a
      have hspot : spot = none := by simpa [Addr.add] using World.cell?_spot h3
      subst hspot
      rw [add_plain, add_plain] at h3
      have hlt := World.block_lt_of_cell? W _ h3
      refine ⟨⟨some ⟨b, o, none⟩, cap, xs⟩, rfl, ⟨by show xs.length ≤ maxLen; omega, fun _ => ⟨rfl, ⟨fun h => h, fun h => h⟩, hlt⟩, fun i hi j v hv => ?_, fun i hi => (hxs i hi).2⟩, hl, fun h => by cases h⟩
      have h4 := hcell i hi j v hv
      rw [add_plain, add_plain] at h4
      exact h4
/-- a field of a struct -/
theorem tells_field {fs : Array Field} {n : Nat} {cs cs' : List Value} {xs : List (DataW H × List MemPlace)} {φ : List Value → Prop} (hlen : xs.length = fs.size)
    (hf : ∀ (i : Nat) (f : Field), fs[i]? = some f → DataW.trod enc P W 0 (fun _ => true) true n f.type ((cs.drop f.offset).take (P.cellsOf f.type)) = xs[i]?)
    (i : Nat) {f : Field} (hi : fs[i]? = some f) (T : Tells enc P W f.type φ) (hc : (cs.drop f.offset).take (P.cellsOf f.type) = cs') : φ cs' := by
  have h1 := hf i f hi
  have h2 : i < xs.length := by rw [hlen]; exact (Array.getElem?_eq_some_iff.1 hi).1
  rw [List.getElem?_eq_getElem h2, hc] at h1
  exact T _ _ _ h1
/-- an argument of a struct type -/
theorem open_struct {α : Type} {E : V.Enc α} {r : Reach} {b0 : Nat} {t : TypeId} {fs : Array Field} {v : Value} {d : DataW H} {ps : List MemPlace} (ht : P.underlying t = some (.struct fs)) (T : TellsE enc P W t E)
    (hval : Value.okWide P W r b0 t v) (h : DataW.Trod enc P W 0 (fun _ => true) true t v d ps) : ∃ y : α, v = .agg (E.cells y).toArray ∧ E.wf (V.Fr V.No []) W.heap y := by
  unfold Value.okWide at hval
  rw [ht] at hval
  obtain ⟨cs, rfl, _, _⟩ := hval
  obtain ⟨fuel, hf⟩ := h
  obtain ⟨y, hy, hw⟩ := T _ _ _ hf
  have hy' : cs.toList = E.cells y := hy
  exact ⟨y, by rw [← hy'], hw⟩
/-- an int -/
theorem open_int {t : TypeId} {r : Reach} {b0 : Nat} {v : Value} {d : DataW H} {ps : List MemPlace} (ht : P.underlying t = some (.int .i64)) (hval : Value.okWide P W r b0 t v) (h : DataW.Trod enc P W 0 (fun _ => true) true t v d ps) : ∃ z : Int, v = .int .i64 z ∧ V.inI64 z := by
  obtain ⟨z, rfl⟩ := okWide_int ht hval
  obtain ⟨fuel, hf⟩ := h
  obtain ⟨y, hy, hw⟩ := tells_int ht _ _ _ hf
  simp [Value.cells] at hy
  exact ⟨y, by rw [hy], hw⟩
/-- a string -/
theorem open_str {t : TypeId} {r : Reach} {b0 : Nat} {v : Value} {d : DataW H} {ps : List MemPlace} (ht : P.underlying t = some .string) (hval : Value.okWide P W r b0 t v) (h : DataW.Trod enc P W 0 (fun _ => true) true t v d ps) : ∃ s : ByteArray, v = .string s ∧ V.inStr s := by
  obtain ⟨s, rfl, _, _, w⟩ := open_string ht hval h
  exact ⟨s, rfl, w⟩
theorem tells_strE {t : TypeId} (ht : P.underlying t = some .string) : TellsE enc P W t V.strE := fun _ _ _ h => tells_str ht _ _ _ h
/-- a slice -/
theorem open_sl {α : Type} {E : V.Enc α} {r : Reach} {b0 : Nat} {t e : TypeId} {v : Value} {d : DataW H} {ps : List MemPlace} (ht : P.underlying t = some (.slice e)) (T : TellsE enc P W t (V.slE E))
    (hval : Value.okWide P W r b0 t v) (h : DataW.Trod enc P W 0 (fun _ => true) true t v d ps) : ∃ s : V.Sl α, v = .slice s.a s.xs.length s.c ∧ (V.slE E).wf (V.Fr V.No []) W.heap s := by
  obtain ⟨a0, len, cap, rfl⟩ := okWide_slice ht hval
  obtain ⟨fuel, hf⟩ := h
  obtain ⟨y, hy, hw⟩ := T _ _ _ hf
  have hy' : [Value.slice a0 len cap] = [Value.slice y.a y.xs.length y.c] := hy
  exact ⟨y, List.head_eq_of_cons_eq hy', hw⟩
theorem len2 {l : List Value} (h : l.length = 2) : ∃ a b, l = [a, b] := match l, h with
  | [a, b], _ => ⟨a, b, rfl⟩
theorem len3 {l : List Value} (h : l.length = 3) : ∃ a b c, l = [a, b, c] := match l, h with
  | [a, b, c], _ => ⟨a, b, c, rfl⟩
theorem len5 {l : List Value} (h : l.length = 5) : ∃ a b c d e, l = [a, b, c, d, e] := match l, h with
  | [a, b, c, d, e], _ => ⟨a, b, c, d, e, rfl⟩
theorem len6 {l : List Value} (h : l.length = 6) : ∃ a b c d e f, l = [a, b, c, d, e, f] := match l, h with
  | [a, b, c, d, e, f], _ => ⟨a, b, c, d, e, f, rfl⟩
end
end Go.Proofs.YtmaiillomoehgaaDoor
