/- Package source, plain: texts made of lines; joined lines; comments. -/
import Derived.Test.YtmaiillomoehgaaDoorSLM
set_option linter.unusedVariables false
set_option linter.unusedSimpArgs false
namespace Go.Proofs.YtmaiillomoehgaaDoor.V
open Go.RowKit Go.Proofs.YtmaiillomoehgaaDoor
/-- words joined by blanks -/
def jl : List (List UInt8) → List UInt8
  | [] => []
  | [w] => w
  | w :: v :: t => w ++ 32 :: jl (v :: t)
theorem jl_snoc : ∀ (ws : List (List UInt8)) (w : List UInt8), jl (ws ++ [w]) = if ws = [] then w else jl ws ++ 32 :: w
  | [], w => rfl
  | [v], w => rfl
  | u :: v :: t, w => by
    have := jl_snoc (v :: t) w
    rw [if_neg (by simp)] at this
    show u ++ 32 :: jl (v :: t ++ [w]) = _
    rw [this, if_neg (by simp)]
    simp [jl]
def bl (b : ByteArray) : List UInt8 := b.data.toList
theorem bl_app (a b : ByteArray) : bl (a ++ b) = bl a ++ bl b := by unfold bl; rw [ByteArray.data_append, Array.toList_append]
theorem bl_inj {a b : ByteArray} (h : bl a = bl b) : a = b := by rw [← mkB_of a, ← mkB_of b]; exact congrArg mkB h
theorem bl_len (a : ByteArray) : (bl a).length = a.size := (size_len a).symm
theorem bl_mk (l : List UInt8) : bl (mkB l) = l := mkB_list l
def joinL (ls : List (List ByteArray)) : List UInt8 := ls.flatMap fun ws => jl (ws.map bl) ++ [10]
def joinB (ls : List (List ByteArray)) : ByteArray := mkB (joinL ls)
theorem joinL_snoc (ls : List (List ByteArray)) (ws : List ByteArray) : joinL (ls ++ [ws]) = joinL ls ++ (jl (ws.map bl) ++ [10]) := by simp [joinL]
theorem jl_app : ∀ (b a : List (List UInt8)), (jl a).length ≤ (jl (a ++ b)).length
  | [], a => by simp
  | x :: b, a => by
    have h1 := jl_app b (a ++ [x])
    have h2 : (jl a).length ≤ (jl (a ++ [x])).length := by
      rw [jl_snoc]; split
      · rename_i h; subst h; simp [jl]
      · simp
    rw [List.append_assoc] at h1
    exact Nat.le_trans h2 h1
theorem jl_take (ws : List (List UInt8)) (k : Nat) : (jl (ws.take k)).length ≤ (jl ws).length := by
  have := jl_app (ws.drop k) (ws.take k)
  rwa [List.take_append_drop] at this
theorem joinL_take (ls : List (List ByteArray)) (k : Nat) : (joinL (ls.take k)).length ≤ (joinL ls).length := by
  have : joinL ls = joinL (ls.take k) ++ joinL (ls.drop k) := by
    unfold joinL; rw [← List.flatMap_append, List.take_append_drop]
  rw [this, List.length_append]; omega
theorem joinL_step {ls : List (List ByteArray)} {k : Nat} (hk : k < ls.length) : joinL (ls.take (k + 1)) = joinL (ls.take k) ++ (jl ((ls.getD k []).map bl) ++ [10]) := by
  rw [List.take_succ_eq_append_getElem hk, joinL_snoc, show ls.getD k [] = ls[k] from by rw [List.getD_eq_getElem?_getD, List.getElem?_eq_getElem hk]; rfl]
theorem jl_step {ws : List ByteArray} {k : Nat} (hk : k < ws.length) : jl ((ws.take (k + 1)).map bl) = if k = 0 then bl (ws.getD k strE.dflt) else jl ((ws.take k).map bl) ++ 32 :: bl (ws.getD k strE.dflt) := by
  rw [List.take_succ_eq_append_getElem hk, List.map_append, List.map_cons, List.map_nil, jl_snoc, show ws.getD k strE.dflt = ws[k] from by rw [List.getD_eq_getElem?_getD, List.getElem?_eq_getElem hk]; rfl]
  by_cases h : k = 0
  · subst h; simp
  · rw [if_neg h, if_neg]
    intro e
    have := congrArg List.length e
    simp only [List.length_map, List.length_take, List.length_nil] at this; omega
/-- segments, a newline behind each -/
def unseg (segs : List (List UInt8)) : List UInt8 := segs.flatMap fun x => x ++ [10]
theorem parts_unseg : ∀ (segs : List (List UInt8)), (∀ x ∈ segs, ∀ b ∈ x, b ≠ 10) → partsL 10 (unseg segs) = segs ++ [[]]
  | [], _ => rfl
  | x :: t, h => by
    have ih := parts_unseg t fun y hy => h y (List.mem_cons_of_mem _ hy)
    show partsL 10 ((x ++ [10]) ++ unseg t) = _
    rw [List.append_assoc]
    show partsL 10 (x ++ 10 :: unseg t) = _
    rw [partsL_app 10 x _ (h x List.mem_cons_self), ih]; rfl
theorem joinL_unseg (ls : List (List ByteArray)) : joinL ls = unseg (ls.map fun ws => jl (ws.map bl)) := by
  unfold joinL unseg; rw [List.flatMap_map]
/-- lines that have words, numbered -/
def numW : List (List ByteArray) → Nat → List (Int × List ByteArray)
  | [], _ => []
  | ws :: t, i => if 0 < ws.length then ((i : Int) + 1, ws) :: numW t (i + 1) else numW t (i + 1)
theorem linesB_ok : ∀ (ps : List ByteArray) (i : Nat) (out : List (Int × List ByteArray)), (∀ p ∈ ps, prB p ∧ (wordsB p).length ≤ 64) → linesB ps i out = (out ++ numW (ps.map wordsB) i, 0, 0)
  | [], i, out, _ => by simp [linesB, numW]
  | p :: t, i, out, h => by
    have h1 := h p List.mem_cons_self
    rw [linesB, if_neg (fun k => k h1.1), if_neg (by omega), linesB_ok t (i + 1) _ fun q hq => h q (List.mem_cons_of_mem _ hq), List.map_cons, numW]
    by_cases h0 : 0 < (wordsB p).length
    · rw [if_pos h0, if_pos h0]; simp
    · rw [if_neg h0, if_neg h0]
theorem numW_nil : ∀ (ws : List (List ByteArray)) (i : Nat), numW (ws ++ [[]]) i = numW ws i
  | [], i => rfl
  | w :: t, i => by rw [List.cons_append, numW, numW, numW_nil t (i + 1)]
theorem lines_unseg {s : ByteArray} {segs : List (List UInt8)} (hs : bl s = unseg segs) (hsz : s.size ≤ 16384) (h10 : ∀ x ∈ segs, ∀ b ∈ x, b ≠ 10) (hok : ∀ x ∈ segs, prB (mkB x) ∧ (wordsB (mkB x)).length ≤ 64) :
    linesS s = (numW (segs.map fun x => wordsB (mkB x)) 0, 0, 0) := by
  have e : partsB 10 s = (segs ++ [[]]).map mkB := by
    show (partsL 10 (bl s)).map mkB = _
    rw [hs, parts_unseg segs h10]
  unfold linesS
  rw [if_neg (by omega), e, linesB_ok]
  · rw [List.map_map, List.map_append]
    show ([] ++ numW (_ ++ [wordsB (mkB [])]) 0, _, _) = _
    rw [show wordsB (mkB []) = [] from by decide +kernel, numW_nil]
    rfl
  · intro p hp
    obtain ⟨x, hx, rfl⟩ := List.mem_map.1 hp
    rcases List.mem_append.1 hx with h | h
    · exact hok x h
    · have : x = [] := by simpa using h
      subst this
      exact ⟨by unfold prB; rw [mkB_list]; rfl, by decide +kernel⟩
/-- the same words, numbers that are not lower -/
def Sim (l c : List (Int × List ByteArray)) : Prop := c.length = l.length ∧ ∀ i, i < l.length → (c.getD i (0, [])).2 = (l.getD i (0, [])).2 ∧ (l.getD i (0, [])).1 ≤ (c.getD i (0, [])).1
theorem Sim.cons {l c : List (Int × List ByteArray)} (h : Sim l c) {x y : Int × List ByteArray} (h1 : y.2 = x.2) (h2 : x.1 ≤ y.1) : Sim (x :: l) (y :: c) :=
  ⟨by simp [h.1], fun i hi => by
    cases i with
    | zero => exact ⟨h1, h2⟩
    | succ i => simpa using h.2 i (by simpa using hi)⟩
theorem numW_sim : ∀ (cs : List (List ByteArray)) (i j : Nat), i ≤ j → Sim (numW (cs.filter fun ws => decide (0 < ws.length)) i) (numW cs j)
  | [], _, _, _ => ⟨rfl, fun i h => absurd h (Nat.not_lt_zero _)⟩
  | w :: t, i, j, h => by
    by_cases h0 : 0 < w.length
    · rw [List.filter_cons_of_pos (by simpa using h0), numW, numW, if_pos h0, if_pos h0]
      exact (numW_sim t (i + 1) (j + 1) (by omega)).cons rfl (by show (i : Int) + 1 ≤ (j : Int) + 1; omega)
    · rw [List.filter_cons_of_neg (by simpa using h0), numW, if_neg h0]
      exact numW_sim t i (j + 1) (by omega)
/-! ### the texts of the law on comments -/
def wdsR (r : Nat) : List ByteArray := ([⟨#[119]⟩, ⟨#[122, 111, 110, 101]⟩, ⟨#[120]⟩] : List ByteArray).take r
def xOf (r : Nat) : ByteArray := joinB [wdsR r]
def sfxO (q : Nat) : ByteArray := ([⟨#[35, 32, 99]⟩, ⟨#[32]⟩, ⟨#[32, 35, 32, 61, 44, 35]⟩, ⟨#[]⟩] : List ByteArray).getD q strE.dflt
def preO (p : Nat) : ByteArray := ([⟨#[]⟩, ⟨#[10]⟩, ⟨#[32, 10, 35, 32, 121, 10]⟩] : List ByteArray).getD p strE.dflt
def pieceB (r q : Nat) : ByteArray := ((⟨#[32, 9]⟩ ++ (xOf r).extract 0 ((((xOf r).size : Nat) : Int) - 1).toNat) ++ sfxO q) ++ ⟨#[10]⟩
abbrev Ch3 := Nat × Nat × Nat
def catA (G : List Ch3) : List UInt8 := G.flatMap fun g => bl (xOf g.1)
def catB (G : List Ch3) : List UInt8 := G.flatMap fun g => bl (pieceB g.1 g.2.1)
def catC (G : List Ch3) : List UInt8 := G.flatMap fun g => bl (preO g.2.2 ++ xOf g.1)
def segA (r : Nat) : List UInt8 := jl ((wdsR r).map bl)
def segB (r q : Nat) : List UInt8 := [32, 9] ++ segA r ++ bl (sfxO q)
def segsC (r p : Nat) : List (List UInt8) := match p with
  | 0 => [segA r]
  | 1 => [[], segA r]
  | _ => [[32], [35, 32, 121], segA r]
def okG (g : Ch3) : Prop := (g.1 < 4 ∧ 1 ≤ g.1) ∧ g.2.1 < 4 ∧ g.2.2 < 3
def okSeg (x : List UInt8) : Bool := x.all (fun b => b != 10) && decide (prB (mkB x)) && decide ((wordsB (mkB x)).length ≤ 64)
theorem tabA : ∀ r, r < 4 → 1 ≤ r → bl (xOf r) = segA r ++ [10] ∧ okSeg (segA r) = true ∧ wordsB (mkB (segA r)) = wdsR r ∧ (xOf r).size ≤ 9 ∧ 1 ≤ (xOf r).size := by decide +kernel
theorem tabB : ∀ r, r < 4 → 1 ≤ r → ∀ q, q < 4 → bl (pieceB r q) = segB r q ++ [10] ∧ okSeg (segB r q) = true ∧ wordsB (mkB (segB r q)) = wdsR r ∧ (pieceB r q).size ≤ 20 := by decide +kernel
theorem tabC1 : ∀ r, r < 4 → 1 ≤ r → ∀ p, p < 3 → bl (preO p ++ xOf r) = unseg (segsC r p) ∧ (segsC r p).all okSeg = true := by decide +kernel
theorem tabC2 : ∀ r, r < 4 → 1 ≤ r → ∀ p, p < 3 → ((segsC r p).map fun x => wordsB (mkB x)).filter (fun ws => decide (0 < ws.length)) = [wdsR r] ∧ (preO p ++ xOf r).size ≤ 20 := by decide +kernel
theorem tabC (r : Nat) (h : r < 4) (k : 1 ≤ r) (p : Nat) (hp : p < 3) : bl (preO p ++ xOf r) = unseg (segsC r p) ∧ (segsC r p).all okSeg = true ∧ ((segsC r p).map fun x => wordsB (mkB x)).filter (fun ws => decide (0 < ws.length)) = [wdsR r] ∧ (preO p ++ xOf r).size ≤ 20 :=
  ⟨(tabC1 r h k p hp).1, (tabC1 r h k p hp).2, (tabC2 r h k p hp).1, (tabC2 r h k p hp).2⟩
theorem okSeg_all {segs : List (List UInt8)} (h : segs.all okSeg = true) : (∀ x ∈ segs, ∀ b ∈ x, b ≠ 10) ∧ ∀ x ∈ segs, prB (mkB x) ∧ (wordsB (mkB x)).length ≤ 64 := by
  rw [List.all_eq_true] at h
  refine ⟨fun x hx b hb => ?_, fun x hx => ?_⟩
  · have := h x hx
    unfold okSeg at this
    simp only [Bool.and_eq_true, List.all_eq_true] at this
    simpa using this.1.1 b hb
  · have := h x hx
    unfold okSeg at this
    simp only [Bool.and_eq_true, decide_eq_true_eq] at this
    exact ⟨this.1.2, this.2⟩
theorem flat_unseg {α : Type} (f : α → List UInt8) (g : α → List (List UInt8)) : ∀ (G : List α), (∀ x ∈ G, f x = unseg (g x)) → G.flatMap f = unseg (G.flatMap g)
  | [], _ => rfl
  | x :: t, h => by
    rw [List.flatMap_cons, List.flatMap_cons, flat_unseg f g t fun y hy => h y (List.mem_cons_of_mem _ hy), h x List.mem_cons_self]
    simp [unseg]
theorem flat_one {α β : Type} (f : α → β) : ∀ G : List α, (G.flatMap fun g => [f g]) = G.map f
  | [] => rfl
  | g :: t => by rw [List.flatMap_cons, flat_one f t]; rfl
theorem com_law {G : List Ch3} (hG : ∀ g ∈ G, okG g) {a b c : ByteArray} (ha : bl a = catA G) (hb : bl b = catB G) (hc : bl c = catC G) (sa : a.size ≤ 16384) (sb : b.size ≤ 16384) (sc : c.size ≤ 16384) :
    ∃ LA LC, linesS a = (LA, 0, 0) ∧ linesS b = (LA, 0, 0) ∧ linesS c = (LC, 0, 0) ∧ Sim LA LC := by
  have eA : catA G = unseg (G.map fun g => segA g.1) := by
    unfold catA
    rw [flat_unseg _ (fun g => [segA g.1]) G fun g hg => by rw [(tabA g.1 (hG g hg).1.1 (hG g hg).1.2).1]; simp [unseg], flat_one]
  have eB : catB G = unseg (G.map fun g => segB g.1 g.2.1) := by
    unfold catB
    rw [flat_unseg _ (fun g => [segB g.1 g.2.1]) G fun g hg => by rw [(tabB g.1 (hG g hg).1.1 (hG g hg).1.2 g.2.1 (hG g hg).2.1).1]; simp [unseg], flat_one]
  have eC : catC G = unseg (G.flatMap fun g => segsC g.1 g.2.2) := flat_unseg _ _ G fun g hg => (tabC g.1 (hG g hg).1.1 (hG g hg).1.2 g.2.2 (hG g hg).2.2).1
  have oA : (G.map fun g => segA g.1).all okSeg = true := by
    rw [List.all_eq_true]; intro x hx; obtain ⟨g, hg, rfl⟩ := List.mem_map.1 hx; exact (tabA g.1 (hG g hg).1.1 (hG g hg).1.2).2.1
  have oB : (G.map fun g => segB g.1 g.2.1).all okSeg = true := by
    rw [List.all_eq_true]; intro x hx; obtain ⟨g, hg, rfl⟩ := List.mem_map.1 hx; exact (tabB g.1 (hG g hg).1.1 (hG g hg).1.2 g.2.1 (hG g hg).2.1).2.1
  have oC : (G.flatMap fun g => segsC g.1 g.2.2).all okSeg = true := by
    rw [List.all_eq_true]; intro x hx; obtain ⟨g, hg, hx⟩ := List.mem_flatMap.1 hx
    exact List.all_eq_true.1 (tabC g.1 (hG g hg).1.1 (hG g hg).1.2 g.2.2 (hG g hg).2.2).2.1 x hx
  have lA := lines_unseg (ha.trans eA) sa (okSeg_all oA).1 (okSeg_all oA).2
  have lB := lines_unseg (hb.trans eB) sb (okSeg_all oB).1 (okSeg_all oB).2
  have lC := lines_unseg (hc.trans eC) sc (okSeg_all oC).1 (okSeg_all oC).2
  have wA : (G.map fun g => segA g.1).map (fun x => wordsB (mkB x)) = G.map fun g => wdsR g.1 := by
    rw [List.map_map]; exact List.map_congr_left fun g hg => (tabA g.1 (hG g hg).1.1 (hG g hg).1.2).2.2.1
  have wB : (G.map fun g => segB g.1 g.2.1).map (fun x => wordsB (mkB x)) = G.map fun g => wdsR g.1 := by
    rw [List.map_map]; exact List.map_congr_left fun g hg => (tabB g.1 (hG g hg).1.1 (hG g hg).1.2 g.2.1 (hG g hg).2.1).2.2.1
  have wC : ((G.flatMap fun g => segsC g.1 g.2.2).map fun x => wordsB (mkB x)).filter (fun ws => decide (0 < ws.length)) = G.map fun g => wdsR g.1 := by
    clear lA lB lC wA wB oA oB oC eA eB eC ha hb hc
    induction G with
    | nil => rfl
    | cons g t ih =>
      rw [List.flatMap_cons, List.map_append, List.filter_append, ih fun y hy => hG y (List.mem_cons_of_mem _ hy), (tabC g.1 (hG g List.mem_cons_self).1.1 (hG g List.mem_cons_self).1.2 g.2.2 (hG g List.mem_cons_self).2.2).2.2.1]
      rfl
  rw [wA] at lA
  rw [wB] at lB
  refine ⟨_, _, lA, lB, lC, ?_⟩
  rw [← wC]
  exact numW_sim _ 0 0 (Nat.le_refl _)
end Go.Proofs.YtmaiillomoehgaaDoor.V
