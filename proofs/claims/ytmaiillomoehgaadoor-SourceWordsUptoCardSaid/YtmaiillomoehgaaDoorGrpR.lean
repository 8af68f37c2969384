/- Box Own WrdM Wrd1 Wrd2 Wrd3 Strs LinM Lin1 in one text -/
import Derived.Test.YtmaiillomoehgaaDoorGrpP
import Derived.Deep.AppendLies
import Derived.Deep.RegionLaw
import Derived.Test.YtmaiillomoehgaaDoorGrpQ
import Derived.Deep.Onto
import Derived.IntWalk
set_option linter.unusedVariables false
set_option linter.unusedSimpArgs false
/- A struct that lies in a block of the call's own: its cells known, none of them frozen. -/
namespace Go.Proofs.YtmaiillomoehgaaDoor
open Go.RowKit
structure Box (w : World) (b : Nat) (vs : List Value) : Prop where
  lt : b < w.heap.size
  cell : ∀ (j : Nat) (v : Value), vs[j]? = some v → w.cell? ⟨b, j, none⟩ = some v
  froz : ∀ (j : Nat) (v : Value), vs[j]? = some v → w.frozen? ⟨b, j, none⟩ = false
theorem Box.new (w : World) (c : Array Value) (t : TypeId) : Box (w.alloc (.cells c t)) w.heap.size c.toList :=
  ⟨by simp, fun j v h => by rw [World.cell?_alloc_at _ _ _ _ rfl]; simpa using h, fun j v _ => World.frozen?_alloc_at _ _ _ _ rfl⟩
theorem Box.below {w w' : World} {b B : Nat} {vs : List Value} (h : Box w b vs) (hb : Below B w w') (hB : b < B) : Box w' b vs :=
  ⟨Nat.lt_of_lt_of_le h.lt hb.size, fun j v e => (hb.cell (p := ⟨b, j, none⟩) hB).trans (h.cell j v e), fun j v e => (hb.frozen (p := ⟨b, j, none⟩) hB).trans (h.froz j v e)⟩
theorem Box.keep {w w' : World} {b T : Nat} {vs : List Value} (h : Box w b vs) (hk : Keep T w w') (hT : b ≠ T) : Box w' b vs :=
  ⟨Nat.lt_of_lt_of_le h.lt hk.size, fun j v e => (hk.cell (p := ⟨b, j, none⟩) h.lt hT).trans (h.cell j v e), fun j v e => (hk.frozen (p := ⟨b, j, none⟩) h.lt hT).trans (h.froz j v e)⟩
theorem Box.drew {w : World} {b : Nat} {vs : List Value} (h : Box w b vs) : Box w.drew b vs := ⟨h.lt, h.cell, h.froz⟩
theorem Box.alloc {w : World} {b : Nat} {vs : List Value} (h : Box w b vs) (o : Obj) : Box (w.alloc o) b vs := h.below ((Below.refl _ _).alloc (Nat.le_refl _) o) h.lt
theorem Box.other {w : World} {b : Nat} {vs : List Value} (h : Box w b vs) {c : Nat} (hc : c ≠ b) (j : Nat) (v : Value) : Box (w.setCell ⟨c, j, none⟩ v) b vs :=
  ⟨by simpa using h.lt, fun i u e => by rw [World.cell?_setCell_other _ _ _ _ (by intro e; injection e with e1; exact hc e1)]; exact h.cell i u e, fun i u e => by rw [World.frozen?_setCell]; exact h.froz i u e⟩
theorem Box.set {w : World} {b : Nat} {vs : List Value} (h : Box w b vs) (j : Nat) (hj : j < vs.length) (v : Value) : Box (w.setCell ⟨b, j, none⟩ v) b (vs.set j v) := by
  obtain ⟨x, hx⟩ : ∃ x, vs[j]? = some x := ⟨_, List.getElem?_eq_getElem hj⟩
  have key : ∀ (i : Nat) (u : Value), (vs.set j v)[i]? = some u → ∃ y, vs[i]? = some y := fun i u e => by
    have : i < (vs.set j v).length := by
      rcases Nat.lt_or_ge i (vs.set j v).length with h1 | h1
      · exact h1
      · rw [List.getElem?_eq_none h1] at e; cases e
    exact ⟨_, List.getElem?_eq_getElem (by simpa using this)⟩
  refine ⟨by simpa using h.lt, fun i u e => ?_, fun i u e => ?_⟩
  · by_cases hij : j = i
    · subst hij
      rw [List.getElem?_set] at e
      simp [hj] at e
      subst e
      exact World.cell?_setCell_same _ _ _ (h.cell j x hx)
    · rw [World.cell?_setCell_other _ _ _ _ (by intro e; injection e with _ e1 _; exact hij e1)]
      rw [List.getElem?_set_ne hij] at e
      exact h.cell i u e
  · rw [World.frozen?_setCell]
    obtain ⟨y, hy⟩ := key i u e
    exact h.froz i y hy
end Go.Proofs.YtmaiillomoehgaaDoor
/- Rows that a call owns, and what leaves them as they are. -/
namespace Go.Proofs.YtmaiillomoehgaaDoor
open Go.RowKit
theorem own_keep {w w' : World} {base : Nat} {e : TypeId} {size : Nat} {v : Value} {n : Nat} {xs : List Value} (h : w.ownsRow base e size v n xs) (hk : ∀ g, base ≤ g → g < w.heap.size → w'.heap[g]? = w.heap[g]?) : w'.ownsRow base e size v n xs := by
  refine ⟨h.1, h.2.imp id fun ⟨g, cap, cur, h1, h2, h3, h4⟩ => ⟨g, cap, cur, h1, h2, ?_, h4⟩⟩
  have hlt : g < w.heap.size := by
    rcases Nat.lt_or_ge g w.heap.size with h5 | h5
    · exact h5
    · rw [Array.getElem?_eq_none h5] at h3; cases h3
  rw [hk g h2 hlt]; exact h3
theorem own_below {w w' : World} {base : Nat} {e : TypeId} {size : Nat} {v : Value} {n : Nat} {xs : List Value} (h : w.ownsRow base e size v n xs) (hb : Below w.heap.size w w') : w'.ownsRow base e size v n xs :=
  own_keep h fun g _ hg => hb.block g hg
theorem own_set {w : World} {base : Nat} {e : TypeId} {size : Nat} {v : Value} {n : Nat} {xs : List Value} (h : w.ownsRow base e size v n xs) {b : Nat} (hb : b < base) (j : Nat) (u : Value) : (w.setCell ⟨b, j, none⟩ u).ownsRow base e size v n xs :=
  own_keep h fun g hg _ => Below.heap_setCell _ _ _ _ (by dsimp only; omega)
theorem size_set (w : World) (a : Addr) (u : Value) : (w.setCell a u).heap.size = w.heap.size := by simp [World.setCell]
end Go.Proofs.YtmaiillomoehgaaDoor
/- Plain laws of package source: the words of a line. -/
namespace Go.Proofs.YtmaiillomoehgaaDoor
def blk (c : UInt8) : Bool := c == 32 || c == 9
def sepB (c : UInt8) : Bool := c == 44 || c == 61
def flush (cur : List UInt8) : List (List UInt8) := if cur = [] then [] else [cur]
/-- the words of a line; cur: the beginning of the word that is being read -/
def wGo : List UInt8 → List UInt8 → List (List UInt8)
  | [], cur => flush cur
  | c :: l, cur => if c = 35 then flush cur else if blk c then flush cur ++ wGo l [] else if sepB c then flush cur ++ [c] :: wGo l [] else wGo l (cur ++ [c])
def wordsL (l : List UInt8) : List (List UInt8) := wGo l []
/-- where the word that is being read begins -/
def CurAt (l : List UInt8) (k : Nat) (st : Int) (cur : List UInt8) : Prop :=
  (st = -1 ∧ cur = []) ∨ ∃ f : Nat, st = f ∧ f < k ∧ k ≤ l.length ∧ cur = (l.drop f).take (k - f)
theorem CurAt.ne {l : List UInt8} {k : Nat} {st : Int} {cur : List UInt8} (h : CurAt l k st cur) : cur = [] ↔ st < 0 := by
  rcases h with ⟨rfl, rfl⟩ | ⟨f, rfl, h1, h2, rfl⟩
  · simp
  · constructor
    · intro h
      have := congrArg List.length h
      simp at this
      omega
    · intro h; omega
theorem CurAt.flush {l : List UInt8} {k : Nat} {st : Int} {cur : List UInt8} (h : CurAt l k st cur) : flush cur = if st < 0 then [] else [(l.drop st.toNat).take (k - st.toNat)] := by
  have hn := h.ne
  rcases h with ⟨rfl, rfl⟩ | ⟨f, rfl, h1, h2, rfl⟩
  · rfl
  · have hf : ¬ ((f : Int) < 0) := by omega
    rw [if_neg hf, Int.toNat_natCast]
    unfold Proofs.YtmaiillomoehgaaDoor.flush
    rw [if_neg (fun h => hf (hn.1 h))]
theorem CurAt.more {l : List UInt8} {k : Nat} {st : Int} {cur : List UInt8} (h : CurAt l k st cur) (hk : k < l.length) : CurAt l (k + 1) (if st < 0 then k else st) (cur ++ [l[k]]) := by
  rcases h with ⟨rfl, rfl⟩ | ⟨f, rfl, h1, h2, rfl⟩
  · refine .inr ⟨k, by simp, by omega, by omega, ?_⟩
    rw [show k + 1 - k = 1 by omega, List.drop_eq_getElem_cons hk]
    rfl
  · refine .inr ⟨f, by simp; omega, by omega, by omega, ?_⟩
    rw [show k + 1 - f = (k - f) + 1 by omega, List.take_succ_eq_append_getElem (by simp; omega), List.getElem_drop]
    congr 3
    omega
theorem flush_len (cur : List UInt8) : (flush cur).length ≤ cur.length := by
  unfold flush; split
  · simp
  · rename_i h; simp; exact List.length_pos_iff.2 h
theorem wGo_len : ∀ (l cur : List UInt8), (wGo l cur).length ≤ l.length + cur.length
  | [], cur => by simp only [wGo, List.length_nil]; have := flush_len cur; omega
  | c :: l, cur => by
    have hf := flush_len cur
    have h0 := wGo_len l []
    have h1 := wGo_len l (cur ++ [c])
    simp only [List.length_nil, List.length_append, List.length_singleton, List.length_cons] at *
    simp only [wGo]
    split
    · omega
    · split
      · simp; omega
      · split
        · simp; omega
        · omega
/-- a word's bytes: neither blank nor a separator -/
def plainB (c : UInt8) : Bool := !(blk c) && !(sepB c)
theorem wGo_plain : ∀ (x l cur : List UInt8), (∀ c ∈ x, plainB c = true ∧ c ≠ 35) → wGo (x ++ l) cur = wGo l (cur ++ x)
  | [], l, cur, _ => by simp
  | c :: x, l, cur, h => by
    have hc := h c (by simp)
    simp only [plainB, Bool.and_eq_true, Bool.not_eq_true'] at hc
    rw [List.cons_append, wGo, if_neg hc.2, hc.1.1, hc.1.2, if_neg Bool.false_ne_true, if_neg Bool.false_ne_true, wGo_plain x l _ fun d hd => h d (by simp [hd])]
    simp
theorem wGo_hash : ∀ (l cur : List UInt8), wGo l cur = wGo (l.takeWhile fun c => !(c == 35)) cur
  | [], cur => rfl
  | c :: l, cur => by
    by_cases hc : c = 35
    · subst hc
      simp [wGo]
    · have hb : (c == 35) = false := by simpa using hc
      rw [List.takeWhile_cons, hb]
      simp only [Bool.not_false, if_true, wGo, if_neg hc]
      rw [wGo_hash l [], wGo_hash l (cur ++ [c])]
theorem parts_head : ∀ (l : List UInt8), (partsL 35 l).head? = some (l.takeWhile fun c => !(c == 35))
  | [] => rfl
  | c :: l => by
    by_cases hc : c = 35
    · subst hc; simp [partsL]
    · have hb : (c == 35) = false := by simpa using hc
      have ih := parts_head l
      rw [partsL, if_neg hc, List.takeWhile_cons, hb]
      cases hp : partsL 35 l with
      | nil => exact absurd hp (partsL_ne 35 l)
      | cons a t =>
        rw [hp] at ih
        simp only [List.head?_cons, Option.some.injEq] at ih
        simp [glueL, ih]
end Go.Proofs.YtmaiillomoehgaaDoor
/- Walks of package source: the closure of words. -/
namespace Go.Proofs.YtmaiillomoehgaaDoor
open Go.RowKit
/-- the captured variables of words: the line, the words, where a word begins -/
structure WS (B : Nat) (s : ByteArray) (out : List (List UInt8)) (st : Int) (v : Value) (w : World) : Prop where
  line : Box w B [.string s]
  outs : Box w (B + 1) [v]
  start : Box w (B + 2) [.int .i64 st]
  own : w.ownsRow (B + 3) 9 1 v out.length (strCells out)
  size : B + 3 ≤ w.heap.size
theorem ws_start {B : Nat} {s : ByteArray} {out : List (List UInt8)} {st : Int} {v : Value} {w : World} (h : WS B s out st v w) (n : Int) : WS B s out n v (w.setCell ⟨B + 2, 0, none⟩ (.int .i64 n)) :=
  ⟨h.line.other (by omega) _ _, h.outs.other (by omega) _ _, by simpa using h.start.set 0 (by simp) (.int .i64 n), own_set h.own (by omega) _ _, by rw [size_set]; exact h.size⟩
theorem ws_below {B : Nat} {s : ByteArray} {out : List (List UInt8)} {st : Int} {v : Value} {w w' : World} (h : WS B s out st v w) (hb : Below w.heap.size w w') : WS B s out st v w' :=
  ⟨h.line.below hb h.line.lt, h.outs.below hb h.outs.lt, h.start.below hb h.start.lt, own_below h.own hb, Nat.le_trans h.size hb.size⟩
/-- a word has been appended, and stored -/
theorem ws_app {B : Nat} {s : ByteArray} {out : List (List UInt8)} {st : Int} {v v' : Value} {w w' : World} (h : WS B s out st v w) (hb : Below (B + 3) w w') (l : List UInt8)
    (hown : w'.ownsRow (B + 3) 9 1 v' (out.length + 1) (strCells out ++ [.string ⟨l.toArray⟩])) : WS B s (out ++ [l]) st v' (w'.setCell ⟨B + 1, 0, none⟩ v') :=
  ⟨(h.line.below hb (by omega)).other (by omega) _ _, by simpa using (h.outs.below hb (by omega)).set 0 (by simp) v', (h.start.below hb (by omega)).other (by omega) _ _,
    by rw [strCells_snoc, List.length_append]; exact own_set hown (by omega) _ _, by rw [size_set]; exact Nat.le_trans h.size hb.size⟩
set_option maxHeartbeats 2000000 in
theorem src_words1 (B : Nat) (s : ByteArray) (hs : s.size ≤ 4398046511104) (out : List (List UInt8)) (hout : out.length ≤ 8796093022207) (k : Nat) (hk : k ≤ s.size) (st : Int) (hst : st = -1 ∨ (0 ≤ st ∧ st ≤ k)) (v : Value) (w : World) (h : WS B s out st v w) :
    Calls Tryd.prog 45 #[.int .i64 k, .pointer (some ⟨B + 2, 0, none⟩), .pointer (some ⟨B + 1, 0, none⟩), .pointer (some ⟨B, 0, none⟩)] w fun e w' =>
      e = .returned (.tuple #[]) ∧ Below B w w' ∧ ∃ v', WS B s (out ++ if st < 0 then [] else [(s.data.toList.drop st.toNat).take (k - st.toNat)]) (-1) v' w' := by
  have H := Lib.hid h
  have c0 := h.line.cell 0 _ rfl
  have c1 := h.outs.cell 0 _ rfl
  have c2 := h.start.cell 0 _ rfl
  have f1 := h.outs.froz 0 _ rfl
  have f2 := h.start.froz 0 _ rfl
  have z0 := h.line.lt
  have z1 := h.outs.lt
  have z2 := h.start.lt
  have z3 := h.size
  clear h
  by_cases hn : st < 0
  · rw [if_pos hn, List.append_nil]
    go_enter Tryd.func45, Tryd.ntmps45
    go_wp2
    refine bodyPost_end (v := .tuple #[]) (by simp [results, Tryd.results45, go_sem]) rfl ?_
    exact ⟨rfl, (Below.refl _ _).setCell (p := ⟨B + 2, 0, none⟩) (by dsimp only; omega) _, v, ws_start H.out (-1)⟩
  · rw [if_neg hn]
    have h0 : 0 ≤ st := by omega
    obtain ⟨f, rfl⟩ := Int.eq_ofNat_of_zero_le h0
    have hfk : f ≤ k := by omega
    clear hst
    go_enter Tryd.func45, Tryd.ntmps45
    go_wp2_with fail
    obtain ⟨i0, hi0, hz0, hz1, hz2⟩ := info_parts infoStr
    go_region_law ((refine step_append_lies _ rfl (.tmp 7) (.tmp 12) 29 rfl (B + 3) 9 i0 (.string ⟨#[]⟩) 1 16 Tryd.underlying29 hi0 hz0 hz1 hz2 rfl (by decide) v out.length (strCells out) (by rfl) (own_below H.out.own (by ((repeat (first | exact Below.refl _ _ | refine Below.drew ?_ | refine Below.setCell ?_ (by first | (simp; done) | (simp; omega) | omega) _ | refine Below.alloc ?_ (by first | (simp; done) | (simp; omega) | omega) _)); done))) ⟨w.heap.size, 0, none⟩ 1 1 [.string (s.extract f k)] (by rfl) rfl (World.news_of_block (by first | exact heap_alloc_new w _ | exact heap_alloc_new w.drew _)) (by intro u hu; simp at hu; subst hu; rfl) (by omega) (by unfold maxLen; omega) (by omega) (by simp; omega) (w.heap.size + 1) (by simp) ?_; intro g cap w1 hown1 hgrow hat hlt; have hb3 : Below (B + 3) w w1 := (by refine Below.trans ?_ (grown_below (own_below H.out.own ?_) hgrow (by simp; omega)) <;> ((repeat (first | exact Below.refl _ _ | refine Below.drew ?_ | refine Below.setCell ?_ (by first | (simp; done) | (simp; omega) | omega) _ | refine Below.alloc ?_ (by first | (simp; done) | (simp; omega) | omega) _)); done)); have d1 := (hb3.cell (p := ⟨B + 1, 0, none⟩) (by dsimp only; omega)).trans c1; have d2 := (hb3.cell (p := ⟨B + 2, 0, none⟩) (by dsimp only; omega)).trans c2; have e1 := (hb3.frozen (p := ⟨B + 1, 0, none⟩) (by dsimp only; omega)).trans f1; have e2 := (hb3.frozen (p := ⟨B + 2, 0, none⟩) (by dsimp only; omega)).trans f2; have HO1 := Lib.hid hown1; clear hown1 hgrow hat))
    all_goals
      go_wp2
      refine bodyPost_end (v := .tuple #[]) (by simp [results, Tryd.results45, go_sem]) rfl ?_
      refine ⟨rfl, ?_, _, ws_start (ws_app H.out hb3 _ (by rw [← ext_str]; exact HO1.out)) (-1)⟩
      exact ((hb3.mono (by omega)).setCell (p := ⟨B + 1, 0, none⟩) (by dsimp only; omega) _).setCell (p := ⟨B + 2, 0, none⟩) (by dsimp only; omega) _
end Go.Proofs.YtmaiillomoehgaaDoor
/- Walks of package source: words (printed by gen_wrd2.py). -/
namespace Go.Proofs.YtmaiillomoehgaaDoor
open Go.RowKit
theorem plain_of {c : UInt8} (h : c.toNat ≠ 35 ∧ c.toNat ≠ 32 ∧ c.toNat ≠ 9 ∧ c.toNat ≠ 44 ∧ c.toNat ≠ 61) : ¬ c = 35 ∧ blk c = false ∧ sepB c = false := by
  have hn : ∀ d : UInt8, c.toNat ≠ d.toNat → ¬ c = d := fun d h1 h2 => h1 (by rw [h2])
  obtain ⟨h1, h2, h3, h4, h5⟩ := h
  refine ⟨hn 35 h1, ?_, ?_⟩
  · simp only [blk, Bool.or_eq_false_iff, beq_eq_false_iff_ne]; exact ⟨hn 32 h2, hn 9 h3⟩
  · simp only [sepB, Bool.or_eq_false_iff, beq_eq_false_iff_ne]; exact ⟨hn 44 h4, hn 61 h5⟩
theorem word_cases (c : Nat) : c = 35 ∨ c = 32 ∨ c = 9 ∨ c = 44 ∨ c = 61 ∨ (c ≠ 35 ∧ c ≠ 32 ∧ c ≠ 9 ∧ c ≠ 44 ∧ c ≠ 61) := by omega
/-- what the closure appends is the word that was being read -/
theorem ws_cur {B : Nat} {s : ByteArray} {out : List (List UInt8)} {st : Int} {v v' : Value} {w w' : World} {k : Nat} {cur : List UInt8} (_ : WS B s out st v w) (hc : Hid (CurAt s.data.toList k st cur)) (h : WS B s (out ++ if st < 0 then [] else [(s.data.toList.drop st.toNat).take (k - st.toNat)]) (-1) v' w') : WS B s (out ++ flush cur) (-1) v' w' := by
  rw [hc.out.flush]; exact h
set_option maxHeartbeats 8000000 in
theorem src_words (s : ByteArray) (hs : s.size ≤ 4398046511104) (w : World) :
    Calls Tryd.prog 34 #[.string s] w fun e w' => ∃ v, e = .returned v ∧ w'.ownsRow w.heap.size 9 1 v (wordsL s.data.toList).length (strCells (wordsL s.data.toList)) ∧ Below w.heap.size w w' := by
  have HLN := Lib.hid (size_len s)
  go_enter Tryd.func34, Tryd.ntmps34
  go_wp2
  have hW0 : WS w.heap.size s [] (-1) (.slice none 0 0) (((w.alloc (.cells #[.string s] 9)).alloc (.cells #[.slice none 0 0] 29)).alloc (.cells #[.int .i64 (-1)] 3)) := by
    have h1 := ((Box.new w #[.string s] 9).alloc (.cells #[.slice none 0 0] 29)).alloc (.cells #[.int .i64 (-1)] 3)
    have h2 := (Box.new (w.alloc (.cells #[.string s] 9)) #[.slice none 0 0] 29).alloc (.cells #[.int .i64 (-1)] 3)
    have h3 := Box.new ((w.alloc (.cells #[.string s] 9)).alloc (.cells #[.slice none 0 0] 29)) #[.int .i64 (-1)] 3
    rw [show (w.alloc (.cells #[.string s] 9)).heap.size = w.heap.size + 1 by simp] at h2
    rw [show ((w.alloc (.cells #[.string s] 9)).alloc (.cells #[.slice none 0 0] 29)).heap.size = w.heap.size + 2 by simp] at h3
    exact ⟨h1, h2, h3, World.ownsRow_nil _ _ _ _, by simp⟩
  go_step3
  go_wp2
  go_step3
  go_wp2
  go_loopw [6] (fun i wr => ∃ (k : Nat) (out : List (List UInt8)) (st : Int) (cur : List UInt8) (v : Value), k ≤ s.size ∧ i = .int .i64 k ∧ WS w.heap.size s out st v wr ∧ CurAt s.data.toList k st cur ∧ wordsL s.data.toList = out ++ wGo (s.data.toList.drop k) cur ∧ Below w.heap.size w wr ∧ out.length + cur.length ≤ k)
    (fun i _ => s.size - (intOf i).toNat)
  case atStart => exact ⟨0, [], -1, [], _, by omega, rfl, hW0, .inl ⟨rfl, rfl⟩, rfl, by ((repeat (first | exact Below.refl _ _ | refine Below.drew ?_ | refine Below.setCell ?_ (by first | (simp; done) | (simp; omega) | omega) _ | refine Below.alloc ?_ (by first | (simp; done) | (simp; omega) | omega) _)); done), by simp⟩
  case round =>
    obtain ⟨k, out, st, cur, v, hk, rfl, hw, hcur, hg, hb, hol⟩ := hrel
    clear hW0
    have HW := Lib.hid hw
    have HCUR := Lib.hid hcur
    have hcur' := HCUR
    have HG := Lib.hid hg
    have HB := Lib.hid hb
    have hst : st = -1 ∨ (0 ≤ st ∧ st ≤ k) := by
      rcases hcur with ⟨h, _⟩ | ⟨f, h, h1, _⟩
      · exact .inl h
      · exact .inr (by omega)
    have c0 := hw.line.cell 0 _ rfl
    have c1 := hw.outs.cell 0 _ rfl
    have c2 := hw.start.cell 0 _ rfl
    have f2 := hw.start.froz 0 _ rfl
    have z0 := hw.line.lt
    have z1 := hw.outs.lt
    have z2 := hw.start.lt
    have hsz := hb.size
    clear hw hcur hg hb
    by_cases hlt : k < s.size
    · have hltL : k < s.data.toList.length := by rw [← HLN.out]; exact hlt
      have hc8 := UInt8.toNat_lt s[k]
      rcases word_cases s[k].toNat with h | h | h | h | h | h
      · have hc : s.data.toList[k] = 35 := UInt8.toNat_inj.1 h
        have HC := Lib.hid hc
        have g35 := (eqB 35 (show (s[k].toNat : Int) = 35 by omega)).2
        clear hc h
        have hfin : wordsL s.data.toList = out ++ flush cur := by rw [HG.out, List.drop_eq_getElem_cons hltL, wGo, if_pos HC.out]
        have HF := Lib.hid hfin
        clear hfin
        go_wp2_with (go_at_call 45; refine (src_words1 w.heap.size s hs out (by omega) k (by omega) st hst v _ HW.out).mono ?_; rintro e w1 ⟨rfl, hb1, v1, hws1⟩; have HW1 := Lib.hid (ws_cur HW.out hcur' hws1); clear hws1; have d0 := HW1.out.line.cell 0 _ rfl; have d1 := HW1.out.outs.cell 0 _ rfl; have e1 := HW1.out.outs.froz 0 _ rfl; have y0 := HW1.out.line.lt; have y1 := HW1.out.outs.lt; have y3 := HW1.out.size)
        try rw [Exit.noGoto_ret]
        go_ret
        exact ⟨v1, rfl, by rw [HF.out]; exact HW1.out.own.mono (by omega), HB.out.trans hb1⟩
      · have hc : s.data.toList[k] = 32 := UInt8.toNat_inj.1 h
        have HC := Lib.hid hc
        have g35 := (neqB 35 (show (s[k].toNat : Int) ≠ 35 by omega)).2
        have g32 := (eqB 32 (show (s[k].toNat : Int) = 32 by omega)).2
        clear hc h
        have hnx : wordsL s.data.toList = (out ++ flush cur) ++ wGo (s.data.toList.drop (k + 1)) [] := by rw [HG.out, List.drop_eq_getElem_cons hltL, wGo, if_neg (by rw [HC.out]; decide), if_pos (by rw [HC.out]; rfl), List.append_assoc]
        have HN := Lib.hid hnx
        clear hnx
        go_wp2_with (go_at_call 45; refine (src_words1 w.heap.size s hs out (by omega) k (by omega) st hst v _ HW.out).mono ?_; rintro e w1 ⟨rfl, hb1, v1, hws1⟩; have HW1 := Lib.hid (ws_cur HW.out hcur' hws1); clear hws1; have d0 := HW1.out.line.cell 0 _ rfl; have d1 := HW1.out.outs.cell 0 _ rfl; have e1 := HW1.out.outs.froz 0 _ rfl; have y0 := HW1.out.line.lt; have y1 := HW1.out.outs.lt; have y3 := HW1.out.size)
        go_roundw
        case rel => exact ⟨k + 1, out ++ flush cur, -1, [], v1, by omega, by go_num, HW1.out, .inl ⟨rfl, rfl⟩, HN.out, HB.out.trans hb1, by have := flush_len cur; simp only [List.length_append, List.length_nil]; omega⟩
        case measure => simp [intOf]; omega
      · have hc : s.data.toList[k] = 9 := UInt8.toNat_inj.1 h
        have HC := Lib.hid hc
        have g35 := (neqB 35 (show (s[k].toNat : Int) ≠ 35 by omega)).2
        have g32 := (neqB 32 (show (s[k].toNat : Int) ≠ 32 by omega)).2
        have g9 := (eqB 9 (show (s[k].toNat : Int) = 9 by omega)).2
        clear hc h
        have hnx : wordsL s.data.toList = (out ++ flush cur) ++ wGo (s.data.toList.drop (k + 1)) [] := by rw [HG.out, List.drop_eq_getElem_cons hltL, wGo, if_neg (by rw [HC.out]; decide), if_pos (by rw [HC.out]; rfl), List.append_assoc]
        have HN := Lib.hid hnx
        clear hnx
        go_wp2_with (go_at_call 45; refine (src_words1 w.heap.size s hs out (by omega) k (by omega) st hst v _ HW.out).mono ?_; rintro e w1 ⟨rfl, hb1, v1, hws1⟩; have HW1 := Lib.hid (ws_cur HW.out hcur' hws1); clear hws1; have d0 := HW1.out.line.cell 0 _ rfl; have d1 := HW1.out.outs.cell 0 _ rfl; have e1 := HW1.out.outs.froz 0 _ rfl; have y0 := HW1.out.line.lt; have y1 := HW1.out.outs.lt; have y3 := HW1.out.size)
        go_roundw
        case rel => exact ⟨k + 1, out ++ flush cur, -1, [], v1, by omega, by go_num, HW1.out, .inl ⟨rfl, rfl⟩, HN.out, HB.out.trans hb1, by have := flush_len cur; simp only [List.length_append, List.length_nil]; omega⟩
        case measure => simp [intOf]; omega
      · have hc : s.data.toList[k] = 44 := UInt8.toNat_inj.1 h
        have HC := Lib.hid hc
        have g35 := (neqB 35 (show (s[k].toNat : Int) ≠ 35 by omega)).2
        have g32 := (neqB 32 (show (s[k].toNat : Int) ≠ 32 by omega)).2
        have g9 := (neqB 9 (show (s[k].toNat : Int) ≠ 9 by omega)).2
        have g44 := (eqB 44 (show (s[k].toNat : Int) = 44 by omega)).2
        clear hc h
        obtain ⟨o2, ho2⟩ : ∃ o2, o2 = out ++ flush cur := ⟨_, rfl⟩
        have hnx : wordsL s.data.toList = (o2 ++ [[(44 : UInt8)]]) ++ wGo (s.data.toList.drop (k + 1)) [] := by rw [HG.out, List.drop_eq_getElem_cons hltL, wGo, if_neg (by rw [HC.out]; decide), if_neg (by rw [HC.out]; decide), if_pos (by rw [HC.out]; rfl), HC.out, ho2]; simp
        have HN := Lib.hid hnx
        have hone : (s.data.toList.drop k).take (k + 1 - k) = [(44 : UInt8)] := by rw [show k + 1 - k = 1 by omega, List.drop_eq_getElem_cons hltL, HC.out]; rfl
        have HONE := Lib.hid hone
        have hol : o2.length ≤ k := by have := flush_len cur; rw [ho2]; simp only [List.length_append]; omega
        have HO2 := Lib.hid ho2
        clear ho2
        clear hnx hone
        go_wp2_with (go_at_call 45; refine (src_words1 w.heap.size s hs out (by omega) k (by omega) st hst v _ HW.out).mono ?_; rintro e w1 ⟨rfl, hb1, v1, hws1⟩; have HW1 := Lib.hid (ws_cur HW.out hcur' hws1); clear hws1; have d0 := HW1.out.line.cell 0 _ rfl; have d1 := HW1.out.outs.cell 0 _ rfl; have e1 := HW1.out.outs.froz 0 _ rfl; have y0 := HW1.out.line.lt; have y1 := HW1.out.outs.lt; have y3 := HW1.out.size)
        rw [← HO2.out] at HW1
        clear c0 c1 c2 f2 z0 z1 z2
        have q1 : IntKind.i64.wrap ((k : Int) + 1) = (k : Int) + 1 := IntWalk.i64_in _ ⟨by omega, by omega⟩
        have q2 : (0 : Int) ≤ (k : Int) + 1 := by omega
        have q3 : ((k : Int) + 1).toNat = k + 1 := by omega
        have q4 : (k : Int) + 1 ≤ (s.size : Int) := by omega
        have q5 : (k : Int) ≤ (k : Int) + 1 := by omega
        obtain ⟨i0, hi0, hz0, hz1, hz2⟩ := info_parts infoStr
        go_region_law ((refine step_append_lies _ rfl (.tmp 35) (.tmp 41) 29 rfl (w.heap.size + 3) 9 i0 (.string ⟨#[]⟩) 1 16 Tryd.underlying29 hi0 hz0 hz1 hz2 rfl (by decide) v1 o2.length (strCells o2) (by rfl) (own_below HW1.out.own (by ((repeat (first | exact Below.refl _ _ | refine Below.drew ?_ | refine Below.setCell ?_ (by first | (simp; done) | (simp; omega) | omega) _ | refine Below.alloc ?_ (by first | (simp; done) | (simp; omega) | omega) _)); done))) ⟨w1.heap.size, 0, none⟩ 1 1 [.string (s.extract k (k + 1))] (by rfl) rfl (World.news_of_block (by first | exact heap_alloc_new w1 _ | exact heap_alloc_new w1.drew _)) (by intro u hu; simp at hu; subst hu; rfl) (by omega) (by unfold maxLen; omega) (by omega) (by simp; omega) (w1.heap.size + 1) (by simp) ?_; intro g cap w2 hown1 hgrow hat hlt; have hb3 : Below (w.heap.size + 3) w1 w2 := (by refine Below.trans ?_ (grown_below (own_below HW1.out.own ?_) hgrow (by simp; omega)) <;> ((repeat (first | exact Below.refl _ _ | refine Below.drew ?_ | refine Below.setCell ?_ (by first | (simp; done) | (simp; omega) | omega) _ | refine Below.alloc ?_ (by first | (simp; done) | (simp; omega) | omega) _)); done)); have d1' := (hb3.cell (p := ⟨w.heap.size + 1, 0, none⟩) (by dsimp only; omega)).trans d1; have e1' := (hb3.frozen (p := ⟨w.heap.size + 1, 0, none⟩) (by dsimp only; omega)).trans e1; have HO1 := Lib.hid hown1; clear hown1 hgrow hat))
        all_goals
          have HW2 := Lib.hid (ws_app HW1.out hb3 _ (by rw [← ext_str]; exact HO1.out))
          have HB2 := Lib.hid ((HB.out.trans hb1).trans ((hb3.mono (Nat.le_add_right _ 3)).setCell (p := ⟨w.heap.size + 1, 0, none⟩) (Nat.le_add_right _ 1) (.slice (some ⟨g, 0, none⟩) (o2.length + 1) cap)))
          rw [HONE.out] at HW2
          clear q1 q2 q3 q4 q5 hb3 d1' e1' HO1 hb1 d0 d1 e1 y0 y1 y3
          go_wp2
          go_roundw
          case rel => exact ⟨k + 1, o2 ++ [[(44 : UInt8)]], -1, [], _, by omega, by go_num, HW2.out, .inl ⟨rfl, rfl⟩, HN.out, HB2.out, by simp only [List.length_append, List.length_nil, List.length_singleton] at hol ⊢; omega⟩
          case measure => simp [intOf]; omega
      · have hc : s.data.toList[k] = 61 := UInt8.toNat_inj.1 h
        have HC := Lib.hid hc
        have g35 := (neqB 35 (show (s[k].toNat : Int) ≠ 35 by omega)).2
        have g32 := (neqB 32 (show (s[k].toNat : Int) ≠ 32 by omega)).2
        have g9 := (neqB 9 (show (s[k].toNat : Int) ≠ 9 by omega)).2
        have g44 := (neqB 44 (show (s[k].toNat : Int) ≠ 44 by omega)).2
        have g61 := (eqB 61 (show (s[k].toNat : Int) = 61 by omega)).2
        clear hc h
        obtain ⟨o2, ho2⟩ : ∃ o2, o2 = out ++ flush cur := ⟨_, rfl⟩
        have hnx : wordsL s.data.toList = (o2 ++ [[(61 : UInt8)]]) ++ wGo (s.data.toList.drop (k + 1)) [] := by rw [HG.out, List.drop_eq_getElem_cons hltL, wGo, if_neg (by rw [HC.out]; decide), if_neg (by rw [HC.out]; decide), if_pos (by rw [HC.out]; rfl), HC.out, ho2]; simp
        have HN := Lib.hid hnx
        have hone : (s.data.toList.drop k).take (k + 1 - k) = [(61 : UInt8)] := by rw [show k + 1 - k = 1 by omega, List.drop_eq_getElem_cons hltL, HC.out]; rfl
        have HONE := Lib.hid hone
        have hol : o2.length ≤ k := by have := flush_len cur; rw [ho2]; simp only [List.length_append]; omega
        have HO2 := Lib.hid ho2
        clear ho2
        clear hnx hone
        go_wp2_with (go_at_call 45; refine (src_words1 w.heap.size s hs out (by omega) k (by omega) st hst v _ HW.out).mono ?_; rintro e w1 ⟨rfl, hb1, v1, hws1⟩; have HW1 := Lib.hid (ws_cur HW.out hcur' hws1); clear hws1; have d0 := HW1.out.line.cell 0 _ rfl; have d1 := HW1.out.outs.cell 0 _ rfl; have e1 := HW1.out.outs.froz 0 _ rfl; have y0 := HW1.out.line.lt; have y1 := HW1.out.outs.lt; have y3 := HW1.out.size)
        rw [← HO2.out] at HW1
        clear c0 c1 c2 f2 z0 z1 z2
        have q1 : IntKind.i64.wrap ((k : Int) + 1) = (k : Int) + 1 := IntWalk.i64_in _ ⟨by omega, by omega⟩
        have q2 : (0 : Int) ≤ (k : Int) + 1 := by omega
        have q3 : ((k : Int) + 1).toNat = k + 1 := by omega
        have q4 : (k : Int) + 1 ≤ (s.size : Int) := by omega
        have q5 : (k : Int) ≤ (k : Int) + 1 := by omega
        obtain ⟨i0, hi0, hz0, hz1, hz2⟩ := info_parts infoStr
        go_region_law ((refine step_append_lies _ rfl (.tmp 35) (.tmp 41) 29 rfl (w.heap.size + 3) 9 i0 (.string ⟨#[]⟩) 1 16 Tryd.underlying29 hi0 hz0 hz1 hz2 rfl (by decide) v1 o2.length (strCells o2) (by rfl) (own_below HW1.out.own (by ((repeat (first | exact Below.refl _ _ | refine Below.drew ?_ | refine Below.setCell ?_ (by first | (simp; done) | (simp; omega) | omega) _ | refine Below.alloc ?_ (by first | (simp; done) | (simp; omega) | omega) _)); done))) ⟨w1.heap.size, 0, none⟩ 1 1 [.string (s.extract k (k + 1))] (by rfl) rfl (World.news_of_block (by first | exact heap_alloc_new w1 _ | exact heap_alloc_new w1.drew _)) (by intro u hu; simp at hu; subst hu; rfl) (by omega) (by unfold maxLen; omega) (by omega) (by simp; omega) (w1.heap.size + 1) (by simp) ?_; intro g cap w2 hown1 hgrow hat hlt; have hb3 : Below (w.heap.size + 3) w1 w2 := (by refine Below.trans ?_ (grown_below (own_below HW1.out.own ?_) hgrow (by simp; omega)) <;> ((repeat (first | exact Below.refl _ _ | refine Below.drew ?_ | refine Below.setCell ?_ (by first | (simp; done) | (simp; omega) | omega) _ | refine Below.alloc ?_ (by first | (simp; done) | (simp; omega) | omega) _)); done)); have d1' := (hb3.cell (p := ⟨w.heap.size + 1, 0, none⟩) (by dsimp only; omega)).trans d1; have e1' := (hb3.frozen (p := ⟨w.heap.size + 1, 0, none⟩) (by dsimp only; omega)).trans e1; have HO1 := Lib.hid hown1; clear hown1 hgrow hat))
        all_goals
          have HW2 := Lib.hid (ws_app HW1.out hb3 _ (by rw [← ext_str]; exact HO1.out))
          have HB2 := Lib.hid ((HB.out.trans hb1).trans ((hb3.mono (Nat.le_add_right _ 3)).setCell (p := ⟨w.heap.size + 1, 0, none⟩) (Nat.le_add_right _ 1) (.slice (some ⟨g, 0, none⟩) (o2.length + 1) cap)))
          rw [HONE.out] at HW2
          clear q1 q2 q3 q4 q5 hb3 d1' e1' HO1 hb1 d0 d1 e1 y0 y1 y3
          go_wp2
          go_roundw
          case rel => exact ⟨k + 1, o2 ++ [[(61 : UInt8)]], -1, [], _, by omega, by go_num, HW2.out, .inl ⟨rfl, rfl⟩, HN.out, HB2.out, by simp only [List.length_append, List.length_nil, List.length_singleton] at hol ⊢; omega⟩
          case measure => simp [intOf]; omega
      · have hp : ¬ s.data.toList[k] = 35 ∧ blk s.data.toList[k] = false ∧ sepB s.data.toList[k] = false := plain_of h
        have HP := Lib.hid hp
        obtain ⟨n35, n32, n9, n44, n61⟩ := h
        have g35 := (neqB 35 (show (s[k].toNat : Int) ≠ 35 by omega)).2
        have g32 := (neqB 32 (show (s[k].toNat : Int) ≠ 32 by omega)).2
        have g9 := (neqB 9 (show (s[k].toNat : Int) ≠ 9 by omega)).2
        have g44 := (neqB 44 (show (s[k].toNat : Int) ≠ 44 by omega)).2
        have g61 := (neqB 61 (show (s[k].toNat : Int) ≠ 61 by omega)).2
        have hnx : wordsL s.data.toList = out ++ wGo (s.data.toList.drop (k + 1)) (cur ++ [s.data.toList[k]]) := by rw [HG.out, List.drop_eq_getElem_cons hltL, wGo, if_neg HP.out.1, HP.out.2.1, HP.out.2.2, if_neg Bool.false_ne_true, if_neg Bool.false_ne_true]
        have HN := Lib.hid hnx
        have hmore := HCUR.out.more hltL
        clear hp hnx n35 n32 n9 n44 n61
        by_cases hn : st < 0
        · rw [if_pos hn] at hmore
          have HM := Lib.hid hmore
          clear hmore
          go_wp2
          go_roundw
          case rel => exact ⟨k + 1, out, k, cur ++ [s.data.toList[k]], v, by omega, by go_num, ws_start HW.out k, HM.out, HN.out, HB.out.setCell (p := ⟨w.heap.size + 2, 0, none⟩) (Nat.le_add_right _ 2) _, by simp only [List.length_append, List.length_singleton]; omega⟩
          case measure => simp [intOf]; omega
        · rw [if_neg hn] at hmore
          have HM := Lib.hid hmore
          clear hmore
          go_wp2
          go_roundw
          case rel => exact ⟨k + 1, out, st, cur ++ [s.data.toList[k]], v, by omega, by go_num, HW.out, HM.out, HN.out, HB.out, by simp only [List.length_append, List.length_singleton]; omega⟩
          case measure => simp [intOf]; omega
    · obtain rfl : k = s.size := by omega
      have hfin : wordsL s.data.toList = out ++ flush cur := by rw [HG.out, List.drop_of_length_le (by rw [← HLN.out]; exact Nat.le_refl _), wGo]
      have HF := Lib.hid hfin
      clear hfin
      go_wp2_with (go_at_call 45; refine (src_words1 w.heap.size s hs out (by omega) s.size (Nat.le_refl _) st hst v _ HW.out).mono ?_; rintro e w1 ⟨rfl, hb1, v1, hws1⟩; have HW1 := Lib.hid (ws_cur HW.out hcur' hws1); clear hws1; have d1 := HW1.out.outs.cell 0 _ rfl; have y1 := HW1.out.outs.lt)
      try rw [Exit.noGoto_ret]
      go_ret
      exact ⟨v1, rfl, by rw [HF.out]; exact HW1.out.own.mono (by omega), HB.out.trans hb1⟩
end Go.Proofs.YtmaiillomoehgaaDoor
/- Walks of the reference of package source: blank, words. -/
namespace Go.Proofs.YtmaiillomoehgaaDoor
open Go.RowKit
theorem ref_blank (c : UInt8) {b : Bool} (hb : blk c = b) (w : World) :
    Calls Tryd.prog 49 #[.int .u8 c.toNat] w fun e w' => e = .returned (.bool b) ∧ w = w' := by
  have hc8 := UInt8.toNat_lt c
  have H := Lib.hid hb
  clear hb
  by_cases h1 : c.toNat = 32
  · have : b = true := by rw [← H.out, blk, show c = 32 from UInt8.toNat_inj.1 h1]; rfl
    subst this
    have g1 := (eqB 32 (show (c.toNat : Int) = 32 by omega)).2
    clear h1 H
    go_enter Tryd.func49, Tryd.ntmps49
    go_wp2
    go_ret
    exact ⟨rfl, rfl⟩
  · have g1 := (neqB 32 (show (c.toNat : Int) ≠ 32 by omega)).2
    by_cases h2 : c.toNat = 9
    · have : b = true := by rw [← H.out, blk, show c = 9 from UInt8.toNat_inj.1 h2]; rfl
      subst this
      have g2 := (eqB 9 (show (c.toNat : Int) = 9 by omega)).2
      clear h1 h2 H
      go_enter Tryd.func49, Tryd.ntmps49
      go_wp2
      go_ret
      exact ⟨rfl, rfl⟩
    · have : b = false := by
        rw [← H.out, blk, Bool.or_eq_false_iff, beq_eq_false_iff_ne, beq_eq_false_iff_ne]
        exact ⟨fun h => h1 (by rw [h]; rfl), fun h => h2 (by rw [h]; rfl)⟩
      subst this
      have g2 := (neqB 9 (show (c.toNat : Int) ≠ 9 by omega)).2
      clear h1 h2 H
      go_enter Tryd.func49, Tryd.ntmps49
      go_wp2
      go_ret
      exact ⟨rfl, rfl⟩
theorem sepB_iff (c : UInt8) : sepB c = true ↔ c.toNat = 44 ∨ c.toNat = 61 := by
  simp only [sepB, Bool.or_eq_true, beq_iff_eq]
  constructor
  · rintro (rfl | rfl)
    · exact .inl rfl
    · exact .inr rfl
  · rintro (h | h)
    · exact .inl (UInt8.toNat_inj.1 h)
    · exact .inr (UInt8.toNat_inj.1 h)
theorem wGo_blank {c : UInt8} (l cur : List UInt8) (h35 : ¬ c = 35) (h : blk c = true) : wGo (c :: l) cur = flush cur ++ wGo l [] := by
  rw [wGo, if_neg h35, if_pos h]
theorem wGo_sep {c : UInt8} (l cur : List UInt8) (h35 : ¬ c = 35) (h0 : blk c = false) (h : sepB c = true) : wGo (c :: l) cur = flush cur ++ [c] :: wGo l [] := by
  rw [wGo, if_neg h35, h0, if_neg Bool.false_ne_true, if_pos h]
theorem wGo_stop (l cur : List UInt8) (h35 : ∀ c ∈ l, c ≠ 35) (h : l = [] ∨ ∃ c t, l = c :: t ∧ (blk c = true ∨ sepB c = true)) : wGo l cur = flush cur ++ wGo l [] := by
  rcases h with rfl | ⟨c, t, rfl, h⟩
  · simp [wGo, flush]
  · have hc := h35 c (by simp)
    by_cases hb : blk c = true
    · rw [wGo_blank t cur hc hb, wGo_blank t [] hc hb]; simp [flush]
    · rcases h with h | h
      · exact absurd h hb
      · have hb' : blk c = false := by simpa using hb
        rw [wGo_sep t cur hc hb' h, wGo_sep t [] hc hb' h]; simp [flush]
set_option maxHeartbeats 8000000 in
theorem ref_words (s : ByteArray) (hs : s.size ≤ 4398046511104) (h35 : ∀ c ∈ s.data.toList, c ≠ 35) (w : World) :
    Calls Tryd.prog 43 #[.string s] w fun e w' => ∃ v, e = .returned v ∧ w'.ownsRow w.heap.size 9 1 v (wordsL s.data.toList).length (strCells (wordsL s.data.toList)) ∧ Below w.heap.size w w' := by
  have HLN := Lib.hid (size_len s)
  have H35 := Lib.hid h35
  clear h35
  go_enter Tryd.func43, Tryd.ntmps43
  go_wp2
  go_loopw [3, 4] (fun v i wr => ∃ (k : Nat) (out : List (List UInt8)), k ≤ s.size ∧ i = .int .i64 k ∧ wr.ownsRow w.heap.size 9 1 v out.length (strCells out) ∧ wordsL s.data.toList = out ++ wGo (s.data.toList.drop k) [] ∧ Below w.heap.size w wr ∧ out.length ≤ k)
    (fun _ i _ => s.size - (intOf i).toNat)
  case atStart => exact ⟨0, [], by omega, rfl, World.ownsRow_nil _ _ _ _, rfl, Below.refl _ _, by simp⟩
  case round =>
    obtain ⟨k, out, hk, rfl, hown, hg, hb, hol⟩ := hrel
    have HO := Lib.hid hown
    have HG := Lib.hid hg
    have HB := Lib.hid hb
    have hsz := hb.size
    obtain ⟨wo, rfl⟩ : ∃ wo : World, wo = wr := ⟨_, rfl⟩
    clear hown hg hb
    by_cases hlt : k < s.size
    · have hltL : k < s.data.toList.length := by rw [← HLN.out]; exact hlt
      have hc8 := UInt8.toNat_lt s[k]
      have hc35 : ¬ s.data.toList[k] = 35 := H35.out _ (List.getElem_mem hltL)
      have HC35 := Lib.hid hc35
      clear hc35
      obtain ⟨bb, hbb⟩ : ∃ b, blk s[k] = b := ⟨_, rfl⟩
      have HBB := Lib.hid hbb
      clear hbb
      cases bb
      · by_cases hsp : sepB s[k] = true
        · have hx := (sepB_iff s[k]).1 hsp
          have HN : Hid (wordsL s.data.toList = (out ++ [[s.data.toList[k]]]) ++ wGo (s.data.toList.drop (k + 1)) []) := Lib.hid (by rw [HG.out, List.drop_eq_getElem_cons hltL, wGo_sep _ _ HC35.out HBB.out hsp]; simp [flush])
          have HONE : Hid ((s.data.toList.drop k).take (k + 1 - k) = [s.data.toList[k]]) := Lib.hid (by rw [show k + 1 - k = 1 by omega, List.drop_eq_getElem_cons hltL]; rfl)
          clear hsp
          rcases hx with h | h
          · have g1 := (eqB 44 (show (s[k].toNat : Int) = 44 by omega)).1
            clear h
            go_wp2_with (first | (go_at_call 49; refine (ref_blank s[k] HBB.out _).mono ?_; rintro e w' ⟨rfl, rfl⟩) | (at_builtin; refine wpList_append_new rfl _ _ 29 rfl w.heap.size 9 _ (.string ⟨#[]⟩) 1 16 Tryd.underlying29 infoStr rfl (by decide) _ _ _ rfl HO.out _ rfl rfl (by intro u hu; simp at hu; subst hu; rfl) (by omega) (by decide) hsz ?_; intro v1 w1 h1 hb1 _ _))
            go_roundw
            case rel => exact ⟨k + 1, out ++ [[s.data.toList[k]]], by omega, by go_num, by rw [strCells_snoc, List.length_append, ← HONE.out, ← ext_str]; exact h1, HN.out, HB.out.trans hb1, by simp; omega⟩
            case measure => simp [intOf]; omega
          · have g1 := (neqB 44 (show (s[k].toNat : Int) ≠ 44 by omega)).1
            have g2 := (eqB 61 (show (s[k].toNat : Int) = 61 by omega)).1
            clear h
            go_wp2_with (first | (go_at_call 49; refine (ref_blank s[k] HBB.out _).mono ?_; rintro e w' ⟨rfl, rfl⟩) | (at_builtin; refine wpList_append_new rfl _ _ 29 rfl w.heap.size 9 _ (.string ⟨#[]⟩) 1 16 Tryd.underlying29 infoStr rfl (by decide) _ _ _ rfl HO.out _ rfl rfl (by intro u hu; simp at hu; subst hu; rfl) (by omega) (by decide) hsz ?_; intro v1 w1 h1 hb1 _ _))
            go_roundw
            case rel => exact ⟨k + 1, out ++ [[s.data.toList[k]]], by omega, by go_num, by rw [strCells_snoc, List.length_append, ← HONE.out, ← ext_str]; exact h1, HN.out, HB.out.trans hb1, by simp; omega⟩
            case measure => simp [intOf]; omega
        · have hsp' : sepB s[k] = false := by simpa using hsp
          have hx : ¬ (s[k].toNat = 44 ∨ s[k].toNat = 61) := fun h => hsp ((sepB_iff _).2 h)
          have g1 := (neqB 44 (show (s[k].toNat : Int) ≠ 44 by omega)).1
          have g2 := (neqB 61 (show (s[k].toNat : Int) ≠ 61 by omega)).1
          have HPL : Hid (plainB s[k] = true) := Lib.hid (by rw [plainB, HBB.out, hsp']; rfl)
          clear hsp hsp' hx
          go_wp2_with (go_at_call 49; refine (ref_blank s[k] HBB.out _).mono ?_; rintro e w' ⟨rfl, rfl⟩)
          clear g1 g2
          go_loop [5] (fun n => ∃ m : Nat, 1 ≤ m ∧ k + m ≤ s.size ∧ n = .int .i64 m ∧ ∀ c ∈ (s.data.toList.drop k).take m, plainB c = true) (fun n => s.size - (intOf n).toNat)
          case atStart =>
            refine ⟨1, by omega, by omega, rfl, fun c hc => ?_⟩
            rw [List.drop_eq_getElem_cons hltL] at hc
            simp at hc
            rw [hc]; exact HPL.out
          case round =>
            obtain ⟨m, hm1, hm2, rfl, hpl⟩ := hrel
            have HM := Lib.hid hpl
            clear hpl
            have hkm : ((k : Int) + (m : Int)).toNat = k + m := by omega
            have stop : ∀ l : List UInt8, s.data.toList.drop (k + m) = l → (l = [] ∨ ∃ c t, l = c :: t ∧ (blk c = true ∨ sepB c = true)) → wGo (s.data.toList.drop k) [] = (s.data.toList.drop k).take m :: wGo (s.data.toList.drop (k + m)) [] := fun l hl hs' => by
              have h1 : s.data.toList.drop k = (s.data.toList.drop k).take m ++ s.data.toList.drop (k + m) := by
                rw [← List.drop_drop]; exact (List.take_append_drop m _).symm
              have hne : ¬ (s.data.toList.drop k).take m = [] := by
                intro h; have := congrArg List.length h; simp at this; omega
              conv => lhs; rw [h1]
              rw [wGo_plain _ _ _ fun c hc => ⟨HM.out c hc, H35.out c (List.mem_of_mem_drop (List.mem_of_mem_take hc))⟩, List.nil_append,
                wGo_stop _ _ (fun c hc => H35.out c (List.mem_of_mem_drop hc)) (by rw [hl]; exact hs'), flush, if_neg hne]
              rfl
            have STOP := Lib.hid stop
            clear stop
            have fin : ∀ v1 w1, Below w.heap.size wo w1 → w1.ownsRow w.heap.size 9 1 v1 (out.length + 1) (strCells out ++ [.string (s.extract k (k + m))]) → wGo (s.data.toList.drop k) [] = (s.data.toList.drop k).take m :: wGo (s.data.toList.drop (k + m)) [] →
                ∃ (k' : Nat) (out' : List (List UInt8)), k' ≤ s.size ∧ Value.int .i64 ((k : Int) + (m : Int)) = .int .i64 k' ∧ w1.ownsRow w.heap.size 9 1 v1 out'.length (strCells out') ∧ wordsL s.data.toList = out' ++ wGo (s.data.toList.drop k') [] ∧ Below w.heap.size w w1 ∧ out'.length ≤ k' := fun v1 w1 hb1 h1 hs' => by
              refine ⟨k + m, out ++ [(s.data.toList.drop k).take m], hm2, by go_num, ?_, ?_, HB.out.trans hb1, by simp; omega⟩
              · rw [strCells_snoc, List.length_append]
                rw [ext_str, show k + m - k = m by omega] at h1
                exact h1
              · rw [HG.out, hs', List.append_assoc]; rfl
            have FIN := Lib.hid fin
            clear fin
            by_cases hlm : k + m < s.size
            · have hlmL : k + m < s.data.toList.length := by rw [← HLN.out]; exact hlm
              have hd8 := UInt8.toNat_lt s[k + m]
              have hlm' : (k : Int) + (m : Int) < (s.size : Int) := by omega
              obtain ⟨b2, hb2⟩ : ∃ b, blk s[k + m] = b := ⟨_, rfl⟩
              have HB2 := Lib.hid hb2
              clear hb2
              cases b2
              · by_cases hsp2 : sepB s[k + m] = true
                · have hx := (sepB_iff s[k + m]).1 hsp2
                  have HSP := Lib.hid hsp2
                  clear hsp2
                  rcases hx with h | h
                  · have g1 := (eqB 44 (show (s[k + m].toNat : Int) = 44 by omega)).1
                    clear h
                    have HS := Lib.hid (STOP.out _ (List.drop_eq_getElem_cons hlmL) (.inr ⟨_, _, rfl, .inr HSP.out⟩))
                    go_wp2_with (first | (go_at_call 49; refine (ref_blank s[k + m] HB2.out _).mono ?_; rintro e w' ⟨rfl, rfl⟩) | (at_builtin; refine wpList_append_new rfl _ _ 29 rfl w.heap.size 9 _ (.string ⟨#[]⟩) 1 16 Tryd.underlying29 infoStr rfl (by decide) _ _ _ rfl HO.out _ rfl rfl (by intro u hu; simp at hu; subst hu; rfl) (by omega) (by decide) hsz ?_; intro v1 w1 h1 hb1 _ _))
                    go_roundw
                    case rel => exact FIN.out _ _ hb1 h1 HS.out
                    case measure => simp [intOf]; omega
                  · have g1 := (neqB 44 (show (s[k + m].toNat : Int) ≠ 44 by omega)).1
                    have g2 := (eqB 61 (show (s[k + m].toNat : Int) = 61 by omega)).1
                    clear h
                    have HS := Lib.hid (STOP.out _ (List.drop_eq_getElem_cons hlmL) (.inr ⟨_, _, rfl, .inr HSP.out⟩))
                    go_wp2_with (first | (go_at_call 49; refine (ref_blank s[k + m] HB2.out _).mono ?_; rintro e w' ⟨rfl, rfl⟩) | (at_builtin; refine wpList_append_new rfl _ _ 29 rfl w.heap.size 9 _ (.string ⟨#[]⟩) 1 16 Tryd.underlying29 infoStr rfl (by decide) _ _ _ rfl HO.out _ rfl rfl (by intro u hu; simp at hu; subst hu; rfl) (by omega) (by decide) hsz ?_; intro v1 w1 h1 hb1 _ _))
                    go_roundw
                    case rel => exact FIN.out _ _ hb1 h1 HS.out
                    case measure => simp [intOf]; omega
                · have hsp' : sepB s[k + m] = false := by simpa using hsp2
                  have hx : ¬ (s[k + m].toNat = 44 ∨ s[k + m].toNat = 61) := fun h => hsp2 ((sepB_iff _).2 h)
                  have g1 := (neqB 44 (show (s[k + m].toNat : Int) ≠ 44 by omega)).1
                  have g2 := (neqB 61 (show (s[k + m].toNat : Int) ≠ 61 by omega)).1
                  have HPM : Hid (plainB s[k + m] = true) := Lib.hid (by rw [plainB, HB2.out, hsp']; rfl)
                  have HTK : Hid ((s.data.toList.drop k).take (m + 1) = (s.data.toList.drop k).take m ++ [s[k + m]]) := Lib.hid (by
                    rw [List.take_succ_eq_append_getElem (by simp; omega), List.getElem_drop]; rfl)
                  clear hsp2 hsp' hx
                  go_wp2_with (go_at_call 49; refine (ref_blank s[k + m] HB2.out _).mono ?_; rintro e w' ⟨rfl, rfl⟩)
                  go_round
                  case rel =>
                    refine ⟨m + 1, by omega, by omega, by go_num, fun c hc => ?_⟩
                    rw [HTK.out, List.mem_append] at hc
                    rcases hc with hc | hc
                    · exact HM.out c hc
                    · rw [List.mem_singleton.1 hc]; exact HPM.out
                  case measure => simp [intOf]; omega
              · have HSP := HB2
                have HS := Lib.hid (STOP.out _ (List.drop_eq_getElem_cons hlmL) (.inr ⟨_, _, rfl, .inl HSP.out⟩))
                go_wp2_with (first | (go_at_call 49; refine (ref_blank s[k + m] HB2.out _).mono ?_; rintro e w' ⟨rfl, rfl⟩) | (at_builtin; refine wpList_append_new rfl _ _ 29 rfl w.heap.size 9 _ (.string ⟨#[]⟩) 1 16 Tryd.underlying29 infoStr rfl (by decide) _ _ _ rfl HO.out _ rfl rfl (by intro u hu; simp at hu; subst hu; rfl) (by omega) (by decide) hsz ?_; intro v1 w1 h1 hb1 _ _))
                go_roundw
                case rel => exact FIN.out _ _ hb1 h1 HS.out
                case measure => simp [intOf]; omega
            · have hlm' : ¬ ((k : Int) + (m : Int) < (s.size : Int)) := by omega
              have HS := Lib.hid (STOP.out [] (List.drop_of_length_le (by rw [← HLN.out]; omega)) (.inl rfl))
              go_wp2_with (at_builtin; refine wpList_append_new rfl _ _ 29 rfl w.heap.size 9 _ (.string ⟨#[]⟩) 1 16 Tryd.underlying29 infoStr rfl (by decide) _ _ _ rfl HO.out _ rfl rfl (by intro u hu; simp at hu; subst hu; rfl) (by omega) (by decide) hsz ?_; intro v1 w1 h1 hb1 _ _)
              go_roundw
              case rel => exact FIN.out _ _ hb1 h1 HS.out
              case measure => simp [intOf]; omega
      · have HN : Hid (wordsL s.data.toList = out ++ wGo (s.data.toList.drop (k + 1)) []) := Lib.hid (by rw [HG.out, List.drop_eq_getElem_cons hltL, wGo_blank _ _ HC35.out HBB.out]; simp [flush])
        go_wp2_with (go_at_call 49; refine (ref_blank s[k] HBB.out _).mono ?_; rintro e w' ⟨rfl, rfl⟩)
        go_roundw
        case rel => exact ⟨k + 1, out, by omega, by go_num, HO.out, HN.out, HB.out, by omega⟩
        case measure => simp [intOf]; omega
    · obtain rfl : k = s.size := by omega
      have hfin : wordsL s.data.toList = out := by rw [HG.out, List.drop_of_length_le (by rw [← HLN.out]; exact Nat.le_refl _), wGo]; simp [flush]
      have HF := Lib.hid hfin
      clear hfin
      go_wp2
      go_ret
      exact ⟨_, rfl, by rw [HF.out]; exact HO.out, HB.out⟩
end Go.Proofs.YtmaiillomoehgaaDoor
/- Lists of texts in memory: read, compared. -/
namespace Go.Proofs.YtmaiillomoehgaaDoor
open Go.RowKit
/-- a slice of texts as it lies in memory -/
def StrsAt (w : World) (v : Value) (xs : List (List UInt8)) : Prop :=
  xs.length ≤ 9223372036854775807 ∧ ∃ a cap, v = .slice a xs.length cap ∧ (xs = [] ∨ ∃ b off, a = some ⟨b, off, none⟩ ∧ b < w.heap.size ∧ ∀ j (l : List UInt8), xs[j]? = some l → w.cell? ⟨b, off + j, none⟩ = some (.string ⟨l.toArray⟩))
theorem StrsAt.below {w w' : World} {v : Value} {xs : List (List UInt8)} (h : StrsAt w v xs) (hb : Below w.heap.size w w') : StrsAt w' v xs := by
  obtain ⟨hl, a, cap, rfl, h⟩ := h
  exact ⟨hl, a, cap, rfl, h.imp id fun ⟨b, off, ha, hlt, hc⟩ => ⟨b, off, ha, Nat.lt_of_lt_of_le hlt hb.size, fun j l e => (hb.cell (p := ⟨b, off + j, none⟩) hlt).trans (hc j l e)⟩⟩
theorem StrsAt.of_own {w : World} {B : Nat} {v : Value} {xs : List (List UInt8)} (h : w.ownsRow B 9 1 v xs.length (strCells xs)) (hl : xs.length ≤ 9223372036854775807) : StrsAt w v xs := by
  refine ⟨hl, ?_⟩
  have hc := fun g (hg : v.ownBlock = some g) => h.cells hg
  have hlt := h.lt
  rcases h.2 with ⟨rfl, h0⟩ | ⟨g, cap, cur, rfl, _⟩
  · exact ⟨none, 0, by rw [h0], .inl (List.length_eq_zero_iff.1 h0)⟩
  · refine ⟨_, cap, rfl, .inr ⟨g, 0, rfl, (hlt g rfl).2, fun j l e => ?_⟩⟩
    have := hc g rfl j (.string ⟨l.toArray⟩) (by simp [strCells, e])
    rwa [show (⟨g, 0, none⟩ : Addr).add j = ⟨g, 0 + j, none⟩ by simp only [Addr.add]; split <;> simp_all] at this
set_option maxHeartbeats 2000000 in
/-- two equal lists of texts compare equal -/
theorem ref_Same9 (u v : Value) (xs : List (List UInt8)) (w : World) (hu : StrsAt w u xs) (hv : StrsAt w v xs) :
    Calls Tryd.prog 19 #[u, v] w fun e w' => e = .returned (.bool true) ∧ Below w.heap.size w w' := by
  obtain ⟨hl, a, ca, rfl, ha⟩ := hu
  obtain ⟨_, b, cb, rfl, hb⟩ := hv
  have HA := Lib.hid ha
  have HB := Lib.hid hb
  have g0 : ((xs.length : Int) != (xs.length : Int)) = false := by simp
  clear ha hb
  go_enter Tryd.func19, Tryd.ntmps19
  go_wp2
  go_loopw [5] (fun i wr => ∃ k : Nat, k ≤ xs.length ∧ i = .int .i64 k ∧ Below w.heap.size w wr) (fun i _ => xs.length - (intOf i).toNat)
  case atStart => exact ⟨0, by omega, rfl, Below.refl _ _⟩
  case round =>
    obtain ⟨k, hk, rfl, hb⟩ := hrel
    have HW := Lib.hid hb
    by_cases hlt : k < xs.length
    · obtain ⟨l, hkl⟩ : ∃ l, xs[k]? = some l := ⟨_, List.getElem?_eq_getElem hlt⟩
      obtain ⟨ba, oa, rfl, hla, hca⟩ : ∃ ba oa, a = some ⟨ba, oa, none⟩ ∧ ba < wr.heap.size ∧ wr.cell? ⟨ba, oa + k, none⟩ = some (.string ⟨l.toArray⟩) := by
        rcases HA.out with h | ⟨ba, oa, rfl, h1, h2⟩
        · rw [h] at hlt; simp at hlt
        · exact ⟨ba, oa, rfl, Nat.lt_of_lt_of_le h1 hb.size, (hb.cell (p := ⟨ba, oa + k, none⟩) h1).trans (h2 k l hkl)⟩
      obtain ⟨bb, ob, rfl, hlb, hcb⟩ : ∃ bb ob, b = some ⟨bb, ob, none⟩ ∧ bb < wr.heap.size ∧ wr.cell? ⟨bb, ob + k, none⟩ = some (.string ⟨l.toArray⟩) := by
        rcases HB.out with h | ⟨bb, ob, rfl, h1, h2⟩
        · rw [h] at hlt; simp at hlt
        · exact ⟨bb, ob, rfl, Nat.lt_of_lt_of_le h1 hb.size, (hb.cell (p := ⟨bb, ob + k, none⟩) h1).trans (h2 k l hkl)⟩
      have hltI : (k : Int) < (xs.length : Int) := by omega
      have HKL := Lib.hid hkl
      clear hb hkl
      go_wp2
      refine wp_region_later (by kernel_rfl) (by kernel_rfl) ?_
      repeat (go_big_quiet_step ((fail)))
      refine wpQuiet_nil ?_
      intro w3 hw'
      have hb3 := ext_below hw'
      clear hw'
      obtain ⟨hc3, hf3⟩ := bcell hb3
      have hs3 := hb3.size
      try simp at hs3
      go_wp2
      go_roundw
      case rel => exact ⟨k + 1, by omega, by go_num, HW.out.trans (hb3.mono HW.out.size)⟩
      case measure => simp [intOf]; omega
    · obtain rfl : k = xs.length := by omega
      clear hb
      go_wp2
      go_ret
      exact ⟨rfl, HW.out⟩
end Go.Proofs.YtmaiillomoehgaaDoor
/- Plain laws of package source: the lines of a text. -/
namespace Go.Proofs.YtmaiillomoehgaaDoor
def prC (c : UInt8) : Bool := decide (c.toNat = 9) || (decide (32 ≤ c.toNat) && decide (c.toNat ≤ 126))
/-- the lines that have words, or the line of the first error, and the error -/
def linesR : List (List UInt8) → Nat → List (Nat × List (List UInt8)) → List (Nat × List (List UInt8)) × Int × Int
  | [], _, out => (out, 0, 0)
  | l :: t, i, out => if l.all prC = false then ([], (i : Int) + 1, 4) else if 64 < (wordsL l).length then ([], (i : Int) + 1, 3) else linesR t (i + 1) (if wordsL l = [] then out else out ++ [(i + 1, wordsL l)])
def linesL (L : List UInt8) : List (Nat × List (List UInt8)) × Int × Int := if 16384 < L.length then ([], 0, 3) else linesR (partsL 10 L) 0 []
end Go.Proofs.YtmaiillomoehgaaDoor
/- Walks of package source: printable. -/
namespace Go.Proofs.YtmaiillomoehgaaDoor
open Go.RowKit
set_option maxHeartbeats 2000000 in
theorem src_printable (s : ByteArray) (hs : s.size ≤ maxLen) {b : Bool} (hb : s.data.toList.all prC = b) (w : World) :
    Calls Tryd.prog 33 #[.string s] w fun e w' => e = .returned (.bool b) ∧ w = w' := by
  unfold maxLen at hs
  have HB := Lib.hid hb
  clear hb
  go_enter Tryd.func33, Tryd.ntmps33
  go_wp2
  go_loop [3] (fun i => ∃ k : Nat, k ≤ s.size ∧ i = .int .i64 k ∧ (s.data.toList.take k).all prC = true) (fun i => s.size - (intOf i).toNat)
  case atStart => exact ⟨0, by omega, rfl, rfl⟩
  case round =>
    obtain ⟨k, hk, rfl, hd⟩ := hrel
    have HD := Lib.hid hd
    clear hd
    by_cases hlt : k < s.size
    · have hc8 := UInt8.toNat_lt s[k]
      have HT := Lib.hid (all_take_succ prC s k hlt)
      have bad : prC s[k] = false → b = false := fun h => by
        rw [← HB.out]
        exact all_split _ _ (k + 1) (by rw [HT.out, h, Bool.and_false])
      have BAD := Lib.hid bad
      clear bad
      by_cases h9 : s[k].toNat = 9
      · have HG : Hid (prC s[k] = true) := Lib.hid (by simp [prC, h9])
        have g1 := (eqB 9 (show (s[k].toNat : Int) = 9 by omega)).1
        clear h9
        go_wp2
        go_round
        case rel => exact ⟨k + 1, by omega, by go_num, by rw [HT.out, HD.out, HG.out]; rfl⟩
        case measure => simp [intOf]; omega
      · have g1 := (neqB 9 (show (s[k].toNat : Int) ≠ 9 by omega)).1
        by_cases h32 : s[k].toNat < 32
        · have : b = false := BAD.out (by simp only [prC, Bool.or_eq_false_iff, Bool.and_eq_false_iff, decide_eq_false_iff_not]; omega)
          subst this
          clear h9
          go_wp2
          go_ret
          exact ⟨rfl, rfl⟩
        · have g32 : decide ((s[k].toNat : Int) < 32) = false := by simp only [decide_eq_false_iff_not]; omega
          by_cases h126 : 126 < s[k].toNat
          · have : b = false := BAD.out (by simp only [prC, Bool.or_eq_false_iff, Bool.and_eq_false_iff, decide_eq_false_iff_not]; omega)
            subst this
            clear h9 h32
            go_wp2
            go_ret
            exact ⟨rfl, rfl⟩
          · have g126 : decide ((126 : Int) < (s[k].toNat : Int)) = false := by simp only [decide_eq_false_iff_not]; omega
            have HG : Hid (prC s[k] = true) := Lib.hid (by simp only [prC, Bool.or_eq_true, Bool.and_eq_true, decide_eq_true_eq]; omega)
            clear h9 h32 h126
            go_wp2
            go_round
            case rel => exact ⟨k + 1, by omega, by go_num, by rw [HT.out, HD.out, HG.out]; rfl⟩
            case measure => simp [intOf]; omega
    · obtain rfl : k = s.size := by omega
      have : b = true := by rw [← HB.out]; have := HD.out; rwa [take_full] at this
      subst this
      go_wp2
      go_ret
      exact ⟨rfl, rfl⟩
end Go.Proofs.YtmaiillomoehgaaDoor
