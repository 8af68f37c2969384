/- Memory as my logic sees it: what a step leaves as it was, cells, blocks, slices that read as lists; what each operation gives. -/
import Derived.Test.YtfanmniaolncbaaV0
import Derived.Laws.Small
set_option linter.unusedVariables false
set_option linter.unusedSimpArgs false
namespace Go.Proofs.Ytfanmniaolncbaa.V
open Go.RowKit
/-- all old blocks but those of M stand in w' as they stood in w -/
structure Ch (M : Nat → Prop) (w w' : World) : Prop where
  os : w'.os = w.os
  tape : w'.tape = w.tape
  output : w'.output = w.output
  size : w.heap.size ≤ w'.heap.size
  block : ∀ k, k < w.heap.size → ¬ M k → w'.heap[k]? = w.heap[k]?
def No : Nat → Prop := fun _ => False
theorem Ch.refl {M : Nat → Prop} (w : World) : Ch M w w := ⟨rfl, rfl, rfl, Nat.le_refl _, fun _ _ _ => rfl⟩
theorem Ch.trans {M M' M'' : Nat → Prop} {w w1 w2 : World} (h : Ch M w w1) (k : Ch M' w1 w2) (hM : ∀ k, k < w.heap.size → M k ∨ M' k → M'' k) : Ch M'' w w2 :=
  ⟨k.os.trans h.os, k.tape.trans h.tape, k.output.trans h.output, Nat.le_trans h.size k.size, fun i hi hm =>
    (k.block i (Nat.lt_of_lt_of_le hi h.size) (fun e => hm (hM i hi (.inr e)))).trans (h.block i hi (fun e => hm (hM i hi (.inl e))))⟩
theorem Ch.then {M : Nat → Prop} {w w1 w2 : World} (h : Ch M w w1) (k : Ch No w1 w2) : Ch M w w2 := h.trans k fun _ _ e => e.elim id False.elim
/-- what is done to blocks that are new since w -/
theorem Ch.own {M M' : Nat → Prop} {w w1 w2 : World} (h : Ch M w w1) (k : Ch M' w1 w2) (hM : ∀ k, M' k → w.heap.size ≤ k) : Ch M w w2 := h.trans k fun i hi e => e.elim id fun e => absurd (hM i e) (by omega)
theorem Ch.same {M : Nat → Prop} {w w1 w2 : World} (h : Ch M w w1) (k : Ch M w1 w2) : Ch M w w2 := h.trans k fun _ _ e => e.elim id id
theorem Ch.mono {M M' : Nat → Prop} {w w1 : World} (h : Ch M w w1) (hM : ∀ k, M k → M' k) : Ch M' w w1 := ⟨h.os, h.tape, h.output, h.size, fun k hk hm => h.block k hk fun e => hm (hM k e)⟩
theorem Ch.drew {M : Nat → Prop} {w w1 : World} (h : Ch M w w1) : Ch M w { w1 with drawn := w1.drawn + 1 } := ⟨h.os, h.tape, h.output, h.size, h.block⟩
theorem Ch.of_below {w w' : World} (h : Below w.heap.size w w') : Ch No w w' := ⟨h.os, h.tape, h.output, h.size, fun k hk _ => h.block k hk⟩
theorem Ch.below {w w' : World} (h : Ch No w w') : Below w.heap.size w w' := ⟨h.os, h.tape, h.output, h.size, fun k hk => h.block k hk id⟩
theorem Ch.alloc (w : World) (o : Obj) : Ch No w (w.alloc o) := .of_below ((Below.refl _ _).alloc (Nat.le_refl _) o)
theorem Ch.set (w : World) (b o : Nat) (u : Value) : Ch (fun k => k = b) w (w.setCell ⟨b, o, none⟩ u) :=
  ⟨rfl, rfl, rfl, by simp [World.setCell], fun _ _ hm => Below.heap_setCell _ _ _ _ hm⟩
theorem Ch.of_grown {w w' : World} {row : Option Nat} (h : w.grownBy w' row) : Ch (fun k => row = some k) w w' := ⟨h.os, h.tape, h.output, h.size, fun k hk hm => h.block k hk fun e => hm e.symm⟩
def Kp (D : Nat → Prop) (h h' : Array Obj) : Prop := h.size ≤ h'.size ∧ ∀ k, k < h.size → D k → h'[k]? = h[k]?
theorem Ch.kp {M D : Nat → Prop} {w w' : World} (h : Ch M w w') (hd : ∀ k, k < w.heap.size → D k → ¬ M k) : Kp D w.heap w'.heap := ⟨h.size, fun k hk hD => h.block k hk (hd k hk hD)⟩
theorem Ch.kpN {D : Nat → Prop} {w w' : World} (h : Ch No w w') : Kp D w.heap w'.heap := h.kp fun _ _ _ => id
theorem Ch.kpO {M : Nat → Prop} {w w' : World} {B : Nat} (h : Ch M w w') (hM : ∀ k, M k → B ≤ k) : Kp (fun k => k < B) w.heap w'.heap := h.kp fun k _ hk hm => absurd (hM k hm) (by omega)
def hcell (h : Array Obj) (b o : Nat) : Option Value := match h[b]? with | some (.cells c _ _) => c[o]? | _ => none
theorem cell_eq (w : World) (b o : Nat) : w.cell? ⟨b, o, none⟩ = hcell w.heap b o := rfl
theorem hcell_kp {D : Nat → Prop} {h h' : Array Obj} (k : Kp D h h') {b o : Nat} {v : Value} (hD : D b) (hc : hcell h b o = some v) : hcell h' b o = some v := by
  have hlt : b < h.size := by
    rcases Nat.lt_or_ge b h.size with g | g
    · exact g
    · simp [hcell, Array.getElem?_eq_none g] at hc
  unfold hcell at *
  rw [k.2 b hlt hD]
  exact hc
/-- a block of the call's own, known whole -/
def Blk (h : Array Obj) (b : Nat) (cs : List Value) (e : TypeId) : Prop := h[b]? = some (.cells cs.toArray e (0, 0))
theorem Blk.lt {h : Array Obj} {b : Nat} {cs : List Value} {e : TypeId} (k : Blk h b cs e) : b < h.size := by
  rcases Nat.lt_or_ge b h.size with g | g
  · exact g
  · unfold Blk at k; rw [Array.getElem?_eq_none g] at k; cases k
theorem Blk.keep {D : Nat → Prop} {h h' : Array Obj} {b : Nat} {cs : List Value} {e : TypeId} (k : Blk h b cs e) (g : Kp D h h') (hD : D b) : Blk h' b cs e := (g.2 b k.lt hD).trans k
theorem Blk.kpN {w w' : World} {b : Nat} {cs : List Value} {e : TypeId} (k : Blk w.heap b cs e) (g : Ch No w w') : Blk w'.heap b cs e := k.keep (D := fun _ => True) g.kpN trivial
theorem Blk.kp {M : Nat → Prop} {w w' : World} {b : Nat} {cs : List Value} {e : TypeId} (k : Blk w.heap b cs e) (g : Ch M w w') (hb : ¬ M b) : Blk w'.heap b cs e := k.keep (D := fun k => k = b) (g.kp fun _ _ e => by subst e; exact hb) rfl
theorem Blk.cell {h : Array Obj} {b j : Nat} {cs : List Value} {e : TypeId} {v : Value} (k : Blk h b cs e) (hj : cs[j]? = some v) : hcell h b j = some v := by
  unfold hcell; rw [show h[b]? = _ from k]; simpa using hj
theorem Blk.set {w : World} {b o : Nat} {cs : List Value} {e : TypeId} (u : Value) (k : Blk w.heap b cs e) : Blk (w.setCell ⟨b, o, none⟩ u).heap b (cs.set o u) e := by
  unfold Blk at *
  simp only [World.setCell, Array.getElem?_modify, if_pos, k, Option.map_some]
  simp
theorem Blk.new (w : World) (cs : List Value) (e : TypeId) : Blk (w.alloc (.cells cs.toArray e)).heap w.heap.size cs e := heap_alloc_new w _
def blk (a : Option Addr) : Nat := (a.getD ⟨0, 0, none⟩).block
def off (a : Option Addr) : Nat := (a.getD ⟨0, 0, none⟩).off
/-- how the values of a type lie in cells; 'wf D h x': what x points to lies in blocks of D of the heap h -/
structure Enc (α : Type) where
  n : Nat
  cells : α → List Value
  dflt : α
  wf : (Nat → Prop) → Array Obj → α → Prop
  len : ∀ x, (cells x).length = n
  one : ∀ x, ∀ u ∈ cells x, u.oneCell' = true
  keep : ∀ {D h h' x}, Kp D h h' → wf D h x → wf D h' x
  mono : ∀ {D D' h x}, (∀ k, k < h.size → D k → D' k) → wf D h x → wf D' h x
/-- the slice at 'a' reads as the list xs; its block is one of D -/
structure LAt {α : Type} (E : Enc α) (D : Nat → Prop) (h : Array Obj) (a : Option Addr) (xs : List α) : Prop where
  len : xs.length ≤ maxLen
  ad : 0 < xs.length → a = some ⟨blk a, off a, none⟩ ∧ D (blk a) ∧ blk a < h.size
  cell : ∀ i, i < xs.length → ∀ j v, (E.cells (xs.getD i E.dflt))[j]? = some v → hcell h (blk a) (off a + i * E.n + j) = some v
  wf : ∀ i, i < xs.length → E.wf D h (xs.getD i E.dflt)
section
variable {α : Type} {E : Enc α} {D D' : Nat → Prop} {h h' : Array Obj} {a : Option Addr} {xs : List α}
theorem LAt.keep (l : LAt E D h a xs) (k : Kp D h h') : LAt E D h' a xs :=
  ⟨l.len, fun h0 => ⟨(l.ad h0).1, (l.ad h0).2.1, Nat.lt_of_lt_of_le (l.ad h0).2.2 k.1⟩, fun i hi j v hv => hcell_kp k (l.ad (by omega)).2.1 (l.cell i hi j v hv), fun i hi => E.keep k (l.wf i hi)⟩
theorem LAt.mono (l : LAt E D h a xs) (hD : ∀ k, k < h.size → D k → D' k) : LAt E D' h a xs :=
  ⟨l.len, fun h0 => ⟨(l.ad h0).1, hD _ (l.ad h0).2.2 (l.ad h0).2.1, (l.ad h0).2.2⟩, l.cell, fun i hi => E.mono hD (l.wf i hi)⟩
theorem LAt.nil : LAt E D h a [] := ⟨by simp [maxLen], fun h => by simp at h, fun i hi => by simp at hi, fun i hi => by simp at hi⟩
theorem LAt.adr (l : LAt E D h a xs) {i : Nat} (hi : i < xs.length) : a = some ⟨blk a, off a, none⟩ := (l.ad (by omega)).1
/-- a slice l[i:j] of a slice -/
theorem LAt.sub (l : LAt E D h a xs) (i j : Nat) (hij : i ≤ j) (hj : j ≤ xs.length) (a' : Option Addr) (ha : i < j → a' = some ⟨blk a, off a + i * E.n, none⟩) :
    LAt E D h a' ((xs.take j).drop i) := by
  have hl : ((xs.take j).drop i).length = j - i := by simp; omega
  have hg : ∀ k, k < j - i → ((xs.take j).drop i).getD k E.dflt = xs.getD (i + k) E.dflt := fun k hk => by
    simp only [List.getD_eq_getElem?_getD, List.getElem?_drop]
    rw [List.getElem?_take_of_lt (by omega)]
  refine ⟨by have := l.len; omega, fun h0 => ?_, fun k hk m v hv => ?_, fun k hk => ?_⟩
  · have h1 := ha (by omega)
    have h2 := l.ad (by omega)
    rw [h1]
    exact ⟨rfl, h2.2⟩
  · rw [hl] at hk
    rw [hg k hk] at hv
    have h1 := l.cell (i + k) (by omega) m v hv
    have h3 := ha (by omega)
    rw [h3]
    show hcell h (blk a) (off a + i * E.n + k * E.n + m) = _
    rw [show off a + i * E.n + k * E.n + m = off a + (i + k) * E.n + m from by rw [Nat.add_mul]; omega]
    exact h1
  · rw [hl] at hk
    rw [hg k hk]
    exact l.wf _ (by omega)
theorem LAt.take (l : LAt E D h a xs) (j : Nat) (hj : j ≤ xs.length) : LAt E D h a (xs.take j) :=
  l.sub 0 j (Nat.zero_le _) hj a fun h0 => by rw [Nat.zero_mul, Nat.add_zero]; exact l.adr (i := 0) (by omega)
theorem LAt.drop (l : LAt E D h a xs) (i : Nat) (hi : i ≤ xs.length) (a' : Option Addr) (ha : i < xs.length → a' = some ⟨blk a, off a + i * E.n, none⟩) : LAt E D h a' (xs.drop i) := by
  have := l.sub i xs.length hi (Nat.le_refl _) a' ha
  rwa [List.take_length] at this
theorem LAt.wcell (l : LAt E D h a xs) (m : Nat) (hm : m < xs.length) (cs : List Value) (hcs : E.cells (xs.getD m E.dflt) = cs) (o : Nat) (ho : off a + m * E.n = o) : ∀ j v, cs[j]? = some v → hcell h (blk a) (o + j) = some v := by
  subst hcs ho
  exact l.cell m hm
theorem LAt.mcell (l : LAt E D h a xs) (m : Nat) (hm : m < xs.length) (pre cs post : List Value) (hc : E.cells (xs.getD m E.dflt) = pre ++ (cs ++ post)) (o : Nat) (ho : off a + m * E.n + pre.length = o) : ∀ j v, cs[j]? = some v → hcell h (blk a) (o + j) = some v := by
  subst ho
  intro j v hv
  rw [Nat.add_assoc]
  refine l.cell m hm (pre.length + j) v ?_
  rw [hc, List.getElem?_append_right (by omega), Nat.add_sub_cancel_left, List.getElem?_append_left (List.getElem?_eq_some_iff.1 hv).1]
  exact hv
end
/-- a slice: its address, its capacity, its elements -/
structure Sl (α : Type) where
  a : Option Addr
  c : Nat
  xs : List α
def slE {α : Type} (E : Enc α) : Enc (Sl α) where
  n := 1
  cells s := [.slice s.a s.xs.length s.c]
  dflt := ⟨none, 0, []⟩
  wf D h s := LAt E D h s.a s.xs ∧ s.xs.length ≤ s.c ∧ (s.a = none → s.c = 0)
  len _ := rfl
  one _ u hu := by simp at hu; subst hu; rfl
  keep k h := ⟨h.1.keep k, h.2⟩
  mono k h := ⟨h.1.mono k, h.2⟩
theorem sl_nil {α : Type} {E : Enc α} {D : Nat → Prop} {h : Array Obj} : (slE E).wf D h ⟨none, 0, []⟩ := ⟨LAt.nil, Nat.le_refl _, fun _ => rfl⟩
theorem sl_take {α : Type} {E : Enc α} {D : Nat → Prop} {h : Array Obj} {s : Sl α} (H : (slE E).wf D h s) (m : Nat) (hm : m ≤ s.xs.length) : (slE E).wf D h ⟨s.a, s.c, s.xs.take m⟩ :=
  ⟨H.1.take m hm, by have := H.2.1; simp; omega, H.2.2⟩
abbrev inI64 (x : Int) : Prop := -9223372036854775808 ≤ x ∧ x ≤ 9223372036854775807
abbrev inI32 (x : Int) : Prop := -2147483648 ≤ x ∧ x ≤ 2147483647
abbrev inU64 (x : Int) : Prop := 0 ≤ x ∧ x ≤ 18446744073709551615
abbrev inU32 (x : Int) : Prop := 0 ≤ x ∧ x ≤ 4294967295
abbrev inU16 (x : Int) : Prop := 0 ≤ x ∧ x ≤ 65535
abbrev inU8 (x : Int) : Prop := 0 ≤ x ∧ x ≤ 255
abbrev inStr (x : ByteArray) : Prop := x.size ≤ maxLen
/-! Sets of blocks that may still be written: all facts about what is read speak of the others. -/
abbrev BS := Nat → Prop
/-- one block -/
def one (b : Nat) : BS := fun k => k = b
def In : List BS → Nat → Prop
  | [] => fun _ => False
  | o :: r => fun k => o k ∨ In r k
theorem in_mem {o : BS} {k : Nat} : ∀ {ms : List BS}, o ∈ ms → o k → In ms k
  | _ :: _, h, hk => (List.mem_cons.1 h).elim (fun e => .inl (e ▸ hk)) fun h => .inr (in_mem h hk)
theorem in_ex {k : Nat} : ∀ {ms : List BS}, In ms k → ∃ o, o ∈ ms ∧ o k
  | _ :: _, .inl h => ⟨_, List.mem_cons_self, h⟩
  | _ :: _, .inr h => let ⟨o, h1, h2⟩ := in_ex h; ⟨o, List.mem_cons_of_mem _ h1, h2⟩
theorem in_sub {m0 ms : List BS} (hs : ∀ o, o ∈ m0 → o ∈ ms) {k : Nat} (h : In m0 k) : In ms k := let ⟨_, h1, h2⟩ := in_ex h; in_mem (hs _ h1) h2
theorem in_app {k : Nat} : ∀ {a b : List BS}, In (a ++ b) k ↔ In a k ∨ In b k
  | [], b => ⟨.inr, fun h => h.elim False.elim id⟩
  | o :: a, b => by
    show o k ∨ In (a ++ b) k ↔ (o k ∨ In a k) ∨ In b k
    rw [in_app (a := a), or_assoc]
/-- blocks that may not be written, and are none of F -/
def Fr (F : Nat → Prop) (ms : List BS) : Nat → Prop := fun k => ¬ In ms k ∧ ¬ F k
/-- what a callee must leave out: all that the caller may write, and what the caller must leave out -/
def Ex (F : Nat → Prop) (ms : List BS) : Nat → Prop := fun k => In ms k ∨ F k
def abk (a : Option Addr) : BS := fun k => a.map (·.block) = some k
def Sep : List BS → Prop
  | [] => True
  | o :: r => (∀ k, o k → ¬ In r k) ∧ Sep r
structure MS (ms : List BS) (w : World) : Prop where
  lt : ∀ k, In ms k → k < w.heap.size
  sep : Sep ms
theorem MS.nil (w : World) : MS [] w := ⟨fun _ h => h.elim, trivial⟩
theorem Sep.ne : ∀ {ms : List BS} (_ : Sep ms) (i j : Nat) (_ : i ≠ j) {o o' : BS} (_ : ms[i]? = some o) (_ : ms[j]? = some o') {k : Nat} (_ : o k), ¬ o' k
  | [], _, i, _, _, _, _, h, _, _, _ => by simp at h
  | o :: r, s, 0, 0, h, _, _, _, _, _, _ => absurd rfl h
  | o :: r, s, 0, j + 1, _, _, _, h1, h2, k, hk => by
    simp at h1 h2
    subst h1
    exact fun hk' => s.1 k hk (in_mem (List.mem_of_getElem? h2) hk')
  | o :: r, s, i + 1, 0, _, _, _, h1, h2, k, hk => by
    simp at h1 h2
    subst h2
    exact fun hk' => s.1 k hk' (in_mem (List.mem_of_getElem? h1) hk)
  | o :: r, s, i + 1, j + 1, h, _, _, h1, h2, _, hk => s.2.ne i j (by omega) (by simpa using h1) (by simpa using h2) hk
/-- the entry at i is none of the entries at is -/
def picks (ms : List BS) (is : List Nat) : List BS := is.filterMap fun i => ms[i]?
theorem Sep.out {ms : List BS} (s : Sep ms) (i : Nat) (is : List Nat) (h : is.contains i = false) {o : BS} (hi : ms[i]? = some o) {k : Nat} (hk : o k) : ¬ In (picks ms is) k := by
  intro hm
  obtain ⟨o', h1, h2⟩ := in_ex hm
  obtain ⟨j, hj, h3⟩ := List.mem_filterMap.1 h1
  have : i ≠ j := by rintro rfl; rw [List.contains_iff_mem.2 hj] at h; cases h
  exact s.ne i j this hi h3 hk h2
/-- from ms at w to ms' at w': blocks outside ms stand; what may be written now is of ms, or new -/
structure Tr (ms : List BS) (w : World) (ms' : List BS) (w' : World) : Prop where
  ch : Ch (In ms) w w'
  sub : ∀ k, In ms' k → In ms k ∨ w.heap.size ≤ k
  ms : MS ms' w'
section
variable {F : Nat → Prop} {ms ms' ms'' : List BS} {w w' w'' : World} {α : Type} {E : Enc α} {x : α}
theorem Tr.refl (h : MS ms w) : Tr ms w ms w := ⟨Ch.refl w, fun _ => .inl, h⟩
theorem Tr.size (t : Tr ms w ms' w') : w.heap.size ≤ w'.heap.size := t.ch.size
theorem Tr.trans (t : Tr ms w ms' w') (u : Tr ms' w' ms'' w'') : Tr ms w ms'' w'' :=
  ⟨⟨u.ch.os.trans t.ch.os, u.ch.tape.trans t.ch.tape, u.ch.output.trans t.ch.output, Nat.le_trans t.size u.size, fun k hk hn =>
    (u.ch.block k (Nat.lt_of_lt_of_le hk t.size) fun h => (t.sub k h).elim hn fun e => absurd e (by omega)).trans (t.ch.block k hk hn)⟩,
   fun k h => (u.sub k h).elim (fun h => t.sub k h) fun e => .inr (Nat.le_trans t.size e), u.ms⟩
theorem Enc.tr (E : Enc α) (H : E.wf (Fr F ms) w.heap x) (t : Tr ms w ms' w') : E.wf (Fr F ms') w'.heap x := by
  have h1 : E.wf (fun k => k < w.heap.size ∧ Fr F ms k) w.heap x := E.mono (fun k hk h => ⟨hk, h⟩) H
  have h2 := E.keep (h' := w'.heap) ⟨t.size, fun k hk h => t.ch.block k hk h.2.1⟩ h1
  exact E.mono (fun k _ h => ⟨fun hm => (t.sub k hm).elim h.2.1 fun e => absurd e (by have := h.1; omega), h.2.2⟩) h2
theorem Enc.down (E : Enc α) (H : E.wf (Fr F ms) w.heap x) (hs : ∀ o, o ∈ ms' → o ∈ ms) : E.wf (Fr (Ex F ms) ms') w.heap x := E.mono (fun k _ h => ⟨fun hm => h.1 (in_sub hs hm), fun e => e.elim h.1 h.2⟩) H
theorem Enc.down0 (E : Enc α) (H : E.wf (Fr F ms) w.heap x) : E.wf (Fr (Ex F ms) []) w.heap x := E.down H fun _ h => by simp at h
theorem Enc.up (E : Enc α) (H : E.wf (Fr (Ex F ms) ms') w.heap x) : E.wf (Fr F ms) w.heap x := E.mono (fun _ _ h => ⟨fun e => h.2 (.inl e), fun e => h.2 (.inr e)⟩) H
theorem Enc.less (E : Enc α) (H : E.wf (Fr F ms) w.heap x) (hs : ∀ o, o ∈ ms' → o ∈ ms) : E.wf (Fr F ms') w.heap x := E.mono (fun k _ h => ⟨fun hm => h.1 (in_sub hs hm), h.2⟩) H
theorem Enc.kp (E : Enc α) {chg : List BS} (H : E.wf (Fr F ms) w.heap x) (g : Ch (In chg) w w') (hs : ∀ o, o ∈ chg → o ∈ ms) : E.wf (Fr F ms) w'.heap x :=
  E.keep (g.kp fun k _ h hm => h.1 (in_sub hs hm)) H
/-- F lies in the world that the call began in -/
def Old (F : Nat → Prop) (w : World) : Prop := ∀ k, F k → k < w.heap.size
theorem Tr.old (t : Tr ms w ms' w') (h : Old F w) : Old (Ex F ms') w' := fun k e => e.elim (t.ms.lt k) fun e => Nat.lt_of_lt_of_le (h k e) t.size
theorem old_no (w : World) : Old No w := fun _ h => h.elim
theorem Tr.of_ch {chg : List BS} (h : MS ms w) (g : Ch (In chg) w w') (hs : ∀ o, o ∈ chg → o ∈ ms) : Tr ms w ms w' :=
  ⟨g.mono fun k hk => in_sub hs hk, fun _ => .inl, ⟨fun k hk => Nat.lt_of_lt_of_le (h.lt k hk) g.size, h.sep⟩⟩
theorem Tr.of_ch0 (h : MS ms w) (g : Ch (In []) w w') : Tr ms w ms w' := Tr.of_ch h g fun _ h => by simp at h
/-- what is no longer written -/
theorem Sep.filter {p : Nat → Bool} : ∀ {ms : List BS} (is : List Nat) (_ : Sep ms), is.Pairwise (· < ·) → Sep (picks ms is)
  | ms, [], _, _ => trivial
  | ms, i :: is, s, hp => by
    have ih := Sep.filter (p := p) (ms := ms) is s (List.pairwise_cons.1 hp).2
    unfold picks
    cases h : ms[i]? with
    | none => rw [List.filterMap_cons, h]; exact ih
    | some o =>
      rw [List.filterMap_cons, h]
      refine ⟨fun k hk hm => ?_, ih⟩
      refine s.out i is ?_ h hk hm
      cases hc : is.contains i
      · rfl
      · have := (List.pairwise_cons.1 hp).1 i (List.contains_iff_mem.1 hc)
        omega
theorem mem_picks {is : List Nat} {o : BS} (h : o ∈ picks ms is) : o ∈ ms := by
  obtain ⟨j, _, h2⟩ := List.mem_filterMap.1 h
  exact List.mem_of_getElem? h2
theorem in_picks {is : List Nat} {k : Nat} (h : In (picks ms is) k) : In ms k := in_sub (fun _ => mem_picks) h
theorem MS.picks (h : MS ms w) (is : List Nat) (hi : is.Pairwise (· < ·)) : MS (V.picks ms is) w := ⟨fun k hk => h.lt k (in_picks hk), Sep.filter (p := fun _ => true) is h.sep hi⟩
theorem Tr.drop (h : MS ms w) (is : List Nat) (hi : is.Pairwise (· < ·)) : Tr ms w (picks ms is) w := ⟨Ch.refl w, fun k hk => .inl (in_picks hk), h.picks is hi⟩
/-- new blocks that will be written -/
theorem MS.cons {b : BS} (h : MS ms w) (hb : ∀ k, b k → k < w.heap.size ∧ ¬ In ms k) : MS (b :: ms) w :=
  ⟨fun k hk => hk.elim (fun e => (hb k e).1) (h.lt k), fun k hk => (hb k hk).2, h.sep⟩
theorem Tr.cons {b : BS} (t : Tr ms w ms' w') (hb : ∀ k, b k → w.heap.size ≤ k ∧ k < w'.heap.size ∧ ¬ In ms' k) : Tr ms w (b :: ms') w' :=
  ⟨t.ch, fun k hk => hk.elim (fun e => .inr (hb k e).1) (t.sub k), t.ms.cons fun k e => (hb k e).2⟩
/-- a callee that may write m0 and gives nw back -/
theorem Tr.frame {m0 nw : List BS} (h : MS ms w) (t : Tr m0 w (nw ++ m0) w') (hs : ∀ o, o ∈ m0 → o ∈ ms) : Tr ms w (nw ++ ms) w' := by
  have hnew : ∀ k, In nw k → w.heap.size ≤ k ∧ k < w'.heap.size := fun k hk => by
    refine ⟨?_, t.ms.lt k (in_app.2 (.inl hk))⟩
    rcases t.sub k (in_app.2 (.inl hk)) with h1 | h1
    · have : ∀ (nw : List BS), Sep (nw ++ m0) → In nw k → False := by
        intro nw
        induction nw with
        | nil => intro _ h; exact h
        | cons o r ih =>
          intro s hm
          rcases hm with e | e
          · exact s.1 k e (in_app.2 (.inr h1))
          · exact ih s.2 e
      exact (this nw t.ms.sep hk).elim
    · exact h1
  refine ⟨t.ch.mono fun k hk => in_sub hs hk, fun k hk => ?_, ⟨fun k hk => ?_, ?_⟩⟩
  · rcases in_app.1 hk with h1 | h1
    · exact .inr (hnew k h1).1
    · exact .inl h1
  · rcases in_app.1 hk with h1 | h1
    · exact (hnew k h1).2
    · exact Nat.lt_of_lt_of_le (h.lt k h1) t.size
  · have : ∀ (nw : List BS), Sep (nw ++ m0) → (∀ k, In nw k → w.heap.size ≤ k) → Sep (nw ++ ms) := by
      intro nw
      induction nw with
      | nil => intro _ _; exact h.sep
      | cons o r ih =>
        intro s hn
        refine ⟨fun k hk hm => ?_, ih s.2 fun k hk => hn k (.inr hk)⟩
        rcases in_app.1 hm with h1 | h1
        · exact s.1 k hk (in_app.2 (.inl h1))
        · have := hn k (.inl hk)
          have := h.lt k h1
          omega
    exact this nw t.ms.sep fun k hk => (hnew k hk).1
theorem Tr.framed {m0 : List BS} (h : MS ms w) (t : Tr m0 w m0 w') (hs : ∀ o, o ∈ m0 → o ∈ ms) : Tr ms w ms w' := Tr.frame (nw := []) h t hs
theorem Tr.in (t : Tr ms w ms' w') : Ch (In ms) w w' := t.ch
theorem Blk.tr {b : Nat} {cs : List Value} {e : TypeId} {chg : List BS} (k : Blk w.heap b cs e) (g : Ch (In chg) w w') (hb : ¬ In chg b) : Blk w'.heap b cs e := k.kp g hb
end
/-! What an operation gives. -/
section
variable {P : Program} {a : Act} {w : World} {d : Option Tmp} {ty : TypeId} {pos : String} {af : Array Edge} {g : Option (Nat × Bool)}
theorem wrap_eq {k : IntKind} {z r lo hi : Int} (hk : k.signed = true ∧ (k.bits = 64 ∧ lo = -9223372036854775808 ∧ hi = 9223372036854775807 ∨ k.bits = 32 ∧ lo = -2147483648 ∧ hi = 2147483647) ∨ k.signed = false ∧ (k.bits = 64 ∧ lo = 0 ∧ hi = 18446744073709551615 ∨ k.bits = 32 ∧ lo = 0 ∧ hi = 4294967295 ∨ k.bits = 16 ∧ lo = 0 ∧ hi = 65535 ∨ k.bits = 8 ∧ lo = 0 ∧ hi = 255))
    (h : z = r ∧ lo ≤ r ∧ r ≤ hi) : k.wrap z = r := by
  obtain ⟨rfl, h1, h2⟩ := h
  rcases hk with ⟨hs, h | h⟩ | ⟨hs, h | h | h | h⟩ <;> (obtain ⟨hb, rfl, rfl⟩ := h; unfold IntKind.wrap; rw [hs, hb]; simp; try omega)
theorem w_i64 {z r : Int} (h : z = r ∧ -9223372036854775808 ≤ r ∧ r ≤ 9223372036854775807) : IntKind.i64.wrap z = r := wrap_eq (.inl ⟨rfl, .inl ⟨rfl, rfl, rfl⟩⟩) h
theorem w_i32 {z r : Int} (h : z = r ∧ -2147483648 ≤ r ∧ r ≤ 2147483647) : IntKind.i32.wrap z = r := wrap_eq (.inl ⟨rfl, .inr ⟨rfl, rfl, rfl⟩⟩) h
theorem w_u64 {z r : Int} (h : z = r ∧ 0 ≤ r ∧ r ≤ 18446744073709551615) : IntKind.u64.wrap z = r := wrap_eq (.inr ⟨rfl, .inl ⟨rfl, rfl, rfl⟩⟩) h
theorem w_u32 {z r : Int} (h : z = r ∧ 0 ≤ r ∧ r ≤ 4294967295) : IntKind.u32.wrap z = r := wrap_eq (.inr ⟨rfl, .inr (.inl ⟨rfl, rfl, rfl⟩)⟩) h
theorem w_u16 {z r : Int} (h : z = r ∧ 0 ≤ r ∧ r ≤ 65535) : IntKind.u16.wrap z = r := wrap_eq (.inr ⟨rfl, .inr (.inr (.inl ⟨rfl, rfl, rfl⟩))⟩) h
theorem w_u8 {z r : Int} (h : z = r ∧ 0 ≤ r ∧ r ≤ 255) : IntKind.u8.wrap z = r := wrap_eq (.inr ⟨rfl, .inr (.inr (.inr ⟨rfl, rfl, rfl⟩))⟩) h
theorem x_move {x : Operand} {v : Value} (hx : a.eval x = v) : (execOp a.eval ⟨d, .move x, ty, pos, af, g⟩).run P w = .ok (.value v) w := by simp [execOp, hx]
theorem x_assign {x : Operand} {v : Value} (hx : a.eval x = v) : (execOp a.eval ⟨d, .assign x, ty, pos, af, g⟩).run P w = .ok (.value v) w := by simp [execOp, hx]
theorem x_pick {c x y : Operand} {b : Bool} {v u : Value} (hc : a.eval c = .bool b) (hx : a.eval x = v) (hy : a.eval y = u) : (execOp a.eval ⟨d, .pick c x y, ty, pos, af, g⟩).run P w = .ok (.value (if b then v else u)) w := by
  cases b <;> simp [execOp, hc, hx, hy, asBool]
theorem x_pickt {c x y : Operand} {v : Value} (hc : a.eval c = .bool true) (hx : a.eval x = v) : (execOp a.eval ⟨d, .pick c x y, ty, pos, af, g⟩).run P w = .ok (.value v) w := by
  simp [execOp, hc, hx, asBool]
theorem x_pickf {c x y : Operand} {v : Value} (hc : a.eval c = .bool false) (hx : a.eval y = v) : (execOp a.eval ⟨d, .pick c x y, ty, pos, af, g⟩).run P w = .ok (.value v) w := by
  simp [execOp, hc, hx, asBool]
section
variable {x y : Operand} {xt yt : TypeId} {k : IntKind} {m p r : Int} (hx : a.eval x = .int k m) (hy : a.eval y = .int k p)
include hx hy
theorem x_add (hr : k.wrap (m + p) = r) : (execOp a.eval ⟨d, .binOp .add xt x y yt, ty, pos, af, g⟩).run P w = .ok (.value (.int k r)) w := by simp [execOp, eqGuard, binOp, Op.intArith, hx, hy, hr]
theorem x_sub (hr : k.wrap (m - p) = r) : (execOp a.eval ⟨d, .binOp .sub xt x y yt, ty, pos, af, g⟩).run P w = .ok (.value (.int k r)) w := by simp [execOp, eqGuard, binOp, Op.intArith, hx, hy, hr]
theorem x_mul (hr : k.wrap (m * p) = r) : (execOp a.eval ⟨d, .binOp .mul xt x y yt, ty, pos, af, g⟩).run P w = .ok (.value (.int k r)) w := by simp [execOp, eqGuard, binOp, Op.intArith, hx, hy, hr]
theorem x_quo (h0 : ¬ p = 0) (hr : k.wrap (m.tdiv p) = r) : (execOp a.eval ⟨d, .binOp .quo xt x y yt, ty, pos, af, g⟩).run P w = .ok (.value (.int k r)) w := by simp [execOp, eqGuard, binOp, Op.intDiv, hx, hy, hr, h0]
theorem x_rem (h0 : ¬ p = 0) (hr : m.tmod p = r) : (execOp a.eval ⟨d, .binOp .rem xt x y yt, ty, pos, af, g⟩).run P w = .ok (.value (.int k r)) w := by simp [execOp, eqGuard, binOp, Op.intDiv, hx, hy, hr, h0]
theorem x_lss : (execOp a.eval ⟨d, .binOp .lss xt x y yt, ty, pos, af, g⟩).run P w = .ok (.value (.bool (decide (m < p)))) w := by simp [execOp, eqGuard, binOp, Op.intCmp, hx, hy]
theorem x_leq : (execOp a.eval ⟨d, .binOp .leq xt x y yt, ty, pos, af, g⟩).run P w = .ok (.value (.bool (decide (m ≤ p)))) w := by simp [execOp, eqGuard, binOp, Op.intCmp, hx, hy]
theorem x_gtr : (execOp a.eval ⟨d, .binOp .gtr xt x y yt, ty, pos, af, g⟩).run P w = .ok (.value (.bool (decide (p < m)))) w := by simp [execOp, eqGuard, binOp, Op.intCmp, hx, hy]
theorem x_geq : (execOp a.eval ⟨d, .binOp .geq xt x y yt, ty, pos, af, g⟩).run P w = .ok (.value (.bool (decide (p ≤ m)))) w := by simp [execOp, eqGuard, binOp, Op.intCmp, hx, hy]
theorem x_eql : (execOp a.eval ⟨d, .binOp .eql xt x y yt, ty, pos, af, g⟩).run P w = .ok (.value (.bool (decide (m = p)))) w := by
  rw [show decide (m = p) = (m == p) from rfl]; simp [execOp, eqGuard, binOp, Op.intCmp, hx, hy]
theorem x_neq : (execOp a.eval ⟨d, .binOp .neq xt x y yt, ty, pos, af, g⟩).run P w = .ok (.value (.bool (decide (¬ m = p)))) w := by
  have : (decide (¬ m = p)) = (m != p) := by rw [decide_not]; rfl
  rw [this]
  simp [execOp, eqGuard, binOp, Op.intCmp, hx, hy]
end
theorem list_toList (s : ByteArray) : s.toList = s.data.toList := ByteArray.toList_eq s
theorem ba_eq (s t : ByteArray) : (s.toList == t.toList) = decide (s = t) := by
  have h : s.toList = t.toList ↔ s = t := ⟨fun h => by
    rw [list_toList, list_toList] at h
    cases s; cases t; congr 1; exact Array.ext' h, fun h => by rw [h]⟩
  by_cases e : s = t
  · subst e; simp
  · have : ¬ s.toList = t.toList := fun h' => e (h.1 h')
    simp [e, this]
theorem x_seql {x y : Operand} {xt yt : TypeId} {s t : ByteArray} (hx : a.eval x = .string s) (hy : a.eval y = .string t) : (execOp a.eval ⟨d, .binOp .eql xt x y yt, ty, pos, af, g⟩).run P w = .ok (.value (.bool (decide (s = t)))) w := by
  rw [← ba_eq]; simp [execOp, eqGuard, binOp, Op.stringOp, hx, hy]
theorem x_sneq {x y : Operand} {xt yt : TypeId} {s t : ByteArray} (hx : a.eval x = .string s) (hy : a.eval y = .string t) : (execOp a.eval ⟨d, .binOp .neq xt x y yt, ty, pos, af, g⟩).run P w = .ok (.value (.bool (decide (¬ s = t)))) w := by
  rw [decide_not, ← ba_eq]; simp [execOp, eqGuard, binOp, Op.stringOp, hx, hy]
theorem x_not {x : Operand} {xt : TypeId} {b : Bool} (hx : a.eval x = .bool b) : (execOp a.eval ⟨d, .unOp .not xt x, ty, pos, af, g⟩).run P w = .ok (.value (.bool (!b))) w := by simp [execOp, Op.unary, hx]
theorem x_notp {x : Operand} {xt : TypeId} {q : Prop} [Decidable q] (hx : a.eval x = .bool (decide q)) : (execOp a.eval ⟨d, .unOp .not xt x, ty, pos, af, g⟩).run P w = .ok (.value (.bool (decide (¬ q)))) w := by
  rw [decide_not]; simp [execOp, Op.unary, hx]
theorem x_bin {op : BinOp} {x y : Operand} {xt yt : TypeId} {u v r : Value} (hx : a.eval x = u) (hy : a.eval y = v) (hg : (eqGuard op xt x y u v).run P w = .ok () w) (h : (binOp op xt u v).run P w = .ok r w) :
    (execOp a.eval ⟨d, .binOp op xt x y yt, ty, pos, af, g⟩).run P w = .ok (.value r) w := by
  unfold execOp
  simp only [hx, hy, Sem.run_bind, hg, h, Result.andThen_ok, Sem.run_pure]
theorem x_beql {x y : Operand} {xt yt : TypeId} {b c : Bool} (hu : P.underlying xt = some .bool) (hx : a.eval x = .bool b) (hy : a.eval y = .bool c) : (execOp a.eval ⟨d, .binOp .eql xt x y yt, ty, pos, af, g⟩).run P w = .ok (.value (.bool (decide (b = c)))) w := by
  refine x_bin hx hy (by simp [eqGuard]) ?_
  rw [run_eql_bool w xt b c hu]; cases b <;> cases c <;> rfl
theorem x_bneq {x y : Operand} {xt yt : TypeId} {b c : Bool} (hu : P.underlying xt = some .bool) (hx : a.eval x = .bool b) (hy : a.eval y = .bool c) : (execOp a.eval ⟨d, .binOp .neq xt x y yt, ty, pos, af, g⟩).run P w = .ok (.value (.bool (decide (¬ b = c)))) w := by
  refine x_bin hx hy (by simp [eqGuard]) ?_
  rw [run_neq_bool w xt b c hu]; cases b <;> cases c <;> rfl
theorem x_conv {x : Operand} {src dst : TypeId} {k k' : IntKind} {m r : Int} {ds : TypeDesc} (hs : P.underlying src = some ds) (hd : P.underlying dst = some (.int k)) (hx : a.eval x = .int k' m) (hr : k.wrap m = r) :
    (execOp a.eval ⟨d, .convert src dst x, ty, pos, af, g⟩).run P w = .ok (.value (.int k r)) w := by
  simp [execOp, convert, run_underlying hs, run_underlying hd, hx, Conv.intToInt, hr]
theorem x_extract {x : Operand} {vs : Array Value} {i : Nat} {v : Value} (hx : a.eval x = .tuple vs) (hv : vs[i]? = some v) : (execOp a.eval ⟨d, .extract x i, ty, pos, af, g⟩).run P w = .ok (.value v) w := by
  simp [execOp, Instr.extract, hx, hv]
theorem x_len {x : Operand} {t e : TypeId} {s : Option Addr} {n c : Nat} (ht : P.underlying t = some (.slice e)) (hx : a.eval x = .slice s n c) :
    (execOp a.eval ⟨d, .call ⟨.builtin .len, #[x], #[t]⟩, ty, pos, af, g⟩).run P w = .ok (.value (.int .i64 n)) w := by
  simp [execOp, resolve, invoke, builtin, Builtin.len_, run_underlying ht, hx, goInt]
theorem x_lens {x : Operand} {t : TypeId} {s : ByteArray} (ht : P.underlying t = some .string) (hx : a.eval x = .string s) :
    (execOp a.eval ⟨d, .call ⟨.builtin .len, #[x], #[t]⟩, ty, pos, af, g⟩).run P w = .ok (.value (.int .i64 s.size)) w := by
  simp [execOp, resolve, invoke, builtin, Builtin.len_, run_underlying ht, hx, goInt]
theorem x_min {x y : Operand} {ats : Array TypeId} {k : IntKind} {m p : Int} (hx : a.eval x = .int k m) (hy : a.eval y = .int k p) :
    (execOp a.eval ⟨d, .call ⟨.builtin .min, #[x, y], ats⟩, ty, pos, af, g⟩).run P w = .ok (.value (.int k (if p < m then p else m))) w := by
  simp [execOp, resolve, invoke, builtin, Builtin.min_, Builtin.min2, hx, hy]
theorem x_max {x y : Operand} {ats : Array TypeId} {k : IntKind} {m p : Int} (hx : a.eval x = .int k m) (hy : a.eval y = .int k p) :
    (execOp a.eval ⟨d, .call ⟨.builtin .max, #[x, y], ats⟩, ty, pos, af, g⟩).run P w = .ok (.value (.int k (if p > m then p else m))) w := by
  simp [execOp, resolve, invoke, builtin, Builtin.max_, Builtin.max2, hx, hy]
theorem addr_add (b o n : Nat) : (⟨b, o, none⟩ : Addr).add n = ⟨b, o + n, none⟩ := by unfold Addr.add; split <;> simp_all
/-- the address of an element; 'm' is the index -/
theorem x_idx {x y : Operand} {t e : TypeId} {s : Option Addr} {n c b o sz : Nat} {k : IntKind} {i : Int} (ht : P.underlying t = some (.slice e)) (hsz : (P.info? e).map (·.size) = some sz) (hx : a.eval x = .slice s n c) (hy : a.eval y = .int k i) (m : Nat) (hm : i = (m : Int)) (hlt : m < n) (hs : s = some ⟨b, o, none⟩) :
    (execOp a.eval ⟨d, .indexAddr t x y, ty, pos, af, g⟩).run P w = .ok (.value (.pointer (some ⟨b, o + m * sz, none⟩))) w := by
  subst hs hm
  cases hi : P.info? e with
  | none => simp [hi] at hsz
  | some ie =>
    have h1 : ie.size = sz := by simpa [hi] using hsz
    simp [execOp, Instr.indexAt, run_underlying ht, hx, hy, asIntOf, sizeOf, typeInfo, hi, h1, hlt, addr_add]
theorem x_fld {x : Operand} {s : TypeId} {fs : Array Field} {i b z : Nat} {f : Field} (o fo : Nat) (hu : P.underlying s = some (.struct fs)) (hf : fs[i]? = some f) (hfo : f.offset = fo) (hz : (P.info? f.type).map (·.size) = some (z + 1)) (hx : a.eval x = .pointer (some ⟨b, o, none⟩)) :
    (execOp a.eval ⟨d, .fieldAddr s x i, ty, pos, af, g⟩).run P w = .ok (.value (.pointer (some ⟨b, o + fo, none⟩))) w := by
  subst hfo
  cases hi : P.info? f.type with
  | none => simp [hi] at hz
  | some ie =>
    have h1 : ie.size = z + 1 := by simpa [hi] using hz
    simp [execOp, Instr.fieldAt, run_underlying hu, hf, hx, Instr.sureAddr, fieldPlace, sizeOf, typeInfo, hi, h1, addr_add]
/-- a type whose variables are one cell -/
def Scalar (P : Program) (t : TypeId) : Prop := ∃ ds, P.underlying t = some ds ∧ (match ds with | .struct _ | .array _ _ => false | _ => true) = true
/-- a struct or array type of n cells -/
def Wide (P : Program) (t : TypeId) (n : Nat) : Prop := ∃ ds, P.underlying t = some ds ∧ (match ds with | .struct _ | .array _ _ => true | _ => false) = true ∧ (P.info? t).map (·.size) = some n
theorem run_isAgg_scalar {t : TypeId} (h : Scalar P t) : (isAgg t).run P w = .ok false w := by
  obtain ⟨ds, h1, h2⟩ := h
  unfold isAgg
  rw [Sem.run_bind, run_underlying h1 w]
  cases ds <;> simp_all
theorem run_isAgg_wide {t : TypeId} {n : Nat} (h : Wide P t n) : (isAgg t).run P w = .ok true w := by
  obtain ⟨ds, h1, h2, _⟩ := h
  unfold isAgg
  rw [Sem.run_bind, run_underlying h1 w]
  cases ds <;> simp_all
theorem x_load {x : Operand} {t : TypeId} {b o : Nat} {v : Value} (hs : Scalar P t) (hx : a.eval x = .pointer (some ⟨b, o, none⟩)) (hc : hcell w.heap b o = some v) :
    (execOp a.eval ⟨d, .load t x, ty, pos, af, g⟩).run P w = .ok (.value v) w := by
  have hc' : w.cell? ⟨b, o, none⟩ = some v := hc
  simp [execOp, Instr.loadAt, hx, Instr.sureAddr, loadVar, run_isAgg_scalar hs, hc']
theorem run_loadVar_wide {t : TypeId} {b o : Nat} (cs : List Value) (hs : Wide P t cs.length) (hc : ∀ j v, cs[j]? = some v → hcell w.heap b (o + j) = some v) :
    (loadVar t ⟨b, o, none⟩).run P w = .ok (.agg cs.toArray) w := by
  have hl := run_loadCells_list (P := P) w ⟨b, o, none⟩ cs (fun j v hv => by rw [addr_add]; exact hc j v hv)
  obtain ⟨ds, h1, h2, h3⟩ := id hs
  cases hi : P.info? t with
  | none => simp [hi] at h3
  | some ie =>
    have h4 : ie.size = cs.length := by simpa [hi] using h3
    simp [loadVar, run_isAgg_wide hs, sizeOf, typeInfo, hi, h4, hl]
theorem x_loadw {x : Operand} {t : TypeId} {b o : Nat} (cs : List Value) (hs : Wide P t cs.length) (hx : a.eval x = .pointer (some ⟨b, o, none⟩)) (hc : ∀ j v, cs[j]? = some v → hcell w.heap b (o + j) = some v) :
    (execOp a.eval ⟨d, .load t x, ty, pos, af, g⟩).run P w = .ok (.value (.agg cs.toArray)) w := by
  simp [execOp, Instr.loadAt, hx, Instr.sureAddr, run_loadVar_wide cs hs hc]
theorem x_box {x : Operand} {e : TypeId} {v : Value} (cs : List Value) (hx : a.eval x = v) (hv : v.cells = cs.toArray) :
    (execOp a.eval ⟨d, .box e x, ty, pos, af, g⟩).run P w = .ok (.value (.pointer (some ⟨w.heap.size, 0, none⟩))) (w.alloc (.cells cs.toArray e)) := by
  simp [execOp, Instr.box, hx, newVar, newRow, hv]
theorem x_alloc {e : TypeId} {z : Value} (cs : List Value) (hz : (P.info? e).bind (·.zero) = some z) (hv : z.cells = cs.toArray) :
    (execOp a.eval ⟨d, .alloc e, ty, pos, af, g⟩).run P w = .ok (.value (.pointer (some ⟨w.heap.size, 0, none⟩))) (w.alloc (.cells cs.toArray e)) := by
  cases hi : P.info? e with
  | none => simp [hi] at hz
  | some ie =>
    have h1 : ie.zero = some z := by simpa [hi] using hz
    simp [execOp, Instr.alloc, zeroValue, typeInfo, hi, h1, newVar, newRow, hv]
theorem run_store_blk {b o : Nat} {v u : Value} {cs : List Value} {e : TypeId} (h1 : v.oneCell' = true) (hb : Blk w.heap b cs e) (ho : cs[o]? = some u) (m : Mode) :
    (store ⟨b, o, none⟩ v m).run P w = .ok () (w.setCell ⟨b, o, none⟩ v) := by
  rw [run_store P w _ v m h1]
  have hc : w.cell? ⟨b, o, none⟩ = some u := hb.cell ho
  have hf : w.frozen? ⟨b, o, none⟩ = false := by
    simp [World.frozen?, show w.heap[b]? = _ from hb]
  simp [hc, hf]
theorem x_store {x y : Operand} {t : TypeId} {b o : Nat} {v u : Value} {cs : List Value} {e : TypeId} (hz : (P.info? t).map (·.size) = some 1) (hx : a.eval x = .pointer (some ⟨b, o, none⟩)) (hy : a.eval y = v) (h1 : v.oneCell' = true) (hb : Blk w.heap b cs e) (ho : cs[o]? = some u) :
    (execOp a.eval ⟨d, .store t x y, ty, pos, af, g⟩).run P w = .ok .skip (w.setCell ⟨b, o, none⟩ v) := by
  have hcs : v.cells = #[v] := by cases v <;> simp [Value.oneCell'] at h1 <;> rfl
  cases hi : P.info? t with
  | none => simp [hi] at hz
  | some ie =>
    have h2 : ie.size = 1 := by simpa [hi] using hz
    simp [execOp, Instr.storeAt, hx, hy, Instr.sureAddr, storeVar, hcs, sizeOf, typeInfo, hi, h2, storeCells, addr_add, run_store_blk h1 hb ho]
theorem x_build {t : TypeId} {parts : Array (Nat × Operand)} (vs : List (Nat × Value)) (cs : List Value) (hv : parts.toList.map (fun p => (p.1, a.eval p.2)) = vs) (hb : P.built t vs = some cs.toArray) :
    (execOp a.eval ⟨d, .build t parts, ty, pos, af, g⟩).run P w = .ok (.value (.agg cs.toArray)) w := by
  have h := run_build (P := P) w t (parts.map fun (i, x) => (i, a.eval x)) cs.toArray (by
    have : (parts.map fun (i, x) => (i, a.eval x)).toList = vs := by rw [Array.toList_map, ← hv]
    rw [this]; exact hb)
  unfold execOp
  simp only [Sem.run_bind, h, Result.andThen_ok, Sem.run_pure]
def Zero1 (P : Program) (e : TypeId) : Prop := ∃ ie z, P.info? e = some ie ∧ ie.zero = some z ∧ z.cells.size = ie.size
theorem x_bslice {t e : TypeId} {len : Nat} {parts : Array (Nat × Operand)} (vs : List (Nat × Value)) (cs : List Value) (ie : TypeInfo) (z : Value) (ht : P.underlying t = some (.slice e)) (hie : P.info? e = some ie) (hz : ie.zero = some z) (hsmall : ¬ len * ie.size > 2 ^ 24) (hpos : ¬ len * ie.size = 0)
    (hv : parts.toList.map (fun p => (p.1, a.eval p.2)) = vs) (hf : Instr.fill (fun i => some (i * ie.size, ie.size)) ((Array.range (len * ie.size)).map (z.cells[· % z.cells.size]!)) vs = some cs.toArray) :
    (execOp a.eval ⟨d, .buildSlice t len parts, ty, pos, af, g⟩).run P w = .ok (.value (.slice (some ⟨w.heap.size, 0, none⟩) len len)) (w.alloc (.cells cs.toArray e)) := by
  have h := run_buildSlice (P := P) w t e len (parts.map fun (i, x) => (i, a.eval x)) cs.toArray ie z ht hie hz hsmall hpos (by
    have : (parts.map fun (i, x) => (i, a.eval x)).toList = vs := by rw [Array.toList_map, ← hv]
    rw [this]; exact hf)
  unfold execOp
  simp only [Sem.run_bind, h, Result.andThen_ok, Sem.run_pure]
end
end Go.Proofs.Ytfanmniaolncbaa.V
