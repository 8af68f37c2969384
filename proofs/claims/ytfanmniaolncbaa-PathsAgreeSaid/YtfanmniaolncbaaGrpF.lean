/- TopP TopV in one text -/
import Derived.Test.YtfanmniaolncbaaTopE
import Derived.Test.YtfanmniaolncbaaTD
import Derived.Test.YtfanmniaolncbaaGrpA
set_option linter.unusedVariables false
set_option linter.unusedSimpArgs false
/- Prefixes and names: contracts of other texts in the form of my logic; what a valid name is. -/
namespace Go.Proofs.Ytfanmniaolncbaa.V
open Go.RowKit Go.Proofs.Ytfanmniaolncbaa
theorem tr_below {w w' : World} (h : Below w.heap.size w w') : Tr [] w [] w' := ⟨(Ch.of_below h).mono fun _ h => h.elim, fun _ h => h.elim, MS.nil _⟩
theorem calls_ch {P : Program} {f : FuncId} {vs : Array Value} {w : World} {b : Bool} (h : Calls P f vs w fun e w' => e = .returned (.bool b) ∧ Below w.heap.size w w') : Calls P f vs w fun e w' => e = .returned (.bool (decide (b = true))) ∧ Tr [] w [] w' :=
  h.mono fun _ _ ⟨h1, h2⟩ => ⟨by rw [Bool.decide_eq_true]; exact h1, tr_below h2⟩
def pfxV (p : Pfx) : Prop := valB p.addr p.bits = true
instance (p : Pfx) : Decidable (pfxV p) := inferInstanceAs (Decidable (_ = _))
def pfxC (p q : Pfx) : Prop := coverB p.addr p.bits q.addr q.bits = true
instance (p q : Pfx) : Decidable (pfxC p q) := inferInstanceAs (Decidable (_ = _))
theorem pValid (w : World) (F : Nat → Prop) (_ : Old F w) (_ : MS [] w) (p : Pfx) (p_w : pfxE.wf (Fr F []) w.heap p) : Calls Try.prog 83 #[.agg #[.int .u32 p.addr, .int .i64 p.bits]] w fun e w' => e = .returned (.bool (decide (pfxV p))) ∧ Tr [] w [] w' :=
  calls_ch (prefix_Valid p.addr p.bits p_w.1.1 p_w.1.2 w)
theorem rValid (w : World) (F : Nat → Prop) (_ : Old F w) (_ : MS [] w) (p : Pfx) (p_w : pfxE.wf (Fr F []) w.heap p) : Calls Try.prog 91 #[.agg #[.int .u32 p.addr, .int .i64 p.bits]] w fun e w' => e = .returned (.bool (decide (pfxV p))) ∧ Tr [] w [] w' :=
  calls_ch (ref_Valid p.addr p.bits p_w.1.1 p_w.1.2 rfl w)
theorem pCovers (w : World) (F : Nat → Prop) (_ : Old F w) (_ : MS [] w) (p : Pfx) (p_w : pfxE.wf (Fr F []) w.heap p) (q : Pfx) (q_w : pfxE.wf (Fr F []) w.heap q) : Calls Try.prog 104 #[.agg #[.int .u32 p.addr, .int .i64 p.bits], .agg #[.int .u32 q.addr, .int .i64 q.bits]] w fun e w' => e = .returned (.bool (decide (pfxC p q))) ∧ Tr [] w [] w' :=
  calls_ch (prefix_Covers _ _ _ _ p_w.1.1 p_w.1.2 q_w.1.1 q_w.1.2 w)
theorem rCovers (w : World) (F : Nat → Prop) (_ : Old F w) (_ : MS [] w) (p : Pfx) (p_w : pfxE.wf (Fr F []) w.heap p) (q : Pfx) (q_w : pfxE.wf (Fr F []) w.heap q) : Calls Try.prog 113 #[.agg #[.int .u32 p.addr, .int .i64 p.bits], .agg #[.int .u32 q.addr, .int .i64 q.bits]] w fun e w' => e = .returned (.bool (decide (pfxC p q))) ∧ Tr [] w [] w' :=
  calls_ch (ref_Covers _ _ _ _ p_w.1.1 p_w.1.2 q_w.1.1 q_w.1.2 rfl w)
/-- a letter, a digit, - or _ -/
def okc (b : Int) : Prop := (97 ≤ b ∧ b ≤ 122) ∨ (48 ≤ b ∧ b ≤ 57) ∨ b = 45 ∨ b = 95
def vname (s : ByteArray) : Prop := ¬ s = ⟨#[]⟩ ∧ s.size ≤ 24 ∧ ¬ s = ⟨#[97, 110, 121]⟩ ∧ (97 ≤ bt s 0 ∧ bt s 0 ≤ 122) ∧ ∀ i, i < s.size → okc (bt s i)
noncomputable instance (s : ByteArray) : Decidable (vname s) := Classical.propDecidable _
def meets (p q : Pfx) : Prop := pfxC p q ∨ pfxC q p
instance (p q : Pfx) : Decidable (meets p q) := inferInstanceAs (Decidable (_ ∨ _))
def devV (d : Dev) : Prop := vname d.name ∧ 0 ≤ d.cap ∧ d.cap ≤ 4096 ∧ (d.cls = ⟨#[]⟩ ∨ vname d.cls)
noncomputable instance (d : Dev) : Decidable (devV d) := Classical.propDecidable _
def edgV (n : Nat) (e : Edg) : Prop := (0 ≤ e.dev ∧ e.dev < n) ∧ (vname e.name ∧ vname e.zone) ∧ pfxV e.pfx ∧ 0 < e.pfx.bits ∧ (¬ e.planned = true ∨ e.pfx.addr = 0)
noncomputable instance (n : Nat) (e : Edg) : Decidable (edgV n e) := Classical.propDecidable _
end Go.Proofs.Ytfanmniaolncbaa.V
/- What a valid topology is; what a valid failure state is; plain laws. -/
namespace Go.Proofs.Ytfanmniaolncbaa.V
open Go.RowKit
theorem idxOf_nonneg_p {α : Type} (p : α → Prop) [DecidablePred p] (xs : List α) : 0 ≤ idxOf (fun x => decide (p x)) xs ↔ ∃ x ∈ xs, p x := by
  rw [idxOf_nonneg]
  constructor
  · rintro ⟨x, h, e⟩; exact ⟨x, h, of_decide_eq_true e⟩
  · rintro ⟨x, h, e⟩; exact ⟨x, h, decide_eq_true e⟩
theorem ex_getD {α : Type} (d : α) (p : α → Prop) (xs : List α) : (∃ x ∈ xs, p x) ↔ ∃ i, i < xs.length ∧ p (xs.getD i d) := by
  constructor
  · rintro ⟨x, h, e⟩; obtain ⟨i, hi, rfl⟩ := mem_getD d h; exact ⟨i, hi, e⟩
  · rintro ⟨i, hi, e⟩; exact ⟨_, getD_mem hi, e⟩
theorem getD_take {α : Type} {d : α} {xs : List α} {i j : Nat} (h : j < i) : (xs.take i).getD j d = xs.getD j d := by
  simp only [List.getD_eq_getElem?_getD]; rw [List.getElem?_take_of_lt h]
theorem ex_take {α : Type} (d : α) (p : α → Prop) (xs : List α) (i : Nat) (hi : i ≤ xs.length) : (∃ x ∈ xs.take i, p x) ↔ ∃ j, j < i ∧ p (xs.getD j d) := by
  rw [ex_getD d, List.length_take, Nat.min_eq_left hi]
  constructor
  · rintro ⟨j, hj, e⟩; rw [getD_take hj] at e; exact ⟨j, hj, e⟩
  · rintro ⟨j, hj, e⟩; exact ⟨j, hj, by rw [getD_take hj]; exact e⟩
theorem list_ext {α : Type} (d : α) {xs ys : List α} (hl : xs.length = ys.length) (h : ∀ i, i < xs.length → xs.getD i d = ys.getD i d) : xs = ys := by
  apply List.ext_getElem hl
  intro i h1 h2
  have := h i h1
  simpa [List.getD_eq_getElem?_getD, List.getElem?_eq_getElem h1, List.getElem?_eq_getElem h2] using this
def lnkV (n : Nat) (l : Lnk) : Prop := 0 ≤ l.a ∧ l.a < l.b ∧ l.b < n ∧ 1 ≤ l.cost ∧ l.cost ≤ 1000
def topB (t : Topo) : Prop := ¬ t.devs.xs.length = 0 ∧ t.devs.xs.length ≤ 12 ∧ t.links.xs.length ≤ 24 ∧ t.edges.xs.length ≤ 12 ∧ t.pools.xs.length ≤ 8 ∧ 0 ≤ t.tol ∧ t.tol ≤ 2
def devAt (xs : List Dev) (i : Nat) : Prop := devV (xs.getD i devE.dflt) ∧ idxOf (fun x => decide (x.name = (xs.getD i devE.dflt).name)) xs = (i : Int)
def devsOk (xs : List Dev) : Prop := (¬ xs.length = 0 ∧ xs.length ≤ 12) ∧ ∀ i, i < xs.length → devAt xs i
noncomputable instance (xs : List Dev) : Decidable (devsOk xs) := Classical.propDecidable _
def edgAt (t : Topo) (i : Nat) : Prop := edgV t.devs.xs.length (t.edges.xs.getD i edgE.dflt) ∧ idxOf (fun x => decide (x.name = (t.edges.xs.getD i edgE.dflt).name)) t.edges.xs = (i : Int)
def edgTwo (e f : Edg) : Prop := (¬ e.planned = true ∧ ¬ f.planned = true) ∧ meets e.pfx f.pfx
def polAt (xs : List Pfx) (i : Nat) : Prop := pfxV (xs.getD i pfxE.dflt) ∧ ∀ j, j < i → ¬ meets (xs.getD i pfxE.dflt) (xs.getD j pfxE.dflt)
def topV (t : Topo) : Prop := topB t ∧ (∀ i, i < t.devs.xs.length → devAt t.devs.xs i) ∧ (∀ i, i < t.links.xs.length → lnkV t.devs.xs.length (t.links.xs.getD i lnkE.dflt)) ∧
  (∀ i, i < t.edges.xs.length → edgAt t i) ∧ (∀ i, i < t.edges.xs.length → ∀ j, j < i → ¬ edgTwo (t.edges.xs.getD i edgE.dflt) (t.edges.xs.getD j edgE.dflt)) ∧ (∀ i, i < t.pools.xs.length → polAt t.pools.xs i)
noncomputable instance (t : Topo) : Decidable (topV t) := Classical.propDecidable _
def fixedOf (l : List Edg) : List Pfx := (l.filter fun e => !e.planned).map (·.pfx)
theorem pw_getD {α : Type} (d : α) (R : α → α → Prop) (xs : List α) : xs.Pairwise R ↔ ∀ i, i < xs.length → ∀ j, j < i → R (xs.getD j d) (xs.getD i d) := by
  rw [List.pairwise_iff_getElem]
  constructor
  · intro h i hi j hj
    have := h j i (by omega) hi hj
    simpa [List.getD_eq_getElem?_getD, List.getElem?_eq_getElem hi, List.getElem?_eq_getElem (show j < xs.length by omega)] using this
  · intro h i j hi hj hij
    have := h j hj i hij
    simpa [List.getD_eq_getElem?_getD, List.getElem?_eq_getElem hi, List.getElem?_eq_getElem hj] using this
theorem fixed_iff (l : List Edg) : (∀ i, i < l.length → ∀ j, j < i → ¬ edgTwo (l.getD i edgE.dflt) (l.getD j edgE.dflt)) ↔ ∀ i, i < (fixedOf l).length → ∀ j, j < i → ¬ meets ((fixedOf l).getD i pfxE.dflt) ((fixedOf l).getD j pfxE.dflt) := by
  rw [← pw_getD edgE.dflt (fun b a => ¬ edgTwo a b), ← pw_getD pfxE.dflt (fun b a => ¬ meets a b)]
  unfold fixedOf
  rw [List.pairwise_map, List.pairwise_filter]
  constructor
  · intro h
    refine h.imp fun {a b} h1 ha hb hm => h1 ⟨⟨by simpa using hb, by simpa using ha⟩, hm⟩
  · intro h
    exact h.imp fun {a b} h1 ⟨⟨hb, ha⟩, hm⟩ => h1 (by simpa using ha) (by simpa using hb) hm
theorem fixed_snoc (l : List Edg) (k : Nat) (hk : k < l.length) : fixedOf (l.take (k + 1)) = if (l.getD k edgE.dflt).planned = true then fixedOf (l.take k) else fixedOf (l.take k) ++ [(l.getD k edgE.dflt).pfx] := by
  have h1 : l.take (k + 1) = l.take k ++ [l.getD k edgE.dflt] := by
    rw [List.take_add_one, List.getD_eq_getElem?_getD, List.getElem?_eq_getElem hk]; rfl
  rw [h1]
  unfold fixedOf
  rw [List.filter_append, List.map_append]
  cases h : (l.getD k edgE.dflt).planned
  · rw [if_neg (by simp)]; simp only [List.filter_cons, h, Bool.not_false, List.filter_nil]; simp
  · rw [if_pos rfl]; simp only [List.filter_cons, h, Bool.not_true, List.filter_nil]; simp
theorem fixed_len (l : List Edg) : (fixedOf l).length ≤ l.length := by
  unfold fixedOf; rw [List.length_map]; exact List.length_filter_le _ _
/-- strictly ascending indexes below n -/
def rise (l : List Int) (n : Int) (i : Nat) : Prop := 0 ≤ l.getD i 0 ∧ l.getD i 0 < n ∧ (0 < i → l.getD (i - 1) 0 < l.getD i 0)
def rising (l : List Int) (n : Int) : Prop := ∀ i, i < l.length → rise l n i
noncomputable instance (l : List Int) (n : Int) : Decidable (rising l n) := Classical.propDecidable _
def failV (t : Topo) (f : Fail) : Prop := (topV t ∧ rising f.links.xs t.links.xs.length) ∧ rising f.devs.xs t.devs.xs.length
noncomputable instance (t : Topo) (f : Fail) : Decidable (failV t f) := Classical.propDecidable _
def aliveV (t : Topo) (f : Fail) (d : Int) : Prop := ((failV t f ∧ 0 ≤ d) ∧ d < t.devs.xs.length) ∧ ¬ d ∈ f.devs.xs
noncomputable instance (t : Topo) (f : Fail) (d : Int) : Decidable (aliveV t f d) := Classical.propDecidable _
def lnk (t : Topo) (i : Int) : Lnk := t.links.xs.getD i.toNat lnkE.dflt
def usableR (t : Topo) (f : Fail) (i : Int) : Prop := (¬ i ∈ f.links.xs ∧ ¬ (lnk t i).a ∈ f.devs.xs) ∧ ¬ (lnk t i).b ∈ f.devs.xs
instance (t : Topo) (f : Fail) (i : Int) : Decidable (usableR t f i) := inferInstanceAs (Decidable (_ ∧ _))
def usableV (t : Topo) (f : Fail) (i : Int) : Prop := ((failV t f ∧ 0 ≤ i) ∧ i < t.links.xs.length) ∧ usableR t f i
noncomputable instance (t : Topo) (f : Fail) (i : Int) : Decidable (usableV t f i) := Classical.propDecidable _
theorem usable_ref (t : Topo) (f : Fail) (i : Int) : usableV t f i ↔ ((((failV t f ∧ 0 ≤ i) ∧ i < t.links.xs.length) ∧ ¬ i ∈ f.links.xs) ∧ aliveV t f (lnk t i).a) ∧ aliveV t f (lnk t i).b := by
  unfold usableV usableR aliveV
  constructor
  · rintro ⟨⟨⟨h1, h2⟩, h3⟩, ⟨h4, h5⟩, h6⟩
    have hl : lnkV t.devs.xs.length (lnk t i) := h1.1.1.2.2.1 i.toNat (by omega)
    unfold lnkV at hl
    exact ⟨⟨⟨⟨⟨h1, h2⟩, h3⟩, h4⟩, ⟨⟨h1, by omega⟩, by omega⟩, h5⟩, ⟨⟨h1, by omega⟩, by omega⟩, h6⟩
  · rintro ⟨⟨⟨h1, h4⟩, h5⟩, h6⟩
    exact ⟨h1, ⟨h4, h5.2⟩, h6.2⟩
theorem topV_link {t : Topo} (h : topV t) {i : Nat} (hi : i < t.links.xs.length) : lnkV t.devs.xs.length (t.links.xs.getD i lnkE.dflt) := h.2.2.1 i hi
end Go.Proofs.Ytfanmniaolncbaa.V
