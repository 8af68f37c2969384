/- Texts of this claim in one: part B. -/
import Derived.Test.YtobggnpnochnnaaPRepA
import Derived.Deep.Upon
import Derived.Laws.StructEq
import Derived.Laws.BytesArg
import Derived.Test.YtobggnpnochnnaaRows
import Derived.ProofKit
import Derived.OpenShut
import Derived.Deep.DeepHandedRow
import Derived.WideKeyArgs
import Derived.Deep.Slices
set_option linter.unusedVariables false
set_option linter.unusedSimpArgs false
/- One bundle of all that is known at a point of a walk: the slots, the data that is read, the blocks of the call's own. -/
namespace Go.Proofs.Ytobggnpnochnnaa.V
open Go.RowKit
/-- what is not of W stands in h' as in h, and is not of W' -/
def Mv (W W' : Nat → Prop) (h h' : Array Obj) : Prop := h.size ≤ h'.size ∧ ∀ k, k < h.size → ¬ W k → h'[k]? = h[k]? ∧ ¬ W' k
def Fw (F W : Nat → Prop) : Nat → Prop := fun k => ¬ W k ∧ ¬ F k
theorem Enc.mv {α : Type} (E : Enc α) {x : α} {F W W' : Nat → Prop} {h h' : Array Obj} (m : Mv W W' h h') (H : E.wf (Fw F W) h x) : E.wf (Fw F W') h' x := by
  have h1 : E.wf (fun k => k < h.size ∧ Fw F W k) h x := E.mono (fun k hk h => ⟨hk, h⟩) H
  have h2 := E.keep (h' := h') ⟨m.1, fun k hk h => (m.2 k hk h.2.1).1⟩ h1
  exact E.mono (fun k _ h => ⟨(m.2 k h.1 h.2.1).2, h.2.2⟩) h2
/-- data that is only read -/
structure RF where
  p : (F W : Nat → Prop) → Array Obj → Prop
  st : ∀ {F W W' : Nat → Prop} {h h' : Array Obj}, Mv W W' h h' → p F W h → p F W' h'
/-- blocks of the call's own -/
structure OF where
  o : BS
  p : (F W : Nat → Prop) → World → Prop
  st : ∀ {F W W' : Nat → Prop} {w w' : World}, Mv W W' w.heap w'.heap → (∀ k, k < w.heap.size → o k → w'.heap[k]? = w.heap[k]?) → p F W w → p F W' w'
def wfF {α : Type} (E : Enc α) (x : α) : RF := ⟨fun F W h => E.wf (Fw F W) h x, fun m H => E.mv m H⟩
def blF (b : Nat) (cs : List Value) (t : TypeId) : RF := ⟨fun _ W h => ¬ W b ∧ Blk h b cs t, fun m H => ⟨(m.2 b H.2.lt H.1).2, (m.2 b H.2.lt H.1).1.trans H.2⟩⟩
def noO : OF := ⟨fun _ => False, fun _ _ _ => True, fun _ _ _ => trivial⟩
def blO (b : Nat) (cs : List Value) (t : TypeId) : OF := ⟨one b, fun _ _ w => Blk w.heap b cs t, fun _ h H => (h b H.lt rfl).trans H⟩
def tpO (t : TypeId) (T : Nat) (tl : Sl Int) : OF := ⟨one T, fun _ _ w => TpB t T tl w, fun _ h ⟨i, hi, k⟩ => ⟨i, hi, (h T k.lt rfl).trans k⟩⟩
def rwO {α : Type} (E : Enc α) (t : TypeId) (base : Nat) (ad : Option Addr) (cap : Nat) (xs : List α) : OF :=
  ⟨abk ad, fun F W w => w.ownsRow base t E.n (.slice ad xs.length cap) xs.length (xs.flatMap E.cells) ∧ ∀ x ∈ xs, E.wf (Fw F W) w.heap x, fun m h H => by
    refine ⟨⟨H.1.1, ?_⟩, fun x hx => E.mv m (H.2 x hx)⟩
    rcases H.1.2 with h1 | ⟨b, c, cur, h1, h2, h3, h4⟩
    · exact .inl h1
    · refine .inr ⟨b, c, cur, h1, h2, ?_, h4⟩
      injection h1 with h1
      subst h1
      refine (h b ?_ rfl).trans h3
      rcases Nat.lt_or_ge b (Array.size _) with k | k
      · exact k
      · rw [Array.getElem?_eq_none k] at h3; cases h3⟩
def ow : List OF → List BS
  | [] => []
  | f :: r => f.o :: ow r
def nth {α : Type _} : List α → Nat → Option α
  | [], _ => none
  | x :: _, 0 => some x
  | _ :: r, i + 1 => nth r i
theorem nth_get {α : Type _} : ∀ (l : List α) (i : Nat), nth l i = l[i]?
  | [], _ => by simp [nth]
  | _ :: _, 0 => rfl
  | _ :: r, i + 1 => by rw [nth, nth_get r i, List.getElem?_cons_succ]
theorem nth_mem {α : Type _} {l : List α} {i : Nat} {x : α} (h : nth l i = some x) : x ∈ l := List.mem_of_getElem? ((nth_get l i).symm.trans h)
theorem ow_map : ∀ (os : List OF), ow os = os.map OF.o
  | [] => rfl
  | f :: r => by rw [ow, ow_map r]; rfl
theorem ow_get {os : List OF} {i : Nat} {f : OF} (h : nth os i = some f) : (ow os)[i]? = some f.o := by
  rw [ow_map, List.getElem?_map, ← nth_get, h]; rfl
theorem ow_mem {os : List OF} {f : OF} (h : f ∈ os) : f.o ∈ ow os := by rw [ow_map]; exact List.mem_map_of_mem h
theorem ow_app (os nw : List OF) : ow (os ++ nw) = ow os ++ ow nw := by simp [ow_map]
theorem ow_set {os : List OF} {i : Nat} {f g : OF} (h : nth os i = some f) (e : g.o = f.o) : ow (os.set i g) = ow os := by
  rw [ow_map, ow_map, List.map_set, e]
  apply List.ext_getElem?
  intro j
  rw [List.getElem?_set]
  have h1 : (os.map OF.o)[i]? = some f.o := by rw [← ow_map]; exact ow_get h
  split
  · rename_i hj; subst hj; rw [h1]; split
    · rfl
    · rename_i hl; exact absurd (List.getElem?_eq_some_iff.1 h1).1 hl
  · rfl
structure Mm (F : Nat → Prop) (w0 : World) (m0 : List BS) (rs : List RF) (os : List OF) (w : World) : Prop where
  c : Tr m0 w0 (ow os) w
  f : Old F w0
  r : ∀ f ∈ rs, f.p F (In (ow os)) w.heap
  o : ∀ f ∈ os, f.p F (In (ow os)) w
structure St (F : Nat → Prop) (w0 : World) (m0 : List BS) (n : Nat) (L : List (Nat × Value)) (rs : List RF) (os : List OF) (a : Act) (w : World) : Prop where
  s : Slots n L a
  m : Mm F w0 m0 rs os w
section
variable {F : Nat → Prop} {w0 w w' : World} {m0 ms ms' : List BS} {n : Nat} {L L' : List (Nat × Value)} {rs : List RF} {os os' nw : List OF} {a a' : Act}
theorem Tr.mv (T : Tr ms w ms' w') : Mv (In ms) (In ms') w.heap w'.heap :=
  ⟨T.size, fun k hk hD => ⟨T.ch.block k hk hD, fun hm => (T.sub k hm).elim hD fun e => absurd hk (by omega)⟩⟩
/-! getters -/
theorem St.e (S : St F w0 m0 n L rs os a w) {x : Operand} {v : Value} (h : evS L x = some v) : a.eval x = v := S.s.eval h
theorem St.p (S : St F w0 m0 n L rs os a w) {x : Operand} {c : Prop} [Decidable c] {v u : Value} (h : evS L x = some (if c then v else u)) (hc : c) : a.eval x = v := (S.s.eval h).trans (if_pos hc)
theorem St.u {α : Type} {E : Enc α} {x : α} (S : St F w0 m0 n L rs os a w) (i : Nat) (h : nth rs i = some (wfF E x)) : E.wf (Fr F (ow os)) w.heap x := S.m.r _ (nth_mem h)
theorem St.b {b : Nat} {cs : List Value} {t : TypeId} (S : St F w0 m0 n L rs os a w) (i : Nat) (h : nth rs i = some (blF b cs t)) : BlkR (ow os) w.heap b cs t := ⟨(S.m.r _ (nth_mem h)).2, (S.m.r _ (nth_mem h)).1⟩
theorem St.k {b : Nat} {cs : List Value} {t : TypeId} (S : St F w0 m0 n L rs os a w) (i : Nat) (h : nth os i = some (blO b cs t)) : Blk w.heap b cs t := S.m.o _ (nth_mem h)
theorem St.t {t : TypeId} {T : Nat} {tl : Sl Int} (S : St F w0 m0 n L rs os a w) (i : Nat) (h : nth os i = some (tpO t T tl)) : TpB t T tl w := S.m.o _ (nth_mem h)
theorem St.row {α : Type} {E : Enc α} {t : TypeId} {base : Nat} {ad : Option Addr} {cap : Nat} {xs : List α} (S : St F w0 m0 n L rs os a w) (i : Nat) (h : nth os i = some (rwO E t base ad cap xs)) : Row E t base F (ow os) w ad cap xs := ⟨(S.m.o _ (nth_mem h)).1, (S.m.o _ (nth_mem h)).2⟩
theorem St.x (S : St F w0 m0 n L rs os a w) : Old (Ex F (ow os)) w := S.m.c.old S.m.f
theorem St.xx (S : St F w0 m0 n L rs os a w) (o : List BS) : Old (Exc F (ow os) o) w := S.m.c.oldx S.m.f
theorem St.M (S : St F w0 m0 n L rs os a w) : MS (ow os) w := S.m.c.ms
theorem dn0 {α : Type} {E : Enc α} {x : α} {h : Array Obj} (H : E.wf (Fr F ms) h x) : E.wf (Fr (Ex F ms) []) h x := E.mono (fun k _ h => ⟨fun e => e, fun e => e.elim h.1 h.2⟩) H
theorem dnx {α : Type} {E : Enc α} {x : α} {h : Array Obj} {o : List BS} (H : E.wf (Fr F ms) h x) : E.wf (Fr (Exc F ms o) []) h x := E.mono (fun k _ h => ⟨fun e => e, fun e => e.elim (fun e => h.1 e.1) h.2⟩) H
theorem dn1 {α : Type} {E : Enc α} {x : α} {h : Array Obj} {js : List Nat} (H : E.wf (Fr F ms) h x) : E.wf (Fr (Ex F ms) (picks ms js)) h x := E.mono (fun k _ h => ⟨fun e => h.1 (in_picks e), fun e => e.elim h.1 h.2⟩) H
/-! changes of the bundle -/
theorem Mm.go (M : Mm F w0 m0 rs os w) (T : Tr (ow os) w (ow os') w') (ho : ∀ f ∈ os', f.p F (In (ow os')) w') : Mm F w0 m0 rs os' w' :=
  ⟨M.c.trans T, M.f, fun f hf => f.st T.mv (M.r f hf), ho⟩
theorem Mm.sep (M : Mm F w0 m0 rs os w) {i : Nat} {f : OF} (hi : nth os i = some f) (js : List Nat) (hj : js.contains i = false) {k : Nat} (hk : f.o k) : ¬ In (picks (ow os) js) k := M.c.ms.sep.out i js hj (ow_get hi) hk
theorem idx_of {α : Type _} {l : List α} {x : α} (h : x ∈ l) : ∃ i, nth l i = some x := by
  obtain ⟨i, hi, e⟩ := List.getElem_of_mem h
  exact ⟨i, by rw [nth_get, List.getElem?_eq_getElem hi, e]⟩
/-- nothing of the call's own is changed -/
theorem Mm.k0 (M : Mm F w0 m0 rs os w) (g : Ch (In []) w w') : Mm F w0 m0 rs os w' := by
  have T := Tr.of_ch0 M.c.ms g
  exact M.go T fun f hf => f.st T.mv (fun k hk _ => g.block k hk id) (M.o f hf)
theorem St.k0 (S : St F w0 m0 n L rs os a w) (s : Slots n L' a') (t : Tr [] w [] w') : St F w0 m0 n L' rs os a' w' := ⟨s, S.m.k0 t.ch⟩
/-- one block of facts is replaced, its owner stays -/
theorem Mm.k1 (M : Mm F w0 m0 rs os w) (j : Nat) {f : OF} (hj : nth os j = some f) (f' : OF) (e : f'.o = f.o) (t : Ch (In [f.o]) w w') (hf : f'.p F (In (ow os)) w') : Mm F w0 m0 rs (os.set j f') w' := by
  have T : Tr (ow os) w (ow (os.set j f')) w' := by
    rw [ow_set hj e]; exact Tr.of_ch M.c.ms t fun o ho => by simp at ho; subst ho; exact ow_mem (nth_mem hj)
  refine M.go T fun g hg => ?_
  rw [ow_set hj e] at T ⊢
  obtain ⟨i, hi⟩ := idx_of hg
  rw [nth_get, List.getElem?_set] at hi
  split at hi
  · split at hi
    · cases hi; exact hf
    · cases hi
  · rename_i hne
    rw [← nth_get] at hi
    refine g.st T.mv (fun k hk ho => t.block k hk fun hm => ?_) (M.o g (nth_mem hi))
    have := M.sep hi [j] (by simp; omega) ho
    simp only [picks, List.filterMap_cons, ow_get hj, List.filterMap_nil] at this
    exact this hm
theorem set_nth {os : List OF} {j : Nat} {f : OF} (h : nth os j = some f) : os.set j f = os := by
  apply List.ext_getElem?
  intro i
  rw [List.getElem?_set]
  split
  · rename_i e; subst e; rw [← nth_get, h]; split
    · rfl
    · rename_i hl; rw [nth_get] at h; exact absurd (List.getElem?_eq_some_iff.1 h).1 hl
  · rfl
/-- a callee wrote the block of facts at j, of which the same is known -/
theorem St.k1 (S : St F w0 m0 n L rs os a w) (j : Nat) {f : OF} (hj : nth os j = some f) (s : Slots n L' a') (t : Tr [f.o] w [f.o] w') (hf : f.p F (In (ow os)) w') : St F w0 m0 n L' rs os a' w' :=
  ⟨s, by have := S.m.k1 j hj f rfl t.ch hf; rwa [set_nth hj] at this⟩
theorem St.k1s (S : St F w0 m0 n L rs os a w) (j : Nat) {f : OF} (hj : nth os j = some f) (f' : OF) (e : f'.o = f.o) (s : Slots n L' a') (t : Ch (In [f.o]) w w') (hf : f'.p F (In (ow os)) w') : St F w0 m0 n L' rs (os.set j f') a' w' := ⟨s, S.m.k1 j hj f' e t hf⟩
/-! order of what may be written -/
theorem Sep.comm : ∀ {x y : List BS}, Sep (x ++ y) → Sep (y ++ x)
  | [], y, s => by simpa using s
  | o :: x, y, s => by
    have h1 := Sep.comm s.2
    have : ∀ (y : List BS), Sep (y ++ x) → (∀ k, o k → ¬ In (y ++ x) k) → Sep (y ++ o :: x) := by
      intro y
      induction y with
      | nil => intro s h; exact ⟨h, s⟩
      | cons p r ih =>
        intro s h
        refine ⟨fun k hk hm => ?_, ih s.2 fun k hk hm => h k hk (.inr hm)⟩
        rcases in_app.1 hm with q | q | q
        · exact s.1 k hk (in_app.2 (.inl q))
        · exact h k q (.inl hk)
        · exact s.1 k hk (in_app.2 (.inr q))
    exact this y h1 fun k hk hm => s.1 k hk (in_app.2 ((in_app.1 hm).symm))
theorem Tr.comm {x y : List BS} (t : Tr ms w (x ++ y) w') : Tr ms w (y ++ x) w' :=
  ⟨t.ch, fun k hk => t.sub k (in_app.2 (in_app.1 hk).symm), ⟨fun k hk => t.ms.lt k (in_app.2 (in_app.1 hk).symm), t.ms.sep.comm⟩⟩
/-- new blocks -/
theorem Mm.nu (M : Mm F w0 m0 rs os w) (nw : List OF) (T : Tr (ow os) w (ow nw ++ ow os) w') (g : Ch (In []) w w') (hn : ∀ f ∈ nw, f.p F (In (ow os ++ ow nw)) w') : Mm F w0 m0 rs (os ++ nw) w' := by
  have T' := T.comm
  refine M.go (by rw [ow_app]; exact T') fun f hf => ?_
  rw [ow_app]
  rcases List.mem_append.1 hf with h | h
  · exact f.st T'.mv (fun k hk _ => g.block k hk id) (M.o f h)
  · exact hn f h
/-- a new block of the call's own -/
theorem Mm.n1 (M : Mm F w0 m0 rs os w) (f : OF) {b : Nat} (hb : w.heap.size = b) (hl : b < w'.heap.size) (ho : ∀ k, f.o k → k = b) (g : Ch (In []) w w') (hf : f.p F (In (ow os ++ [f.o])) w') : Mm F w0 m0 rs (os ++ [f]) w' :=
  M.nu [f] ((Tr.of_ch0 M.c.ms g).cons fun k hk => by
    obtain rfl := ho k hk
    exact ⟨by omega, hl, fun h => by have := M.c.ms.lt _ h; omega⟩) g fun f' h => by simp at h; subst h; exact hf
/-- rows that a callee gives back -/
structure Rw where
  α : Type
  E : Enc α
  t : TypeId
  ad : Option Addr
  cap : Nat
  xs : List α
def Rw.of (r : Rw) (base : Nat) : OF := rwO r.E r.t base r.ad r.cap r.xs
def Rw.ok (r : Rw) (base : Nat) (F : Nat → Prop) (ms : List BS) (w : World) : Prop := Row r.E r.t base F ms w r.ad r.cap r.xs
def abks : List Rw → List BS
  | [] => []
  | r :: l => abk r.ad :: abks l
def RwsOk (base : Nat) (F : Nat → Prop) (ms : List BS) (w : World) : List Rw → Prop
  | [] => True
  | r :: l => r.ok base F ms w ∧ RwsOk base F ms w l
theorem RwsOk.get {base : Nat} {ms : List BS} : ∀ {l : List Rw}, RwsOk base F ms w l → ∀ r ∈ l, r.ok base F ms w
  | _ :: _, h, r, hr => (List.mem_cons.1 hr).elim (fun e => e ▸ h.1) fun hr => h.2.get r hr
def ofs (base : Nat) : List Rw → List OF
  | [] => []
  | r :: l => r.of base :: ofs base l
theorem ow_ofs (base : Nat) : ∀ l : List Rw, ow (ofs base l) = abks l
  | [] => rfl
  | r :: l => by rw [ofs, ow, ow_ofs base l]; rfl
theorem mem_ofs {base : Nat} {f : OF} : ∀ {l : List Rw}, f ∈ ofs base l → ∃ r ∈ l, f = r.of base
  | r :: l, h => (List.mem_cons.1 h).elim (fun e => ⟨r, List.mem_cons_self, e⟩) fun h => let ⟨q, h1, h2⟩ := mem_ofs h; ⟨q, List.mem_cons_of_mem _ h1, h2⟩
theorem St.kr (S : St F w0 m0 n L rs os a w) (l : List Rw) (s : Slots n L' a') (t : Tr [] w (abks l) w') (h : RwsOk w.heap.size (Ex F (ow os)) (abks l) w' l) : St F w0 m0 n L' rs (os ++ ofs w0.heap.size l) a' w' := by
  refine ⟨s, S.m.nu (ofs w0.heap.size l) ?_ t.ch fun f hf => ?_⟩
  · rw [ow_ofs]; exact Tr.frame (m0 := []) S.M (by simpa using t) fun _ h => by simp at h
  · obtain ⟨r, hr, rfl⟩ := mem_ofs hf
    have h1 := Row.ups (m0 := []) (nw := abks l) (by have := h.get r hr; unfold Rw.ok at this; simpa using this) S.m.c.size
    rw [ow_ofs]
    refine ⟨h1.own, fun x hx => Enc.mono _ (fun k _ hk => ⟨fun e => hk.1 (in_app.2 (in_app.1 e).symm), hk.2⟩) (h1.wf x hx)⟩
theorem St.kr1 (S : St F w0 m0 n L rs os a w) (j : Nat) {f : OF} (hj : nth os j = some f) (l : List Rw) (s : Slots n L' a') (t : Tr [f.o] w (abks l ++ [f.o]) w') (h : RwsOk w.heap.size (Ex F (ow os)) (abks l ++ [f.o]) w' l) (hf : ∀ W, f.p F W w') : St F w0 m0 n L' rs (os ++ ofs w0.heap.size l) a' w' := by
  have hsub : ∀ o, o ∈ [f.o] → o ∈ ow os := fun o ho => by simp at ho; subst ho; exact ow_mem (nth_mem hj)
  have T := (Tr.frame S.M t hsub).comm
  have e : ow (os ++ ofs w0.heap.size l) = ow os ++ abks l := by rw [ow_app, ow_ofs]
  refine ⟨s, S.m.go (by rw [e]; exact T) fun g hg => ?_⟩
  rw [e]
  rcases List.mem_append.1 hg with q | q
  · obtain ⟨i, hi⟩ := idx_of q
    by_cases hij : i = j
    · subst hij; rw [hj] at hi; cases hi
      exact hf _
    · refine g.st T.mv (fun k hk ho => t.ch.block k hk fun hm => ?_) (S.m.o g q)
      have := S.m.sep hi [j] (by simp; omega) ho
      simp only [picks, List.filterMap_cons, ow_get hj, List.filterMap_nil] at this
      exact this hm
  · obtain ⟨r, hr, rfl⟩ := mem_ofs q
    have h1 := Row.ups (nw := abks l) (h.get r hr) S.m.c.size
    exact ⟨h1.own, fun x hx => Enc.mono _ (fun k _ hk => ⟨fun e => hk.1 (in_app.2 (in_app.1 e).symm), hk.2⟩) (h1.wf x hx)⟩
/-! a fact is added; a row is only read from now on; what is still known -/
theorem St.ar (S : St F w0 m0 n L rs os a w) (f : RF) (h : f.p F (In (ow os)) w.heap) : St F w0 m0 n L (rs ++ [f]) os a w :=
  ⟨S.s, S.m.c, S.m.f, fun g hg => (List.mem_append.1 hg).elim (S.m.r g) fun hg => by simp at hg; subst hg; exact h, S.m.o⟩
theorem Sep.pick : ∀ {ms : List BS} (is : List Nat) (_ : Sep ms), is.Nodup → Sep (picks ms is)
  | ms, [], _, _ => trivial
  | ms, i :: is, s, hp => by
    have ih := Sep.pick (ms := ms) is s (List.nodup_cons.1 hp).2
    unfold picks
    cases h : ms[i]? with
    | none => rw [List.filterMap_cons, h]; exact ih
    | some o =>
      rw [List.filterMap_cons, h]
      refine ⟨fun k hk hm => ?_, ih⟩
      refine s.out i is ?_ h hk hm
      cases hc : is.contains i
      · rfl
      · exact absurd (List.contains_iff_mem.1 hc) (List.nodup_cons.1 hp).1
theorem MS.pick (h : MS ms w) (is : List Nat) (hi : is.Nodup) : MS (V.picks ms is) w := ⟨fun k hk => h.lt k (in_picks hk), h.sep.pick is hi⟩
def pickO (os : List OF) : List Nat → List OF
  | [] => []
  | i :: is => match nth os i with
    | some f => f :: pickO os is
    | none => pickO os is
theorem ow_pick (os : List OF) : ∀ is, ow (pickO os is) = picks (ow os) is
  | [] => rfl
  | i :: is => by
    unfold pickO picks
    rw [List.filterMap_cons]
    cases h : nth os i with
    | some f => rw [ow_get h]; simp only; rw [ow, ow_pick os is]; rfl
    | none =>
      have : (ow os)[i]? = none := by rw [ow_map, List.getElem?_map, ← nth_get, h]; rfl
      rw [this]; exact ow_pick os is
theorem mem_pick {os : List OF} {f : OF} : ∀ {is : List Nat}, f ∈ pickO os is → f ∈ os
  | i :: is, h => by
    unfold pickO at h
    cases hi : nth os i with
    | some g => rw [hi] at h; exact (List.mem_cons.1 h).elim (fun e => e ▸ nth_mem hi) fun h => mem_pick h
    | none => rw [hi] at h; exact mem_pick h
/-- of what may be written only this is kept, in this order -/
theorem St.pk (S : St F w0 m0 n L rs os a w) (is : List Nat) {os' : List OF} (hi : is.Nodup := by decide) (e : pickO os is = os' := by rfl) : St F w0 m0 n L rs os' a w := by
  subst e
  have T : Tr (ow os) w (ow (pickO os is)) w := by
    rw [ow_pick]; exact ⟨Ch.refl w, fun k hk => .inl (in_picks hk), S.M.pick is hi⟩
  exact ⟨S.s, S.m.go T fun f hf => f.st T.mv (fun _ _ _ => rfl) (S.m.o f (mem_pick hf))⟩
theorem Mm.sub (M : Mm F w0 m0 rs os w) {rs' : List RF} (h : ∀ f ∈ rs', f ∈ rs) : Mm F w0 m0 rs' os w := ⟨M.c, M.f, fun f hf => M.r f (h f hf), M.o⟩
/-- every slot of L' is told by L -/
def SubL (L : List (Nat × Value)) : List (Nat × Value) → Prop
  | [] => True
  | (i, v) :: r => look i L = some v ∧ SubL L r
theorem SubL.sub : ∀ {L' : List (Nat × Value)}, SubL L L' → Sub L L'
  | [], _ => trivial
  | _ :: _, h => ⟨h.1, h.2.sub⟩
theorem St.re {rs' : List RF} (S : St F w0 m0 n L rs os a w) (hL : Sub L L') (hr : rs.take rs'.length = rs') (ho : os.take os'.length = os') : St F w0 m0 n L' rs' os' a w := by
  have h1 : St F w0 m0 n L rs os' a w := by
    have e : pickO os (List.range os'.length) = os' := by
      have : ∀ (m : Nat), pickO os ((List.range m)) = os.take m := by
        intro m
        have key : ∀ (l : List Nat), pickO os l = l.filterMap (nth os) := by
          intro l
          induction l with
          | nil => rfl
          | cons i l ih => unfold pickO; rw [List.filterMap_cons]; cases nth os i <;> simp [ih]
        rw [key]
        have k2 : ∀ (os : List OF) (m : Nat), (List.range m).filterMap (nth os) = os.take m := by
          intro os
          induction os with
          | nil => intro m; simp [nth]
          | cons x r ih =>
            intro m
            cases m with
            | zero => rfl
            | succ m =>
              rw [List.range_succ_eq_map, List.filterMap_cons]
              simp only [nth, List.filterMap_map, List.take_succ_cons, List.cons.injEq, true_and]
              exact ih m
        exact k2 os m
      rw [this]; exact ho
    exact S.pk _ (hi := List.nodup_range) (e := e)
  exact ⟨h1.s.sub hL, h1.m.sub fun f hf => List.mem_of_mem_take (hr ▸ hf)⟩
theorem rowSplit {os : List OF} {i : Nat} {f : OF} (h : nth os i = some f) : ow os = (ow os).take i ++ f.o :: (ow os).drop (i + 1) := by
  have h1 := ow_get h
  obtain ⟨h2, h3⟩ := List.getElem?_eq_some_iff.1 h1
  rw [← h3, List.getElem_cons_drop, List.take_append_drop]
theorem ow_setx {os : List OF} {i : Nat} {f g : OF} (h : nth os i = some f) : ow (os.set i g) = (ow os).take i ++ g.o :: (ow os).drop (i + 1) := by
  have h1 := ow_get h
  obtain ⟨h2, h3⟩ := List.getElem?_eq_some_iff.1 h1
  have h4 : ow (os.set i g) = (ow os).set i g.o := by rw [ow_map, ow_map, List.map_set]
  rw [h4, List.set_eq_take_append_cons_drop, if_pos h2]
/-- the facts at i and the set that they own are replaced -/
theorem Mm.sw (M : Mm F w0 m0 rs os w) (i : Nat) {f : OF} (hi : nth os i = some f) (f' : OF) (T : Tr (ow os) w (ow (os.set i f')) w') (g : Ch (In [f.o]) w w') (hf : f'.p F (In (ow (os.set i f'))) w') : Mm F w0 m0 rs (os.set i f') w' := by
  refine M.go T fun q hq => ?_
  obtain ⟨j, hj⟩ := idx_of hq
  rw [nth_get, List.getElem?_set] at hj
  split at hj
  · split at hj
    · cases hj; exact hf
    · cases hj
  · rename_i hne
    rw [← nth_get] at hj
    refine q.st T.mv (fun k hk ho => g.block k hk fun hm => ?_) (M.o q (nth_mem hj))
    have := M.sep hj [i] (by simp; omega) ho
    simp only [picks, List.filterMap_cons, ow_get hi, List.filterMap_nil] at this
    exact this hm
/-- a row is only read from now on -/
theorem St.fz {α : Type} {E : Enc α} {t : TypeId} {ad : Option Addr} {cap : Nat} {xs : List α} (S : St F w0 m0 n L rs os a w) (i : Nat) (hi : nth os i = some (rwO E t w0.heap.size ad cap xs)) (hn : 0 < E.n := by first | decide | exact Nat.one_pos) : St F w0 m0 n L (rs ++ [wfF (slE E) ⟨ad, cap, xs⟩]) (os.set i noO) a w := by
  have R := S.row i hi
  have hF := R.notF S.m.f (Nat.le_refl _)
  have T : Tr (ow os) w (ow (os.set i noO)) w := by
    have hM := S.M
    have e1 := rowSplit hi
    have e2 := ow_setx (g := noO) hi
    rw [e2]; rw [e1] at hM
    conv => arg 1; rw [e1]
    exact Tr.swap hM (Ch.refl _) fun k hk => hk.elim
  have hs : ∀ k, In (ow (os.set i noO)) k → In (ow os) k := fun k hk => (T.sub k hk).elim id fun e => absurd (T.ms.lt k hk) (by omega)
  have hD : (slE E).wf (Fr F (ow (os.set i noO))) w.heap ⟨ad, cap, xs⟩ := by
    refine ⟨R.latD hn (fun k hk => ⟨fun hm => ?_, hF k hk⟩) fun x hx => Enc.mono _ (fun k _ h => ⟨fun e => h.1 (hs k e), h.2⟩) (R.wf x hx), R.cap_le⟩
    rw [ow_setx hi] at hm
    have hsep := S.M.sep
    rw [rowSplit hi] at hsep
    refine Sep.mid (pre := []) hk hsep ?_
    rcases in_app.1 hm with q | q | q
    · exact in_app.2 (.inl q)
    · exact q.elim
    · exact in_app.2 (.inr q)
  exact St.ar ⟨S.s, S.m.sw i hi noO T (Ch.refl _) trivial⟩ _ hD
end
end Go.Proofs.Ytobggnpnochnnaa.V
/- Operations over the bundle: each takes one bundle to the next; regions, calls, loops, returns. -/
namespace Go.Proofs.Ytobggnpnochnnaa.V
open Go.RowKit
def Core (P : Program) (ops : Array Oper) (o : Oper) (a : Act) (w : World) (K : Act → World → Prop) (Q : Exit → Act → World → Prop) : Prop :=
  if Region.wanted o (yielded ops a.tmps) then o.wp P a w K Q ∨ (o.asks P a w ∧ LetsOut Q) else K (a.put o.dst undef) w
/-- one operation takes X to Y, writing old blocks of c alone -/
def One (P : Program) (ops : Array Oper) (X : Act → World → Prop) (c : List BS) (o : Oper) (Y : Act → World → Prop) : Prop :=
  ∀ (K : Act → World → Prop) (Q : Exit → Act → World → Prop) a w, X a w → (∀ a' w', Y a' w' → Ch (In c) w w' → K a' w') → Core P ops o a w K Q
def Steps (P : Program) (ops : Array Oper) (X : Act → World → Prop) (l : List Oper) (Y : Act → World → Prop) (l' : List Oper) : Prop :=
  ∀ (Q : Exit → Act → World → Prop) a w, X a w → (∀ a' w', Y a' w' → wpList P ops Q l' a' w') → wpList P ops Q l a w
section
variable {P : Program} {ops : Array Oper} {X Y Z : Act → World → Prop} {c : List BS} {o : Oper} {l l' : List Oper} {a : Act} {w : World} {Q : Exit → Act → World → Prop}
theorem tr (h : One P ops X c o Y) (k : Steps P ops Y l Z l') : Steps P ops X (o :: l) Z l' := fun Q a w hX hZ => by
  unfold wpList
  exact h _ Q a w hX fun a' w' hY _ => k Q a' w' hY hZ
theorem la (h : One P ops X c o Y) : Steps P ops X (o :: l) Y l := fun Q a w hX hY => by
  unfold wpList
  exact h _ Q a w hX fun a' w' hy _ => hY a' w' hy
theorem rg {id : Nat} {l : List Oper} (S : X a w) (h : Steps P l.toArray X l Y []) (k : ∀ a w, Y a w → Q .normal a w) : (Code.region id l.toArray false).wp P Q a w :=
  wp_region_lit (h Q a w S fun a w hY => wpList_nil (k a w hY))
theorem rs {id : Nat} {l : List Oper} {y : Code} (S : X a w) (h : Steps P l.toArray X l Y []) (k : ∀ a w, Y a w → y.wp P Q a w) : (Code.seq (.region id l.toArray false) y).wp P Q a w :=
  wp_seq (rg S h fun a w hY => then_n (k a w hY))
theorem r0 {id : Nat} {l : List Oper} (h : wpList P l.toArray Q l a w) : (Code.region id l.toArray false).wp P Q a w := wp_region_lit h
theorem rs0 {id : Nat} {l : List Oper} {y : Code} (h : wpList P l.toArray (Exit.then (y.wp P Q) Q) l a w) : (Code.seq (.region id l.toArray false) y).wp P Q a w := wp_seq (wp_region_lit h)
theorem sp (S : X a w) (h : Steps P ops X l Y l') (k : ∀ a w, Y a w → wpList P ops Q l' a w) : wpList P ops Q l a w := h Q a w S k
theorem en (S : X a w) (h : Steps P ops X l Y []) (k : ∀ a w, Y a w → Q .normal a w) : wpList P ops Q l a w := h Q a w S k
theorem nn (k : Q .normal a w) : wpList P ops Q [] a w := k
theorem ent {f : Act → World → Prop} (h : f a w) : wpList P ops (Exit.then f Q) [] a w := wpList_nil (then_n h)
theorem ens {f : Act → World → Prop} (S : X a w) (h : Steps P ops X l Y []) (k : ∀ a w, Y a w → f a w) : wpList P ops (Exit.then f Q) l a w := h _ a w S fun a w hY => then_n (k a w hY)
end
section
variable {P : Program} {ops : Array Oper} {F : Nat → Prop} {w0 : World} {m0 : List BS} {n : Nat} {L L' : List (Nat × Value)} {fs : List RF} {os os' : List OF} {o : Oper} {ty : TypeId} {pos : String} {af : Array Edge} {Q : Exit → Act → World → Prop}
/-- an operation that only computes -/
theorem ov {d : Nat} {v : Value} (h : ∀ {a w}, St F w0 m0 n L fs os a w → (execOp a.eval o).run P w = .ok (.value v) w) (hk : o.guard = none ∧ o.dst = some d ∧ d < n := by exact ⟨rfl, rfl, by decide⟩) :
    One P ops (St F w0 m0 n L fs os) [] o (St F w0 m0 n ((d, v) :: L) fs os) := fun K Q a w S k => by
  unfold Core
  rw [if_pos (by simp [Region.wanted, hk.1])]
  exact .inl (op_val (h S) (by rw [hk.2.1]; exact k _ _ ⟨S.s.put hk.2.2, S.m⟩ (Ch.refl _)))
/-- a guarded operation that only computes: its slot holds something only if the guard does -/
theorem og (gd : Nat) {b : Bool} {gv : Value} (hv : look gd L = some gv) {c : Prop} [Decidable c] (hc : c ↔ gv = .bool b) {e : Nat} {v : Value} (h : ∀ {a w}, St F w0 m0 n L fs os a w → c → (execOp a.eval o).run P w = .ok (.value v) w)
    (hk : ∃ j p, o.guard = some (j, b) ∧ ops[j]? = some p ∧ p.dst = some gd ∧ gd < n ∧ o.dst = some e ∧ e < n := by exact ⟨_, _, rfl, rfl, rfl, by decide, rfl, by decide⟩) :
    One P ops (St F w0 m0 n L fs os) [] o (St F w0 m0 n ((e, if c then v else undef) :: L) fs os) := fun K Q a w S k => by
  obtain ⟨j, p, h1, h2, h3, h4, h5, h6⟩ := hk
  have hw := (want_iff (a := a) (o := o) h1 h2 h3 (by rw [S.s.size]; exact h4) (S.s.get gd _ hv)).trans hc.symm
  unfold Core
  by_cases hcc : c
  · rw [if_pos (hw.2 hcc)]
    refine .inl (op_val (h S hcc) ?_)
    rw [h5]
    exact k _ _ ⟨by rw [if_pos hcc]; exact S.s.put h6, S.m⟩ (Ch.refl _)
  · rw [if_neg (fun e => hcc (hw.1 e)), h5]
    exact k _ _ ⟨by rw [if_neg hcc]; exact S.s.put h6, S.m⟩ (Ch.refl _)
/-- a guarded operation whose guard is known -/
theorem gon (gd : Nat) {b : Bool} {d : Nat} {v : Value} (hv : look gd L = some (.bool b)) (h : ∀ {a w}, St F w0 m0 n L fs os a w → (execOp a.eval o).run P w = .ok (.value v) w)
    (hk : ∃ j p, o.guard = some (j, b) ∧ ops[j]? = some p ∧ p.dst = some gd ∧ gd < n ∧ o.dst = some d ∧ d < n := by exact ⟨_, _, rfl, rfl, rfl, by decide, rfl, by decide⟩) :
    One P ops (St F w0 m0 n L fs os) [] o (St F w0 m0 n ((d, v) :: L) fs os) := fun K Q a w S k => by
  obtain ⟨j, p, h1, h2, h3, h4, h5, h6⟩ := hk
  have hw := (want_iff (a := a) (o := o) h1 h2 h3 (by rw [S.s.size]; exact h4) (S.s.get gd _ hv))
  unfold Core
  rw [if_pos (hw.2 rfl)]
  refine .inl (op_val (h S) ?_)
  rw [h5]
  exact k _ _ ⟨S.s.put h6, S.m⟩ (Ch.refl _)
theorem goff (gd : Nat) {b c : Bool} {d : Nat} (hv : look gd L = some (.bool c))
    (hk : ∃ j p, o.guard = some (j, b) ∧ ops[j]? = some p ∧ p.dst = some gd ∧ gd < n ∧ o.dst = some d ∧ d < n := by exact ⟨_, _, rfl, rfl, rfl, by decide, rfl, by decide⟩) (hbc : c ≠ b := by decide) :
    One P ops (St F w0 m0 n L fs os) [] o (St F w0 m0 n ((d, undef) :: L) fs os) := fun K Q a w S k => by
  obtain ⟨j, p, h1, h2, h3, h4, h5, h6⟩ := hk
  have hw := (want_iff (a := a) (o := o) h1 h2 h3 (by rw [S.s.size]; exact h4) (S.s.get gd _ hv))
  unfold Core
  rw [if_neg (fun e => hbc (by have := hw.1 e; injection this)), h5]
  exact k _ _ ⟨S.s.put h6, S.m⟩ (Ch.refl _)
/-! calls that leave the call's own alone, and whose result is told -/
theorem oc {d : Nat} {f : FuncId} {args : Array Operand} {ats : Array TypeId} {vs : Array Value} {v : Value} (h : ∀ {a w}, St F w0 m0 n L fs os a w → Calls P f vs w fun e w' => e = .returned v ∧ Tr [] w [] w') (hf : Callable P f) (hv : args.toList.map (evS L) = vs.toList.map some := by rfl) (hd : d < n := by decide) :
    One P ops (St F w0 m0 n L fs os) [] ⟨some d, .call ⟨.value (.func f), args, ats⟩, ty, pos, af, none⟩ (St F w0 m0 n ((d, v) :: L) fs os) := fun K Q a w S k => by
  unfold Core
  rw [if_pos (by simp [Region.wanted])]
  exact .inl (op_call (args_eval S.s hv) hf (h S) fun e w' ⟨he, t⟩ => ⟨v, he, k _ _ (S.k0 (S.s.put hd) t) t.ch⟩)
def GA (c : Prop) (a : Act) : List Operand → List Value → Prop
  | [], [] => True
  | x :: xs, v :: vs => (c → a.eval x = v) ∧ GA c a xs vs
  | _, _ => False
theorem GA.get {c : Prop} {a : Act} {xs : Array Operand} {vs : Array Value} (h : GA c a xs.toList vs.toList) (hc : c) : xs.map a.eval = vs := by
  apply Array.ext'
  rw [Array.toList_map]
  have : ∀ (l : List Operand) (u : List Value), GA c a l u → l.map a.eval = u := by
    intro l
    induction l with
    | nil => intro u hu; cases u with
      | nil => rfl
      | cons _ _ => exact hu.elim
    | cons x l ih => intro u hu; cases u with
      | nil => exact hu.elim
      | cons v u => rw [List.map_cons, hu.1 hc, ih u hu.2]
  exact this _ _ h
theorem ocg (gd : Nat) {j : Nat} {b : Bool} {gv : Value} (hv : look gd L = some gv) {c : Prop} [Decidable c] (hc : c ↔ gv = .bool b) {d : Nat} {f : FuncId} {args : Array Operand} {ats : Array TypeId} {vs : Array Value} {v : Value} (h : ∀ {a w}, St F w0 m0 n L fs os a w → c → Calls P f vs w fun e w' => e = .returned v ∧ Tr [] w [] w') (hf : Callable P f) (ha : ∀ {a w}, St F w0 m0 n L fs os a w → GA c a args.toList vs.toList)
    (hk : ∃ p, ops[j]? = some p ∧ p.dst = some gd ∧ gd < n ∧ d < n := by exact ⟨_, rfl, rfl, by decide, by decide⟩) :
    One P ops (St F w0 m0 n L fs os) [] ⟨some d, .call ⟨.value (.func f), args, ats⟩, ty, pos, af, some (j, b)⟩ (St F w0 m0 n ((d, if c then v else undef) :: L) fs os) := fun K Q a w S k => by
  obtain ⟨p, h2, h3, h4, h6⟩ := hk
  have hw := (want_iff (a := a) (o := ⟨some d, .call ⟨.value (.func f), args, ats⟩, ty, pos, af, some (j, b)⟩) rfl h2 h3 (by rw [S.s.size]; exact h4) (S.s.get gd _ hv)).trans hc.symm
  unfold Core
  by_cases hcc : c
  · rw [if_pos (hw.2 hcc)]
    exact .inl (op_call (GA.get (ha S) hcc) hf (h S hcc) fun e w' ⟨he, t⟩ => ⟨v, he, k _ _ (S.k0 (by rw [if_pos hcc]; exact S.s.put h6) t) t.ch⟩)
  · rw [if_neg (fun e => hcc (hw.1 e))]
    exact k _ _ ⟨by rw [if_neg hcc]; exact S.s.put h6, S.m⟩ (Ch.refl _)
def szpos (P : Program) (t : TypeId) : Bool := match P.info? t with
  | some i => decide (0 < i.size)
  | none => false
theorem szpos_ex {P : Program} {t : TypeId} (h : szpos P t = true) : ∃ q, (P.info? t).map (·.size) = some (q + 1) := by
  unfold szpos at h
  cases hi : P.info? t with
  | none => rw [hi] at h; cases h
  | some i => rw [hi] at h; exact ⟨i.size - 1, by simp at h ⊢; omega⟩
theorem xf {P : Program} {a : Act} {w : World} {d : Option Tmp} {ty : TypeId} {pos : String} {af : Array Edge} {g : Option (Nat × Bool)} {x : Operand} {s : TypeId} {fs : Array Field} {i b : Nat} {f : Field} (o fo : Nat) (hu : P.underlying s = some (.struct fs)) (hx : a.eval x = .pointer (some ⟨b, o, none⟩)) (hk : fs[i]? = some f ∧ f.offset = fo := by exact ⟨rfl, rfl⟩) (hz : szpos P f.type = true := by kernel_rfl) :
    (execOp a.eval ⟨d, .fieldAddr s x i, ty, pos, af, g⟩).run P w = .ok (.value (.pointer (some ⟨b, o + fo, none⟩))) w := by
  obtain ⟨q, hq⟩ := szpos_ex hz
  exact x_fld o fo hu hk.1 hk.2 hq hx
section
variable {d : Nat} {x y z : Operand} {xt yt : TypeId} {k : IntKind} {m p r : Int} {v : Value}
theorem mv (h : evS L x = some v) (hd : d < n := by decide) : One P ops (St F w0 m0 n L fs os) [] ⟨some d, .move x, ty, pos, af, none⟩ (St F w0 m0 n ((d, v) :: L) fs os) := ov (fun S => x_move (S.e h)) ⟨rfl, rfl, hd⟩
theorem av (h : evS L x = some v) (hd : d < n := by decide) : One P ops (St F w0 m0 n L fs os) [] ⟨some d, .assign x, ty, pos, af, none⟩ (St F w0 m0 n ((d, v) :: L) fs os) := ov (fun S => x_assign (S.e h)) ⟨rfl, rfl, hd⟩
theorem lssi (hx : evS L x = some (.int k m)) (hy : evS L y = some (.int k p)) (hd : d < n := by decide) : One P ops (St F w0 m0 n L fs os) [] ⟨some d, .binOp .lss xt x y yt, ty, pos, af, none⟩ (St F w0 m0 n ((d, .bool (decide (m < p))) :: L) fs os) := ov (fun S => x_lss (S.e hx) (S.e hy)) ⟨rfl, rfl, hd⟩
theorem leqi (hx : evS L x = some (.int k m)) (hy : evS L y = some (.int k p)) (hd : d < n := by decide) : One P ops (St F w0 m0 n L fs os) [] ⟨some d, .binOp .leq xt x y yt, ty, pos, af, none⟩ (St F w0 m0 n ((d, .bool (decide (m ≤ p))) :: L) fs os) := ov (fun S => x_leq (S.e hx) (S.e hy)) ⟨rfl, rfl, hd⟩
theorem gtri (hx : evS L x = some (.int k m)) (hy : evS L y = some (.int k p)) (hd : d < n := by decide) : One P ops (St F w0 m0 n L fs os) [] ⟨some d, .binOp .gtr xt x y yt, ty, pos, af, none⟩ (St F w0 m0 n ((d, .bool (decide (p < m))) :: L) fs os) := ov (fun S => x_gtr (S.e hx) (S.e hy)) ⟨rfl, rfl, hd⟩
theorem geqi (hx : evS L x = some (.int k m)) (hy : evS L y = some (.int k p)) (hd : d < n := by decide) : One P ops (St F w0 m0 n L fs os) [] ⟨some d, .binOp .geq xt x y yt, ty, pos, af, none⟩ (St F w0 m0 n ((d, .bool (decide (p ≤ m))) :: L) fs os) := ov (fun S => x_geq (S.e hx) (S.e hy)) ⟨rfl, rfl, hd⟩
theorem eqli (hx : evS L x = some (.int k m)) (hy : evS L y = some (.int k p)) (hd : d < n := by decide) : One P ops (St F w0 m0 n L fs os) [] ⟨some d, .binOp .eql xt x y yt, ty, pos, af, none⟩ (St F w0 m0 n ((d, .bool (decide (m = p))) :: L) fs os) := ov (fun S => x_eql (S.e hx) (S.e hy)) ⟨rfl, rfl, hd⟩
theorem neqi (hx : evS L x = some (.int k m)) (hy : evS L y = some (.int k p)) (hd : d < n := by decide) : One P ops (St F w0 m0 n L fs os) [] ⟨some d, .binOp .neq xt x y yt, ty, pos, af, none⟩ (St F w0 m0 n ((d, .bool (decide (¬ m = p))) :: L) fs os) := ov (fun S => x_neq (S.e hx) (S.e hy)) ⟨rfl, rfl, hd⟩
theorem addi (r : Int) (hx : evS L x = some (.int k m)) (hy : evS L y = some (.int k p)) (hr : k.wrap (m + p) = r) (hd : d < n := by decide) : One P ops (St F w0 m0 n L fs os) [] ⟨some d, .binOp .add xt x y yt, ty, pos, af, none⟩ (St F w0 m0 n ((d, .int k r) :: L) fs os) := ov (fun S => x_add (S.e hx) (S.e hy) hr) ⟨rfl, rfl, hd⟩
theorem subi (r : Int) (hx : evS L x = some (.int k m)) (hy : evS L y = some (.int k p)) (hr : k.wrap (m - p) = r) (hd : d < n := by decide) : One P ops (St F w0 m0 n L fs os) [] ⟨some d, .binOp .sub xt x y yt, ty, pos, af, none⟩ (St F w0 m0 n ((d, .int k r) :: L) fs os) := ov (fun S => x_sub (S.e hx) (S.e hy) hr) ⟨rfl, rfl, hd⟩
theorem muli (r : Int) (hx : evS L x = some (.int k m)) (hy : evS L y = some (.int k p)) (hr : k.wrap (m * p) = r) (hd : d < n := by decide) : One P ops (St F w0 m0 n L fs os) [] ⟨some d, .binOp .mul xt x y yt, ty, pos, af, none⟩ (St F w0 m0 n ((d, .int k r) :: L) fs os) := ov (fun S => x_mul (S.e hx) (S.e hy) hr) ⟨rfl, rfl, hd⟩
theorem noti {q : Prop} [Decidable q] (hx : evS L x = some (.bool (decide q))) (hd : d < n := by decide) : One P ops (St F w0 m0 n L fs os) [] ⟨some d, .unOp .not xt x, ty, pos, af, none⟩ (St F w0 m0 n ((d, .bool (decide (¬ q))) :: L) fs os) := ov (fun S => x_notp (S.e hx)) ⟨rfl, rfl, hd⟩
theorem andi {q u : Prop} {v : Value} [Decidable q] [Decidable u] (hc : evS L z = some (.bool (decide q))) (hx : evS L x = some (if q then .bool (decide u) else v)) (hy : evS L y = some (.bool false)) (hd : d < n := by decide) : One P ops (St F w0 m0 n L fs os) [] ⟨some d, .pick z x y, ty, pos, af, none⟩ (St F w0 m0 n ((d, .bool (decide (q ∧ u))) :: L) fs os) := ov (fun S => x_and (S.e hc) (fun h => (S.e hx).trans (if_pos h)) (S.e hy)) ⟨rfl, rfl, hd⟩
theorem ori {q u : Prop} {v : Value} [Decidable q] [Decidable u] (hc : evS L z = some (.bool (decide q))) (hx : evS L x = some (.bool true)) (hy : evS L y = some (if ¬ q then .bool (decide u) else v)) (hd : d < n := by decide) : One P ops (St F w0 m0 n L fs os) [] ⟨some d, .pick z x y, ty, pos, af, none⟩ (St F w0 m0 n ((d, .bool (decide (q ∨ u))) :: L) fs os) := ov (fun S => x_or (S.e hc) (S.e hx) (fun h => (S.e hy).trans (if_pos h))) ⟨rfl, rfl, hd⟩
theorem leni {t e : TypeId} {s : Option Addr} {q c : Nat} (ht : P.underlying t = some (.slice e)) (hx : evS L x = some (.slice s q c)) (hd : d < n := by decide) : One P ops (St F w0 m0 n L fs os) [] ⟨some d, .call ⟨.builtin .len, #[x], #[t]⟩, ty, pos, af, none⟩ (St F w0 m0 n ((d, .int .i64 (q : Nat)) :: L) fs os) := ov (fun S => x_len ht (S.e hx)) ⟨rfl, rfl, hd⟩
theorem exi {vs : Array Value} {i : Nat} (hx : evS L x = some (.tuple vs)) (hv : vs[i]? = some v) (hd : d < n := by decide) : One P ops (St F w0 m0 n L fs os) [] ⟨some d, .extract x i, ty, pos, af, none⟩ (St F w0 m0 n ((d, v) :: L) fs os) := ov (fun S => x_extract (S.e hx) hv) ⟨rfl, rfl, hd⟩
/-- the cell of an element of a slice -/
theorem idxi {t e : TypeId} {s : Option Addr} {q c sz : Nat} {kk : IntKind} {i : Int} (ht : P.underlying t = some (.slice e)) (hsz : (P.info? e).map (·.size) = some sz) (hx : evS L x = some (.slice s q c)) (hy : evS L y = some (.int kk i)) (j : Nat) (hj : i = (j : Int)) (hlt : j < q) (hs : s = some ⟨blk s, off s, none⟩) (hd : d < n := by decide) :
    One P ops (St F w0 m0 n L fs os) [] ⟨some d, .indexAddr t x y, ty, pos, af, none⟩ (St F w0 m0 n ((d, .pointer (some ⟨blk s, off s + j * sz, none⟩)) :: L) fs os) := ov (fun S => x_idx ht hsz (S.e hx) (S.e hy) j hj hlt hs) ⟨rfl, rfl, hd⟩
theorem fldi {s : TypeId} {gs : Array Field} {i b : Nat} {f : Field} (of_ fo : Nat) (hx : evS L x = some (.pointer (some ⟨b, of_, none⟩))) (hu : P.underlying s = some (.struct gs)) (hk : gs[i]? = some f ∧ f.offset = fo := by exact ⟨rfl, rfl⟩) (hz : szpos P f.type = true := by kernel_rfl) (hd : d < n := by decide) :
    One P ops (St F w0 m0 n L fs os) [] ⟨some d, .fieldAddr s x i, ty, pos, af, none⟩ (St F w0 m0 n ((d, .pointer (some ⟨b, of_ + fo, none⟩)) :: L) fs os) := by
  obtain ⟨q, hq⟩ := szpos_ex hz
  exact ov (fun S => x_fld of_ fo hu hk.1 hk.2 hq (S.e hx)) ⟨rfl, rfl, hd⟩
/-- a cell of one of the call's own variables is read -/
theorem ldk {t e : TypeId} {b f : Nat} {cs : List Value} (i : Nat) (hs : Scalar P t) (hx : evS L x = some (.pointer (some ⟨b, f, none⟩))) (hb : nth os i = some (blO b cs e)) (hv : cs[f]? = some v) (hd : d < n := by decide) :
    One P ops (St F w0 m0 n L fs os) [] ⟨some d, .load t x, ty, pos, af, none⟩ (St F w0 m0 n ((d, v) :: L) fs os) := ov (fun S => x_load hs (S.e hx) ((S.k i hb).cell hv)) ⟨rfl, rfl, hd⟩
theorem ldkw {t e : TypeId} {b : Nat} {cs : List Value} (i : Nat) (hx : evS L x = some (.pointer (some ⟨b, 0, none⟩))) (hb : nth os i = some (blO b cs e)) (hs : Wide P t cs.length) (hd : d < n := by decide) :
    One P ops (St F w0 m0 n L fs os) [] ⟨some d, .load t x, ty, pos, af, none⟩ (St F w0 m0 n ((d, .agg cs.toArray) :: L) fs os) := ov (fun S => x_loadw cs hs (S.e hx) (fun j v hv => by rw [Nat.zero_add]; exact (S.k i hb).cell hv)) ⟨rfl, rfl, hd⟩
/-- a cell of one of the call's own variables is written -/
theorem stk {t e : TypeId} {b f : Nat} {cs : List Value} {u : Value} (i : Nat) (hx : evS L x = some (.pointer (some ⟨b, f, none⟩))) (hy : evS L y = some v) (hb : nth os i = some (blO b cs e)) (ho : cs[f]? = some u := by rfl) (h1 : v.oneCell' = true := by rfl) (hz : (P.info? t).map (·.size) = some 1 := by kernel_rfl) :
    One P ops (St F w0 m0 n L fs os) [one b] ⟨none, .store t x y, ty, pos, af, none⟩ (St F w0 m0 n L fs (os.set i (blO b (cs.set f v) e))) := fun K Q a w S k => by
  have hB := S.k i hb
  unfold Core
  rw [if_pos (by simp [Region.wanted])]
  exact .inl (op_skip (x_store hz (S.e hx) (S.e hy) h1 hB ho) (k _ _ (S.k1s i hb (blO b (cs.set f v) e) rfl S.s (ch_set w b f v) (hB.set v)) (ch_set w b f v)))
theorem stkw {t e : TypeId} {b : Nat} {cs vs : List Value} (i : Nat) (hx : evS L x = some (.pointer (some ⟨b, 0, none⟩))) (hy : evS L y = some (.agg vs.toArray)) (hb : nth os i = some (blO b cs e)) (hl : cs.length = vs.length := by rfl) (h1 : vs.all (·.oneCell') = true := by rfl) (hz : (P.info? t).map (·.size) = some vs.length := by kernel_rfl) :
    One P ops (St F w0 m0 n L fs os) [one b] ⟨none, .store t x y, ty, pos, af, none⟩ (St F w0 m0 n L fs (os.set i (blO b vs e))) := fun K Q a w S k => by
  have hB := S.k i hb
  unfold Core
  rw [if_pos (by simp [Region.wanted])]
  exact .inl (op_skip (x_storew hz (S.e hx) (S.e hy) h1 hB hl) (k _ _ (S.k1s i hb (blO b vs e) rfl S.s (setRow_ch w b _) (setRow_blk vs hB)) (setRow_ch w b _)))
/-- an element of a row of the call's own is written -/
theorem str {α : Type} {E : Enc α} {et : TypeId} {t : TypeId} {ad : Option Addr} {cap ob bs : Nat} {xs : List α} (i : Nat) (hz : (P.info? t).map (·.size) = some 1) (hx : evS L x = some (.pointer (some ⟨blk ad, ob, none⟩))) (hy : evS L y = some v) (hr : nth os i = some (rwO E et bs ad cap xs)) (m j : Nat) (hm : m < xs.length) (hj : j < E.n) (x' : α) (hw : ∀ {a w}, St F w0 m0 n L fs os a w → E.wf (Fr F (ow os)) w.heap x') (hc : E.cells x' = (E.cells (xs.getD m E.dflt)).set j v) (hob : ob = m * E.n + j) (h1 : v.oneCell' = true) :
    One P ops (St F w0 m0 n L fs os) [abk ad] ⟨none, .store t x y, ty, pos, af, none⟩ (St F w0 m0 n L fs (os.set i (rwO E et bs ad cap (xs.set m x')))) := fun K Q a w S k => by
  have R := S.row i hr
  obtain ⟨h2, h3, cur, h4, h5⟩ := row_set R m j hm hj x' v hc (ow_mem (nth_mem hr)) (hw S) hob
  unfold Core
  rw [if_pos (by simp [Region.wanted])]
  refine .inl (op_skip ?_ (k _ _ (S.k1s i hr (rwO E et bs ad cap (xs.set m x')) rfl S.s h3 ⟨h2.own, h2.wf⟩) h3))
  have hcs : v.cells = #[v] := by cases v <;> simp [Value.oneCell'] at h1 <;> rfl
  cases hi : P.info? t with
  | none => simp [hi] at hz
  | some ie =>
    have h6 : ie.size = 1 := by simpa [hi] using hz
    simp [execOp, Instr.storeAt, S.e hx, S.e hy, Instr.sureAddr, storeVar, hcs, sizeOf, typeInfo, hi, h6, storeCells, addr_add, run_store_cell h1 h4 h5]
end
theorem Blk.all {h : Array Obj} {b : Nat} {cs : List Value} {e : TypeId} (k : Blk h b cs e) : ∀ j v, cs[j]? = some v → hcell h b (0 + j) = some v := fun j v hv => by rw [Nat.zero_add]; exact k.cell hv
theorem BlkR.all {ms : List BS} {h : Array Obj} {b : Nat} {cs : List Value} {e : TypeId} (k : BlkR ms h b cs e) : ∀ j v, cs[j]? = some v → hcell h b (0 + j) = some v := k.k.all
theorem x_ldw {P : Program} {a : Act} {w : World} {d : Option Tmp} {ty : TypeId} {pos : String} {af : Array Edge} {g : Option (Nat × Bool)} {x : Operand} {t : TypeId} {b o : Nat} {cs : List Value} (hx : a.eval x = .pointer (some ⟨b, o, none⟩)) (hc : ∀ j v, cs[j]? = some v → hcell w.heap b (o + j) = some v) (hs : Wide P t cs.length) :
    (execOp a.eval ⟨d, .load t x, ty, pos, af, g⟩).run P w = .ok (.value (.agg cs.toArray)) w := x_loadw cs hs hx hc
theorem x_bs {a : Act} {w : World} {d : Option Tmp} {g : Option (Nat × Bool)} {t e : TypeId} {len : Nat} {parts : Array (Nat × Operand)} {cs : List Value} (S : St F w0 m0 n L fs os a w) (vs : List (Nat × Value)) {z : Value} {sz by_ : Nat} (ht : P.underlying t = some (.slice e)) (hi : (P.info? e).map (fun i => (i.zero, i.size, i.bytes)) = some (some z, sz, by_))
    (hv : parts.toList.map (fun p => (p.1, evS L p.2)) = vs.map (fun p => (p.1, some p.2)) := by rfl) (hsmall : ¬ len * sz > 2 ^ 24 := by decide) (hpos : ¬ len * sz = 0 := by decide) (hf : Instr.fill (fun i => some (i * sz, sz)) ((Array.range (len * sz)).map (z.cells[· % z.cells.size]!)) vs = some cs.toArray := by kernel_rfl) :
    (execOp a.eval ⟨d, .buildSlice t len parts, ty, pos, af, g⟩).run P w = .ok (.value (.slice (some ⟨w.heap.size, 0, none⟩) len len)) (w.alloc (.cells cs.toArray e)) := by
  refine x_bsl vs cs ht hi hsmall hpos ?_ hf
  have : ∀ (l : List (Nat × Operand)) (u : List (Nat × Value)), l.map (fun p => (p.1, evS L p.2)) = u.map (fun p => (p.1, some p.2)) → l.map (fun p => (p.1, a.eval p.2)) = u := by
    intro l
    induction l with
    | nil => intro u hu; cases u <;> simp_all
    | cons x l ih =>
      intro u hu
      cases u with
      | nil => simp at hu
      | cons v u =>
        obtain ⟨v1, v2⟩ := v
        simp only [List.map_cons, List.cons.injEq, Prod.mk.injEq] at hu ⊢
        exact ⟨⟨hu.1.1, S.s.eval hu.1.2⟩, ih u hu.2⟩
  exact this _ _ hv
theorem x_bd {a : Act} {w : World} {d : Option Tmp} {g : Option (Nat × Bool)} {t : TypeId} {parts : Array (Nat × Operand)} (S : St F w0 m0 n L fs os a w) (vs : List (Nat × Value)) (cs : List Value) (hv : parts.toList.map (fun p => (p.1, evS L p.2)) = vs.map (fun p => (p.1, some p.2)) := by rfl) (hb : P.built t vs = some cs.toArray := by kernel_rfl) :
    (execOp a.eval ⟨d, .build t parts, ty, pos, af, g⟩).run P w = .ok (.value (.agg cs.toArray)) w := by
  refine x_build vs cs ?_ hb
  have : ∀ (l : List (Nat × Operand)) (u : List (Nat × Value)), l.map (fun p => (p.1, evS L p.2)) = u.map (fun p => (p.1, some p.2)) → l.map (fun p => (p.1, a.eval p.2)) = u := by
    intro l
    induction l with
    | nil => intro u hu; cases u <;> simp_all
    | cons x l ih =>
      intro u hu
      cases u with
      | nil => simp at hu
      | cons v u =>
        obtain ⟨v1, v2⟩ := v
        simp only [List.map_cons, List.cons.injEq, Prod.mk.injEq] at hu ⊢
        exact ⟨⟨hu.1.1, S.s.eval hu.1.2⟩, ih u hu.2⟩
  exact this _ _ hv
/-! new blocks -/
section
variable {rest : List Oper} {a : Act} {w : World}
theorem nb {d : Nat} (mk : Nat → Value) {cs : List Value} {e : TypeId} (S : St F w0 m0 n L fs os a w) (h : (execOp a.eval o).run P w = .ok (.value (mk w.heap.size)) (w.alloc (.cells cs.toArray e)))
    (next : ∀ a' w' b, St F w0 m0 n ((d, mk b) :: L) fs (os ++ [blO b cs e]) a' w' → wpList P ops Q rest a' w') (hk : o.guard = none ∧ o.dst = some d ∧ d < n := by exact ⟨rfl, rfl, by decide⟩) : wpList P ops Q (o :: rest) a w :=
  seq_val S.s hk.1 hk.2.1 hk.2.2 h fun a' S' => next a' _ _ ⟨S', S.m.n1 (blO w.heap.size cs e) rfl (by simp) (fun k hk => hk) (ch_alloc w _) (Blk.new w cs e)⟩
theorem nbp {d : Nat} {cs : List Value} {e : TypeId} (S : St F w0 m0 n L fs os a w) (h : (execOp a.eval o).run P w = .ok (.value (.pointer (some ⟨w.heap.size, 0, none⟩))) (w.alloc (.cells cs.toArray e)))
    (next : ∀ a' w' b, St F w0 m0 n ((d, .pointer (some ⟨b, 0, none⟩)) :: L) fs (os ++ [blO b cs e]) a' w' → wpList P ops Q rest a' w') (hk : o.guard = none ∧ o.dst = some d ∧ d < n := by exact ⟨rfl, rfl, by decide⟩) : wpList P ops Q (o :: rest) a w := nb (fun b => .pointer (some ⟨b, 0, none⟩)) S h next hk
/-- a literal slice, that is only read -/
theorem nbs {α : Type} {d : Nat} {e : TypeId} {q : Nat} (E : Enc α) (S : St F w0 m0 n L fs os a w) (xs : List α) (h : (execOp a.eval o).run P w = .ok (.value (.slice (some ⟨w.heap.size, 0, none⟩) q q)) (w.alloc (.cells (xs.flatMap E.cells).toArray e)))
    (hw : ∀ x ∈ xs, E.wf (Fr F (ow os)) w.heap x) (next : ∀ a' w' b, St F w0 m0 n ((d, .slice (some ⟨b, 0, none⟩) q q) :: L) (fs ++ [wfF (slE E) ⟨some ⟨b, 0, none⟩, q, xs⟩]) os a' w' → wpList P ops Q rest a' w')
    (hq : xs.length = q ∧ q ≤ maxLen ∧ 0 < q := by exact ⟨rfl, by decide, by decide⟩) (hk : o.guard = none ∧ o.dst = some d ∧ d < n := by exact ⟨rfl, rfl, by decide⟩) : wpList P ops Q (o :: rest) a w :=
  seq_val S.s hk.1 hk.2.1 hk.2.2 h fun a' S' => by
    have g := ch_alloc w (.cells (xs.flatMap E.cells).toArray e)
    have M := S.m.k0 g
    refine next a' _ w.heap.size (St.ar ⟨S', M⟩ _ (sl_of_blk (Blk.new w (xs.flatMap E.cells) e) xs q hq.1 hq.2.1 hq.2.2 rfl (fr_fresh S.m.c S.m.f rfl) fun x hx => E.mv (Tr.of_ch0 S.M g).mv (hw x hx)))
/-- a literal slice, that will be written -/
theorem nbr {α : Type} {d : Nat} {e : TypeId} {q : Nat} (E : Enc α) (S : St F w0 m0 n L fs os a w) (xs : List α) (h : (execOp a.eval o).run P w = .ok (.value (.slice (some ⟨w.heap.size, 0, none⟩) q q)) (w.alloc (.cells (xs.flatMap E.cells).toArray e)))
    (hw : ∀ x ∈ xs, E.wf (Fr F (ow os)) w.heap x) (next : ∀ a' w' b, St F w0 m0 n ((d, .slice (some ⟨b, 0, none⟩) q q) :: L) fs (os ++ [rwO E e w0.heap.size (some ⟨b, 0, none⟩) q xs]) a' w' → wpList P ops Q rest a' w')
    (hq : xs.length = q ∧ q ≤ maxLen := by exact ⟨rfl, by decide⟩) (hk : o.guard = none ∧ o.dst = some d ∧ d < n := by exact ⟨rfl, rfl, by decide⟩) : wpList P ops Q (o :: rest) a w :=
  seq_val S.s hk.1 hk.2.1 hk.2.2 h fun a' S' => by
    obtain ⟨h1, h2⟩ := hq
    generalize hcs : xs.flatMap E.cells = cs
    have g := ch_alloc w (.cells cs.toArray e)
    have S2 := next a' (w.alloc (.cells cs.toArray e)) w.heap.size
    refine S2 ⟨S', S.m.n1 (rwO E e w0.heap.size (some ⟨w.heap.size, 0, none⟩) q xs) (b := w.heap.size) rfl (by simp) (fun k hk => by rw [show (rwO E e w0.heap.size (some ⟨w.heap.size, 0, none⟩) q xs).o = one w.heap.size from abk_one _] at hk; exact hk) g ?_⟩
    have T : Tr (ow os) w (ow os ++ [(rwO E e w0.heap.size (some ⟨w.heap.size, 0, none⟩) q xs).o]) (w.alloc (.cells cs.toArray e)) := by
      have := (Tr.freshRow S.M rfl (by simp) g); exact Tr.comm (x := [_]) this
    have hwf : ∀ x ∈ xs, E.wf (Fr F (ow os ++ [(rwO E e w0.heap.size (some ⟨w.heap.size, 0, none⟩) q xs).o])) (w.alloc (.cells cs.toArray e)).heap x := fun x hx => E.mv T.mv (hw x hx)
    refine ⟨⟨flat_len E.len xs, .inr ⟨w.heap.size, q, cs.toArray, by rw [h1], S.m.c.size, Blk.new w cs e, by omega, h2, ?_, ?_⟩⟩, hwf⟩
    · rw [← hcs, List.size_toArray, flat_len E.len, h1]
    · rw [← flat_len E.len xs, hcs, List.take_length]
/-- a call -/
theorem cl {d : Nat} {f : FuncId} {args : Array Operand} {ats : Array TypeId} {vs : Array Value} {R : Ending → World → Prop} (S : St F w0 m0 n L fs os a w) (hc : Calls P f vs w R) (hf : Callable P f)
    (hR : ∀ e w', R e w' → ∃ v, e = .returned v ∧ ∀ a', Slots n ((d, v) :: L) a' → wpList P ops Q rest a' w') (hv : args.toList.map (evS L) = vs.toList.map some := by rfl) (hd : d < n := by decide) : wpList P ops Q (⟨some d, .call ⟨.value (.func f), args, ats⟩, ty, pos, af, none⟩ :: rest) a w := seq_call S.s hd hv hf hc hR
/-- append to a row of the call's own -/
theorem ap {α : Type} {E : Enc α} {d : Nat} {t ts : TypeId} {ad sa : Option Addr} {cap sc bs : Nat} {xs ys : List α} {D : Nat → Prop} {z : Value} {bytes : Nat} {s x : Operand} (S : St F w0 m0 n L fs os a w) (i : Nat) (hi : nth os i = some (rwO E t bs ad cap xs)) (ht : P.underlying ts = some (.slice t)) (hz : (P.info? t).map (fun i => (i.zero, i.size, i.bytes)) = some (some z, E.n, bytes))
    (hs : evS L s = some (.slice ad xs.length cap)) (hx : evS L x = some (.slice sa ys.length sc)) (hsrc : LAt E D w.heap sa ys) (hsc : sa = none → sc = 0) (hyw : ∀ y ∈ ys, E.wf (Fr F (ow os)) w.heap y) (h63 : xs.length + ys.length ≤ maxLen ∧ (xs.length + ys.length) * bytes ≤ 140737488355328)
    (next : ∀ a' w' ad' cap', St F w0 m0 n ((d, .slice ad' (xs ++ ys).length cap') :: L) fs (os.set i (rwO E t bs ad' cap' (xs ++ ys))) a' w' → wpList P ops Q rest a' w') (hzz : z.cells.size = E.n ∧ 0 < E.n := by exact ⟨rfl, by decide⟩) (hd : d < n := by decide) (hbs : bs ≤ w0.heap.size := by first | exact Nat.le_refl _ | exact Nat.zero_le _ | assumption) :
    wpList P ops Q (⟨some d, .call ⟨.builtin .append, #[s, x], #[ts, ts]⟩, ty, pos, af, none⟩ :: rest) a w := by
  refine seq_op rfl (op_append (E := E) ((ow os).take i) ((ow os).drop (i + 1)) s x ts rfl z bytes ht hz hzz.1 hzz.2 (rowSplit hi) S.M (S.e hs) (S.row i hi) ys sa sc (S.e hx) hsrc hsc hyw h63.1 h63.2 (Nat.le_trans hbs S.m.c.size) fun ad' cap' w' R T g => ?_)
  have e1 := rowSplit hi
  have e2 := ow_setx (g := rwO E t bs ad' cap' (xs ++ ys)) hi
  have T' : Tr (ow os) w (ow (os.set i (rwO E t bs ad' cap' (xs ++ ys)))) w' := by
    rw [e2]
    conv => arg 1; rw [e1]
    exact T
  exact next _ _ ad' cap' ⟨S.s.put hd, S.m.sw i hi _ T' g (by rw [e2]; exact ⟨R.own, R.wf⟩)⟩
/-- make([]T, q) -/
theorem mk {α : Type} {E : Enc α} {d : Nat} {t e : TypeId} {l c : Operand} {z : Value} {bytes : Nat} {kl kc : IntKind} {A B : Int} (S : St F w0 m0 n L fs os a w) (x0 : α) (q : Nat) (ht : P.underlying t = some (.slice e)) (hi : (P.info? e).map (fun i => (i.zero, i.size, i.bytes)) = some (some z, E.n, bytes))
    (hl : evS L l = some (.int kl A)) (hc : evS L c = some (.int kc B)) (hA : A = (q : Int)) (hB : B = (q : Int)) (hb : bytes * q ≤ 281474976710656) (hm : q ≤ maxLen) (hw : ∀ D h, E.wf D h x0)
    (next : ∀ a' w' ad, St F w0 m0 n ((d, .slice ad (List.replicate q x0).length q) :: L) fs (os ++ [rwO E e w0.heap.size ad q (List.replicate q x0)]) a' w' → wpList P ops Q rest a' w') (hzz : E.n = 1 ∧ E.cells x0 = [z] ∧ z.cells = #[z] := by exact ⟨rfl, rfl, rfl⟩) (hd : d < n := by decide) :
    wpList P ops Q (⟨some d, .makeSlice t l c, ty, pos, af, none⟩ :: rest) a w := by
  refine seq_op rfl (op_make (E := E) (F := F) (w0 := w0) l c rfl z bytes ht hi hzz.1 x0 hzz.2.1 hzz.2.2 q (S.e hl) (S.e hc) hA hB hb hm S.M (fun h => hw _ h) S.m.c.size fun ad w' R T g => ?_)
  refine next _ _ ad ⟨by have := S.s.put (v := .slice ad q q) hd; rwa [List.length_replicate], S.m.nu [rwO E e w0.heap.size ad q (List.replicate q x0)] T g fun f hf => ?_⟩
  simp only [List.mem_singleton] at hf; subst hf
  exact ⟨R.own, fun x hx => Enc.mono _ (fun k _ hk => ⟨fun e => hk.1 ((in_app.1 e).elim .inr fun e => .inl (In.one.1 e)), hk.2⟩) (R.wf x hx)⟩
end
theorem Tests.tr {α : Type} {P : Program} {E : Enc α} {w w' : World} {f : FuncId} {caps : Array Value} {xs : List α} {p : α → Prop} [DecidablePred p] (T : Tests P E w f caps xs p) (t : Tr [] w [] w') : Tests P E w' f caps xs p := ⟨T.1, fun w2 t2 => T.2 w2 (t.trans t2)⟩
/-! a row that is nil; a tape that a callee makes; facts are dropped -/
theorem St.nr {α : Type} {a : Act} {w : World} (S : St F w0 m0 n L fs os a w) (E : Enc α) (t : TypeId) : St F w0 m0 n L fs (os ++ [rwO E t w0.heap.size none 0 []]) a w :=
  ⟨S.s, S.m.nu [rwO E t w0.heap.size none 0 []] ((Tr.refl S.M).cons (b := abk none) fun k e => absurd e abk_none) (Ch.refl _) fun f hf => by
    simp only [List.mem_singleton] at hf; subst hf
    exact ⟨⟨by simp, .inl ⟨rfl, rfl⟩⟩, fun x h => by simp at h⟩⟩
theorem St.kt {t : TypeId} {T : Nat} {tl : Sl Int} {a a' : Act} {w w' : World} (S : St F w0 m0 n L fs os a w) (s : Slots n L' a') (T0 : Tr [] w [one T] w') (K : TpB t T tl w') : St F w0 m0 n L' fs (os ++ [tpO t T tl]) a' w' :=
  ⟨s, S.m.nu [tpO t T tl] (Tr.frame (m0 := []) (nw := [one T]) S.M T0 fun _ h => by simp at h) T0.ch fun f hf => by simp only [List.mem_singleton] at hf; subst hf; exact K⟩
theorem St.rt {a : Act} {w : World} (S : St F w0 m0 n L fs os a w) (k : Nat) : St F w0 m0 n L (fs.take k) os a w := ⟨S.s, S.m.sub fun _ h => List.mem_of_mem_take h⟩
/-! entering, conditions, returns -/
theorem subM {L L' : List (Nat × Value)} (h : L'.map (fun p => look p.1 L) = L'.map (fun p => some p.2)) : Sub L L' := by
  induction L' with
  | nil => trivial
  | cons p r ih => obtain ⟨i, v⟩ := p; simp only [List.map_cons, List.cons.injEq] at h; exact ⟨h.1, ih h.2⟩
def RAll (F W : Nat → Prop) (h : Array Obj) : List RF → Prop
  | [] => True
  | f :: r => f.p F W h ∧ RAll F W h r
def OAll (F W : Nat → Prop) (w : World) : List OF → Prop
  | [] => True
  | f :: r => f.p F W w ∧ OAll F W w r
theorem RAll.get {F W : Nat → Prop} {h : Array Obj} : ∀ {l : List RF}, RAll F W h l → ∀ f ∈ l, f.p F W h
  | _ :: _, k, f, hf => (List.mem_cons.1 hf).elim (fun e => e ▸ k.1) fun hf => k.2.get f hf
theorem OAll.get {F W : Nat → Prop} {h : World} : ∀ {l : List OF}, OAll F W h l → ∀ f ∈ l, f.p F W h
  | _ :: _, k, f, hf => (List.mem_cons.1 hf).elim (fun e => e ▸ k.1) fun hf => k.2.get f hf
theorem go {f : FuncId} {fn : Func} {c : Code} {args : Array Value} {R : Ending → World → Prop} (hf : P.funcs[f]? = some fn) (hb : fn.body = some c) (n : Nat) (hn : fn.ntmps = n) (fs : List RF) (os : List OF) (hF : Old F w0) (M : MS (ow os) w0) (hr : RAll F (In (ow os)) w0.heap fs) (ho : OAll F (In (ow os)) w0 os)
    (h : ∀ a, St F w0 (ow os) n (zipL 0 args.toList) fs os a w0 → c.wp P (bodyPost P fn R) a w0) (hsz : args.size ≤ n := by exact Nat.le_of_ble_eq_true rfl) : Calls P f args w0 R :=
  enter hf hb n hn hsz fun a S => h a ⟨S, Tr.refl M, hF, hr.get, ho.get⟩
section
variable {a : Act} {w : World}
theorem cd {c : Operand} {x y : Code} {p : Prop} [Decidable p] (S : St F w0 m0 n L fs os a w) (hc : evS L c = some (.bool (decide p))) (ht : p → x.wp P Q a w) (hf : ¬ p → y.wp P Q a w) : (Code.cond c x y).wp P Q a w := cond_dec S.s hc ht hf
theorem cdt {c : Operand} {x y : Code} (S : St F w0 m0 n L fs os a w) (hc : evS L c = some (.bool true)) (h : x.wp P Q a w) : (Code.cond c x y).wp P Q a w := cond_t S.s hc h
theorem cdf {c : Operand} {x y : Code} (S : St F w0 m0 n L fs os a w) (hc : evS L c = some (.bool false)) (h : y.wp P Q a w) : (Code.cond c x y).wp P Q a w := cond_f S.s hc h
theorem St.l (S : St F w0 m0 n L fs os a w) (L' : List (Nat × Value)) (h : Sub L L') : St F w0 m0 n L' fs os a w := ⟨S.s.sub h, S.m⟩
/-- what becomes of a slot's value is told anew -/
theorem St.ext (S : St F w0 m0 n L fs os a w) {d : Nat} {v : Value} (h : a.tmps.getD d undef = v) : St F w0 m0 n ((d, v) :: L) fs os a w := ⟨S.s.ext h, S.m⟩
theorem St.get (S : St F w0 m0 n L fs os a w) (d : Nat) {v : Value} (h : look d L = some v) : a.tmps.getD d undef = v := S.s.get d v h
theorem St.c1 {d : Nat} {v v' : Value} (S : St F w0 m0 n ((d, v) :: L) fs os a w) (h : v = v') : St F w0 m0 n ((d, v') :: L) fs os a w := h ▸ S
end
theorem lp1 {α : Type} {c : Code} {a : Act} {w : World} (L' : α → List (Nat × Value)) (os' : α → List OF) (R : α → Prop) (μ : α → Nat) (S : St F w0 m0 n L fs os a w) (x0 : α) (hL : Sub L (L' x0)) (ho : os' x0 = os) (h0 : R x0)
    (round : ∀ (x0 : α) a w, St F w0 m0 n (L' x0) fs (os' x0) a w → R x0 → c.wp P (Exit.then (fun a' w' => ∃ (y0 : α), St F w0 m0 n (L' y0) fs (os' y0) a' w' ∧ R y0 ∧ μ y0 < μ x0) Q) a w) : (Code.loop c).wp P Q a w := by
  refine wp_loop_ghost (fun m a w => ∃ (y0 : α), St F w0 m0 n (L' y0) fs (os' y0) a w ∧ R y0 ∧ μ y0 = m) (μ x0) ⟨x0, ⟨S.s.sub hL, by rw [ho]; exact S.m⟩, h0, rfl⟩ fun m a w ⟨y0, S, hR, hm⟩ => ?_
  subst hm
  refine wp_mono (round y0 a w S hR) fun e a' w' hq => ?_
  cases e with
  | normal => obtain ⟨x0, h1, h2, h3⟩ := hq; exact ⟨_, h3, x0, h1, h2, rfl⟩
  | exit id => exact hq
  | goto l => exact hq
  | ret => exact hq
  | panic ch => exact hq
  | outgrown => exact hq
theorem lp2 {α : Type} {β : Type} {c : Code} {a : Act} {w : World} (L' : α → β → List (Nat × Value)) (os' : α → β → List OF) (R : α → β → Prop) (μ : α → β → Nat) (S : St F w0 m0 n L fs os a w) (x0 : α) (x1 : β) (hL : Sub L (L' x0 x1)) (ho : os' x0 x1 = os) (h0 : R x0 x1)
    (round : ∀ (x0 : α) (x1 : β) a w, St F w0 m0 n (L' x0 x1) fs (os' x0 x1) a w → R x0 x1 → c.wp P (Exit.then (fun a' w' => ∃ (y0 : α) (y1 : β), St F w0 m0 n (L' y0 y1) fs (os' y0 y1) a' w' ∧ R y0 y1 ∧ μ y0 y1 < μ x0 x1) Q) a w) : (Code.loop c).wp P Q a w := by
  refine wp_loop_ghost (fun m a w => ∃ (y0 : α) (y1 : β), St F w0 m0 n (L' y0 y1) fs (os' y0 y1) a w ∧ R y0 y1 ∧ μ y0 y1 = m) (μ x0 x1) ⟨x0, x1, ⟨S.s.sub hL, by rw [ho]; exact S.m⟩, h0, rfl⟩ fun m a w ⟨y0, y1, S, hR, hm⟩ => ?_
  subst hm
  refine wp_mono (round y0 y1 a w S hR) fun e a' w' hq => ?_
  cases e with
  | normal => obtain ⟨x0, x1, h1, h2, h3⟩ := hq; exact ⟨_, h3, x0, x1, h1, h2, rfl⟩
  | exit id => exact hq
  | goto l => exact hq
  | ret => exact hq
  | panic ch => exact hq
  | outgrown => exact hq
theorem lp4 {α : Type} {β : Type} {γ : Type} {δ : Type} {c : Code} {a : Act} {w : World} (L' : α → β → γ → δ → List (Nat × Value)) (os' : α → β → γ → δ → List OF) (R : α → β → γ → δ → Prop) (μ : α → β → γ → δ → Nat) (S : St F w0 m0 n L fs os a w) (x0 : α) (x1 : β) (x2 : γ) (x3 : δ) (hL : Sub L (L' x0 x1 x2 x3)) (ho : os' x0 x1 x2 x3 = os) (h0 : R x0 x1 x2 x3)
    (round : ∀ (x0 : α) (x1 : β) (x2 : γ) (x3 : δ) a w, St F w0 m0 n (L' x0 x1 x2 x3) fs (os' x0 x1 x2 x3) a w → R x0 x1 x2 x3 → c.wp P (Exit.then (fun a' w' => ∃ (y0 : α) (y1 : β) (y2 : γ) (y3 : δ), St F w0 m0 n (L' y0 y1 y2 y3) fs (os' y0 y1 y2 y3) a' w' ∧ R y0 y1 y2 y3 ∧ μ y0 y1 y2 y3 < μ x0 x1 x2 x3) Q) a w) : (Code.loop c).wp P Q a w := by
  refine wp_loop_ghost (fun m a w => ∃ (y0 : α) (y1 : β) (y2 : γ) (y3 : δ), St F w0 m0 n (L' y0 y1 y2 y3) fs (os' y0 y1 y2 y3) a w ∧ R y0 y1 y2 y3 ∧ μ y0 y1 y2 y3 = m) (μ x0 x1 x2 x3) ⟨x0, x1, x2, x3, ⟨S.s.sub hL, by rw [ho]; exact S.m⟩, h0, rfl⟩ fun m a w ⟨y0, y1, y2, y3, S, hR, hm⟩ => ?_
  subst hm
  refine wp_mono (round y0 y1 y2 y3 a w S hR) fun e a' w' hq => ?_
  cases e with
  | normal => obtain ⟨x0, x1, x2, x3, h1, h2, h3⟩ := hq; exact ⟨_, h3, x0, x1, x2, x3, h1, h2, rfl⟩
  | exit id => exact hq
  | goto l => exact hq
  | ret => exact hq
  | panic ch => exact hq
  | outgrown => exact hq
theorem lp5 {α : Type} {β : Type} {γ : Type} {δ : Type} {ε : Type} {c : Code} {a : Act} {w : World} (L' : α → β → γ → δ → ε → List (Nat × Value)) (os' : α → β → γ → δ → ε → List OF) (R : α → β → γ → δ → ε → Prop) (μ : α → β → γ → δ → ε → Nat) (S : St F w0 m0 n L fs os a w) (x0 : α) (x1 : β) (x2 : γ) (x3 : δ) (x4 : ε) (hL : Sub L (L' x0 x1 x2 x3 x4)) (ho : os' x0 x1 x2 x3 x4 = os) (h0 : R x0 x1 x2 x3 x4)
    (round : ∀ (x0 : α) (x1 : β) (x2 : γ) (x3 : δ) (x4 : ε) a w, St F w0 m0 n (L' x0 x1 x2 x3 x4) fs (os' x0 x1 x2 x3 x4) a w → R x0 x1 x2 x3 x4 → c.wp P (Exit.then (fun a' w' => ∃ (y0 : α) (y1 : β) (y2 : γ) (y3 : δ) (y4 : ε), St F w0 m0 n (L' y0 y1 y2 y3 y4) fs (os' y0 y1 y2 y3 y4) a' w' ∧ R y0 y1 y2 y3 y4 ∧ μ y0 y1 y2 y3 y4 < μ x0 x1 x2 x3 x4) Q) a w) : (Code.loop c).wp P Q a w := by
  refine wp_loop_ghost (fun m a w => ∃ (y0 : α) (y1 : β) (y2 : γ) (y3 : δ) (y4 : ε), St F w0 m0 n (L' y0 y1 y2 y3 y4) fs (os' y0 y1 y2 y3 y4) a w ∧ R y0 y1 y2 y3 y4 ∧ μ y0 y1 y2 y3 y4 = m) (μ x0 x1 x2 x3 x4) ⟨x0, x1, x2, x3, x4, ⟨S.s.sub hL, by rw [ho]; exact S.m⟩, h0, rfl⟩ fun m a w ⟨y0, y1, y2, y3, y4, S, hR, hm⟩ => ?_
  subst hm
  refine wp_mono (round y0 y1 y2 y3 y4 a w S hR) fun e a' w' hq => ?_
  cases e with
  | normal => obtain ⟨x0, x1, x2, x3, x4, h1, h2, h3⟩ := hq; exact ⟨_, h3, x0, x1, x2, x3, x4, h1, h2, rfl⟩
  | exit id => exact hq
  | goto l => exact hq
  | ret => exact hq
  | panic ch => exact hq
  | outgrown => exact hq
theorem lq5 {α : Type} {β : Type} {γ : Type} {δ : Type} {ε : Type} {c : Code} {a : Act} {w : World} (L' : α → β → γ → δ → ε → List (Nat × Value)) (fs' : α → β → γ → δ → ε → List RF) (os' : α → β → γ → δ → ε → List OF) (R : α → β → γ → δ → ε → Prop) (μ : α → β → γ → δ → ε → Nat) (S : St F w0 m0 n L fs os a w) (x0 : α) (x1 : β) (x2 : γ) (x3 : δ) (x4 : ε) (hL : Sub L (L' x0 x1 x2 x3 x4)) (hf : fs' x0 x1 x2 x3 x4 = fs) (ho : os' x0 x1 x2 x3 x4 = os) (h0 : R x0 x1 x2 x3 x4)
    (round : ∀ (x0 : α) (x1 : β) (x2 : γ) (x3 : δ) (x4 : ε) a w, St F w0 m0 n (L' x0 x1 x2 x3 x4) (fs' x0 x1 x2 x3 x4) (os' x0 x1 x2 x3 x4) a w → R x0 x1 x2 x3 x4 → c.wp P (Exit.then (fun a' w' => ∃ (y0 : α) (y1 : β) (y2 : γ) (y3 : δ) (y4 : ε), St F w0 m0 n (L' y0 y1 y2 y3 y4) (fs' y0 y1 y2 y3 y4) (os' y0 y1 y2 y3 y4) a' w' ∧ R y0 y1 y2 y3 y4 ∧ μ y0 y1 y2 y3 y4 < μ x0 x1 x2 x3 x4) Q) a w) : (Code.loop c).wp P Q a w := by
  refine wp_loop_ghost (fun m a w => ∃ (y0 : α) (y1 : β) (y2 : γ) (y3 : δ) (y4 : ε), St F w0 m0 n (L' y0 y1 y2 y3 y4) (fs' y0 y1 y2 y3 y4) (os' y0 y1 y2 y3 y4) a w ∧ R y0 y1 y2 y3 y4 ∧ μ y0 y1 y2 y3 y4 = m) (μ x0 x1 x2 x3 x4) ⟨x0, x1, x2, x3, x4, ⟨S.s.sub hL, by rw [ho, hf]; exact S.m⟩, h0, rfl⟩ fun m a w ⟨y0, y1, y2, y3, y4, S, hR, hm⟩ => ?_
  subst hm
  refine wp_mono (round y0 y1 y2 y3 y4 a w S hR) fun e a' w' hq => ?_
  cases e with
  | normal => obtain ⟨x0, x1, x2, x3, x4, h1, h2, h3⟩ := hq; exact ⟨_, h3, x0, x1, x2, x3, x4, h1, h2, rfl⟩
  | exit id => exact hq
  | goto l => exact hq
  | ret => exact hq
  | panic ch => exact hq
  | outgrown => exact hq
theorem lp7 {α : Type} {β : Type} {γ : Type} {δ : Type} {ε : Type} {ζ : Type} {η : Type} {c : Code} {a : Act} {w : World} (L' : α → β → γ → δ → ε → ζ → η → List (Nat × Value)) (os' : α → β → γ → δ → ε → ζ → η → List OF) (R : α → β → γ → δ → ε → ζ → η → Prop) (μ : α → β → γ → δ → ε → ζ → η → Nat) (S : St F w0 m0 n L fs os a w) (x0 : α) (x1 : β) (x2 : γ) (x3 : δ) (x4 : ε) (x5 : ζ) (x6 : η) (hL : Sub L (L' x0 x1 x2 x3 x4 x5 x6)) (ho : os' x0 x1 x2 x3 x4 x5 x6 = os) (h0 : R x0 x1 x2 x3 x4 x5 x6)
    (round : ∀ (x0 : α) (x1 : β) (x2 : γ) (x3 : δ) (x4 : ε) (x5 : ζ) (x6 : η) a w, St F w0 m0 n (L' x0 x1 x2 x3 x4 x5 x6) fs (os' x0 x1 x2 x3 x4 x5 x6) a w → R x0 x1 x2 x3 x4 x5 x6 → c.wp P (Exit.then (fun a' w' => ∃ (y0 : α) (y1 : β) (y2 : γ) (y3 : δ) (y4 : ε) (y5 : ζ) (y6 : η), St F w0 m0 n (L' y0 y1 y2 y3 y4 y5 y6) fs (os' y0 y1 y2 y3 y4 y5 y6) a' w' ∧ R y0 y1 y2 y3 y4 y5 y6 ∧ μ y0 y1 y2 y3 y4 y5 y6 < μ x0 x1 x2 x3 x4 x5 x6) Q) a w) : (Code.loop c).wp P Q a w := by
  refine wp_loop_ghost (fun m a w => ∃ (y0 : α) (y1 : β) (y2 : γ) (y3 : δ) (y4 : ε) (y5 : ζ) (y6 : η), St F w0 m0 n (L' y0 y1 y2 y3 y4 y5 y6) fs (os' y0 y1 y2 y3 y4 y5 y6) a w ∧ R y0 y1 y2 y3 y4 y5 y6 ∧ μ y0 y1 y2 y3 y4 y5 y6 = m) (μ x0 x1 x2 x3 x4 x5 x6) ⟨x0, x1, x2, x3, x4, x5, x6, ⟨S.s.sub hL, by rw [ho]; exact S.m⟩, h0, rfl⟩ fun m a w ⟨y0, y1, y2, y3, y4, y5, y6, S, hR, hm⟩ => ?_
  subst hm
  refine wp_mono (round y0 y1 y2 y3 y4 y5 y6 a w S hR) fun e a' w' hq => ?_
  cases e with
  | normal => obtain ⟨x0, x1, x2, x3, x4, x5, x6, h1, h2, h3⟩ := hq; exact ⟨_, h3, x0, x1, x2, x3, x4, x5, x6, h1, h2, rfl⟩
  | exit id => exact hq
  | goto l => exact hq
  | ret => exact hq
  | panic ch => exact hq
  | outgrown => exact hq
theorem lp8 {α : Type} {β : Type} {γ : Type} {δ : Type} {ε : Type} {ζ : Type} {η : Type} {θ : Type} {c : Code} {a : Act} {w : World} (L' : α → β → γ → δ → ε → ζ → η → θ → List (Nat × Value)) (os' : α → β → γ → δ → ε → ζ → η → θ → List OF) (R : α → β → γ → δ → ε → ζ → η → θ → Prop) (μ : α → β → γ → δ → ε → ζ → η → θ → Nat) (S : St F w0 m0 n L fs os a w) (x0 : α) (x1 : β) (x2 : γ) (x3 : δ) (x4 : ε) (x5 : ζ) (x6 : η) (x7 : θ) (hL : Sub L (L' x0 x1 x2 x3 x4 x5 x6 x7)) (ho : os' x0 x1 x2 x3 x4 x5 x6 x7 = os) (h0 : R x0 x1 x2 x3 x4 x5 x6 x7)
    (round : ∀ (x0 : α) (x1 : β) (x2 : γ) (x3 : δ) (x4 : ε) (x5 : ζ) (x6 : η) (x7 : θ) a w, St F w0 m0 n (L' x0 x1 x2 x3 x4 x5 x6 x7) fs (os' x0 x1 x2 x3 x4 x5 x6 x7) a w → R x0 x1 x2 x3 x4 x5 x6 x7 → c.wp P (Exit.then (fun a' w' => ∃ (y0 : α) (y1 : β) (y2 : γ) (y3 : δ) (y4 : ε) (y5 : ζ) (y6 : η) (y7 : θ), St F w0 m0 n (L' y0 y1 y2 y3 y4 y5 y6 y7) fs (os' y0 y1 y2 y3 y4 y5 y6 y7) a' w' ∧ R y0 y1 y2 y3 y4 y5 y6 y7 ∧ μ y0 y1 y2 y3 y4 y5 y6 y7 < μ x0 x1 x2 x3 x4 x5 x6 x7) Q) a w) : (Code.loop c).wp P Q a w := by
  refine wp_loop_ghost (fun m a w => ∃ (y0 : α) (y1 : β) (y2 : γ) (y3 : δ) (y4 : ε) (y5 : ζ) (y6 : η) (y7 : θ), St F w0 m0 n (L' y0 y1 y2 y3 y4 y5 y6 y7) fs (os' y0 y1 y2 y3 y4 y5 y6 y7) a w ∧ R y0 y1 y2 y3 y4 y5 y6 y7 ∧ μ y0 y1 y2 y3 y4 y5 y6 y7 = m) (μ x0 x1 x2 x3 x4 x5 x6 x7) ⟨x0, x1, x2, x3, x4, x5, x6, x7, ⟨S.s.sub hL, by rw [ho]; exact S.m⟩, h0, rfl⟩ fun m a w ⟨y0, y1, y2, y3, y4, y5, y6, y7, S, hR, hm⟩ => ?_
  subst hm
  refine wp_mono (round y0 y1 y2 y3 y4 y5 y6 y7 a w S hR) fun e a' w' hq => ?_
  cases e with
  | normal => obtain ⟨x0, x1, x2, x3, x4, x5, x6, x7, h1, h2, h3⟩ := hq; exact ⟨_, h3, x0, x1, x2, x3, x4, x5, x6, x7, h1, h2, rfl⟩
  | exit id => exact hq
  | goto l => exact hq
  | ret => exact hq
  | panic ch => exact hq
  | outgrown => exact hq
end
end Go.Proofs.Ytobggnpnochnnaa.V
/- Regions that draw their order, over the bundle. -/
namespace Go.Proofs.Ytobggnpnochnnaa.V
open Go.RowKit
/-- what is told of a head's slot: its value, or a property that stays true -/
inductive Td (M : Nat → Prop)
  | is (x : Value)
  | of (q : Value → World → Prop) (st : ∀ v w w', Ch M w w' → q v w → q v w')
def Td.q {M : Nat → Prop} : Td M → StP M
  | .is x => isV M x
  | .of q st => ⟨q, st⟩
def tq {M : Nat → Prop} : List (Nat × Td M) → List (Nat × StP M)
  | [] => []
  | (i, t) :: r => (i, t.q) :: tq r
def lookT {M : Nat → Prop} (t : Nat) : List (Nat × Td M) → Option (Td M)
  | [] => none
  | (i, v) :: r => bif Nat.beq i t then some v else lookT t r
theorem look_tq {M : Nat → Prop} {t : Nat} {q : Td M} {v : Value} {w : World} : ∀ {E : List (Nat × Td M)}, lookT t E = some q → (lookE (tq E) t v w ↔ q.q.p v w)
  | [], h => by cases h
  | (i, u) :: r, h => by
    unfold tq lookE
    unfold lookT at h
    cases hb : Nat.beq i t
    · rw [hb] at h; exact look_tq (E := r) h
    · rw [hb] at h; cases h; exact Iff.rfl
def vals {M : Nat → Prop} (E : List (Nat × Td M)) : List Nat → List (Nat × Value)
  | [] => []
  | d :: r => match lookT d E with
    | some (.is x) => (d, x) :: vals E r
    | _ => vals E r
def pdeps {M : Nat → Prop} (E : List (Nat × Td M)) (a : Act) (w : World) : List Nat → Prop
  | [] => True
  | d :: r => match lookT d E with
    | some (.of p _) => p (a.tmps.getD d undef) w ∧ pdeps E a w r
    | _ => pdeps E a w r
def cat (x y : List (Nat × Value)) : List (Nat × Value) := match x with
  | [] => y
  | p :: r => p :: cat r y
theorem deps_open {M : Nat → Prop} {E : List (Nat × Td M)} {a : Act} {w : World} {n : Nat} {L : List (Nat × Value)} (s : Slots n L a) : ∀ (D : List Nat), deps (tq E) a w D → Slots n (cat (vals E D) L) a ∧ pdeps E a w D
  | [], _ => ⟨s, trivial⟩
  | d :: r, h => by
    obtain ⟨h1, h2⟩ := deps_open s r h.2
    unfold vals pdeps
    cases hl : lookT d E with
    | none => exact ⟨h1, h2⟩
    | some q =>
      cases q with
      | is x => exact ⟨h1.ext ((look_tq hl).1 h.1), h2⟩
      | of p st => exact ⟨h1, (look_tq hl).1 h.1, h2⟩
theorem Core.put {P : Program} {ops : Array Oper} {o : Oper} {a : Act} {w : World} {K : Act → World → Prop} {Q : Exit → Act → World → Prop} (h : Core P ops o a w K Q) : Core P ops o a w (fun a' w' => K a' w' ∧ ∃ v, a'.tmps = (a.put o.dst v).tmps) Q := by
  unfold Core at *
  by_cases hw : Region.wanted o (yielded ops a.tmps) = true
  · rw [if_pos hw] at h ⊢; exact h.imp Oper.wp_put id
  · rw [if_neg hw] at h ⊢; exact ⟨h, undef, rfl⟩
theorem Core.mono {P : Program} {ops : Array Oper} {o : Oper} {a : Act} {w : World} {K K' : Act → World → Prop} {Q : Exit → Act → World → Prop} (h : Core P ops o a w K Q) (hk : ∀ a w, K a w → K' a w) : Core P ops o a w K' Q := by
  unfold Core at *
  by_cases hw : Region.wanted o (yielded ops a.tmps) = true
  · rw [if_pos hw] at h ⊢; exact h.imp (Oper.wp_mono hk) id
  · rw [if_neg hw] at h ⊢; exact hk _ _ h
theorem core_op {P : Program} {ops : Array Oper} {i : Nat} {o : Oper} {a : Act} {w : World} {K : Act → World → Prop} {Q : Exit → Act → World → Prop} (ho : ops[i]? = some o) (h : Core P ops o a w K Q) : wpOp P ops Q i K a w := by
  unfold wpOp
  rw [ho]
  exact h
section
variable {P : Program} {ops : Array Oper} {F : Nat → Prop} {w0 W : World} {m0 chg : List BS} {n i : Nat} {L : List (Nat × Value)} {fs : List RF} {os : List OF} {o : Oper} {ty : TypeId} {pos : String} {af : Array Edge} {Q : Exit → Act → World → Prop} {E : List (Nat × Td (In chg))} {D : List Nat}
/-- what one head owes -/
def HD (P : Program) (ops : Array Oper) (Q : Exit → Act → World → Prop) (F : Nat → Prop) (w0 W : World) (m0 : List BS) (n : Nat) (L : List (Nat × Value)) (fs : List RF) (os : List OF) {chg : List BS} (E : List (Nat × Td (In chg))) (i : Nat) (o : Oper) (D : List Nat) : Prop :=
  ∀ a w, St F w0 m0 n (cat (vals E D) L) fs os a w → Ch (In chg) W w → pdeps E a w D → wpOp P ops Q i (Done o (tq E) (Mm F w0 m0 fs os) n a w) a w
def HS (P : Program) (ops : Array Oper) (Q : Exit → Act → World → Prop) (F : Nat → Prop) (w0 W : World) (m0 : List BS) (n : Nat) (L : List (Nat × Value)) (fs : List RF) (os : List OF) {chg : List BS} (E : List (Nat × Td (In chg))) : Nat → List Oper → List (List Nat) → Prop
  | i, o :: r, D :: Ds => HD P ops Q F w0 W m0 n L fs os E i o D ∧ HS P ops Q F w0 W m0 n L fs os E (i + 1) r Ds
  | _, _, _ => True
theorem HS.steps : ∀ (l : List Oper) (Ds : List (List Nat)) (i : Nat), HS P ops Q F w0 W m0 n L fs os E i l Ds → steps P ops Q n L W (tq E) (Mm F w0 m0 fs os) i l Ds
  | [], _, _, _ => by cases ‹List (List Nat)› <;> trivial
  | _ :: _, [], _, _ => trivial
  | o :: r, D :: Ds, i, h => ⟨fun a w hc hm s hd => by
      obtain ⟨h1, h2⟩ := deps_open s D hd
      exact h.1 a w ⟨h1, hm⟩ hc h2, HS.steps r Ds (i + 1) h.2⟩
theorem Mm.drew {w : World} (M : Mm F w0 m0 fs os w) : Mm F w0 m0 fs os { w with drawn := w.drawn + 1 } := M.k0 (Ch.refl w).drew
theorem dr {id : Nat} {a : Act} {w : World} {l : List Oper} (S : St F w0 m0 n L fs os a w) (N : Nat) (chg : List BS) (E : List (Nat × Td (In chg))) (Ds : List (List Nat)) (outs : List Nat) (tail : List Oper) (step : HS P l.toArray Q F w0 w m0 n L fs os E 0 (l.take N) Ds)
    (fin : ∀ a w', St F w0 m0 n (cat (vals E outs) L) fs os a w' → Ch (In chg) w w' → pdeps E a w' outs → wpList P l.toArray Q tail a w')
    (htl : tail = l.drop N := by rfl) (hm : P.follows .mixedOrders = true := by exact mixed) (hok : (headOk l.toArray N && depsOk l.toArray N 0 Ds && keysOk l.toArray N L && outsOk l.toArray N outs && tailOk l.toArray N) = true := by kernel_rfl) (hlen : Ds.length = N := by rfl) : (Code.region id l.toArray true).wp P Q a w :=
  wp_heads S.s N (tq E) (Mm F w0 m0 fs os) Ds outs tail htl hm hok hlen S.m.drew (HS.steps _ _ _ step) fun a w' hc hm s hd => by
    obtain ⟨h1, h2⟩ := deps_open s outs hd
    exact fin a w' ⟨h1, hm⟩ hc h2
theorem one_done {c : List BS} {d : Nat} {v : Value} {L' : List (Nat × Value)} {a : Act} {w : World} (S : St F w0 m0 n L' fs os a w) (h : One P ops (St F w0 m0 n L' fs os) c o (St F w0 m0 n ((d, v) :: L') fs os)) (hd : o.dst = some d) (hn : d < n) (he : lookE (tq E) d v w ∧ (∀ w', lookE (tq E) d v w → lookE (tq E) d v w')) (hc : ∀ k, In c k → In chg k) : Core P ops o a w (Done o (tq E) (Mm F w0 m0 fs os) n a w) Q := by
  refine Core.mono (Core.put (h _ Q a w S fun a' w' Y g => (⟨Y, g⟩ : St F w0 m0 n ((d, v) :: L') fs os a' w' ∧ Ch (In c) w w'))) ?_
  rintro a' w' ⟨⟨Y, g⟩, u, hu⟩
  have h1 : a'.tmps.getD d undef = v := Y.s.get d v (by rw [look_cons, if_pos rfl])
  have h2 : (a.put o.dst u).tmps.getD d undef = u := by rw [hd, getD_put a d d u (by rw [S.s.size]; exact hn), if_pos rfl]
  rw [hu, h2] at h1
  subst h1
  have h3 : a' = a.put o.dst u := by
    have e1 := Y.s.defers
    have e2 : (a.put o.dst u).defers = [] := by rw [← S.s.defers]; cases o.dst <;> rfl
    cases a'
    cases hp : a.put o.dst u
    rw [hp] at hu e2
    simp_all
  exact ⟨⟨u, h3, fun e he' => by rw [hd] at he'; cases he'; exact ⟨hn, he.2 w' he.1⟩⟩, g.mono hc, Y.m⟩
/-- a head that only computes -/
theorem qd {c : List BS} {d : Nat} {v : Value} (h : One P ops (St F w0 m0 n (cat (vals E D) L) fs os) c o (St F w0 m0 n ((d, v) :: cat (vals E D) L) fs os)) (hk : ops[i]? = some o ∧ o.dst = some d ∧ d < n := by exact ⟨rfl, rfl, by decide⟩) (he : lookT d E = some (.is v) := by rfl) (hc : ∀ k, In c k → In chg k := by intro k h; first | exact h.elim | exact h) : HD P ops Q F w0 W m0 n L fs os E i o D :=
  fun a w S _ _ => core_op hk.1 (one_done S h hk.2.1 hk.2.2 ⟨(look_tq he).2 rfl, fun w' _ => (look_tq he).2 rfl⟩ hc)
section
variable {a : Act} {w : World} {L' : List (Nat × Value)} {rs' : List RF}
/-- a head whose value is told by a property -/
theorem hvl (d : Nat) {v : Value} (S : St F w0 m0 n L' rs' os a w) (M : Mm F w0 m0 fs os w) (h : (execOp a.eval o).run P w = .ok (.value v) w) (ht : lookE (tq E) d v w) (hk : ops[i]? = some o ∧ o.guard = none ∧ o.dst = some d ∧ d < n := by exact ⟨rfl, rfl, rfl, by decide⟩) : wpOp P ops Q i (Done o (tq E) (Mm F w0 m0 fs os) n a w) a w :=
  head_op hk.1 hk.2.1 (op_val h (Done.same hk.2.2.1 hk.2.2.2 ht M))
theorem hng (d : Nat) (gd : Nat) {b : Bool} {gv : Value} (S : St F w0 m0 n L' rs' os a w) (M : Mm F w0 m0 fs os w) (hv : look gd L' = some gv) (hw : ¬ gv = .bool b) (ht : lookE (tq E) d undef w)
    (hk : ∃ j p, ops[i]? = some o ∧ o.guard = some (j, b) ∧ ops[j]? = some p ∧ p.dst = some gd ∧ gd < n ∧ o.dst = some d ∧ d < n := by exact ⟨_, _, rfl, rfl, rfl, rfl, by decide, rfl, by decide⟩) : wpOp P ops Q i (Done o (tq E) (Mm F w0 m0 fs os) n a w) a w := by
  obtain ⟨j, p, h1, h2, h3, h4, h5, h6, h7⟩ := hk
  exact head_no h1 h2 h3 h4 (by rw [S.s.size]; exact h5) (S.s.get gd _ hv) hw (Done.same h6 h7 ht M)
theorem hvg (d : Nat) {v : Value} (gd : Nat) {b : Bool} {gv : Value} (S : St F w0 m0 n L' rs' os a w) (M : Mm F w0 m0 fs os w) (hv : look gd L' = some gv) (hw : gv = .bool b) (h : (execOp a.eval o).run P w = .ok (.value v) w) (ht : lookE (tq E) d v w)
    (hk : ∃ j p, ops[i]? = some o ∧ o.guard = some (j, b) ∧ ops[j]? = some p ∧ p.dst = some gd ∧ gd < n ∧ o.dst = some d ∧ d < n := by exact ⟨_, _, rfl, rfl, rfl, rfl, by decide, rfl, by decide⟩) : wpOp P ops Q i (Done o (tq E) (Mm F w0 m0 fs os) n a w) a w := by
  obtain ⟨j, p, h1, h2, h3, h4, h5, h6, h7⟩ := hk
  exact head_yes h1 h2 h3 h4 (by rw [S.s.size]; exact h5) (S.s.get gd _ hv) hw (op_val h (Done.same h6 h7 ht M))
theorem hcl {d : Nat} {f : FuncId} {args : Array Operand} {ats : Array TypeId} {vs : Array Value} {R : Ending → World → Prop} (S : St F w0 m0 n L' rs' os a w) (hc : Calls P f vs w R) (hf : Callable P f)
    (hR : ∀ e w', R e w' → ∃ v, e = .returned v ∧ lookE (tq E) d v w' ∧ Ch (In chg) w w' ∧ Mm F w0 m0 fs os w') (hv : args.toList.map (evS L') = vs.toList.map some := by rfl) (hk : ops[i]? = some ⟨some d, .call ⟨.value (.func f), args, ats⟩, ty, pos, af, none⟩ ∧ d < n := by exact ⟨rfl, by decide⟩) :
    wpOp P ops Q i (Done ⟨some d, .call ⟨.value (.func f), args, ats⟩, ty, pos, af, none⟩ (tq E) (Mm F w0 m0 fs os) n a w) a w :=
  head_op hk.1 rfl (op_call (args_eval S.s hv) hf hc fun e w' he => let ⟨v, h1, h2, h3, h4⟩ := hR e w' he; ⟨v, h1, Done.mk' rfl hk.2 h2 h3 h4⟩)
theorem hcg {d : Nat} (gd : Nat) {j : Nat} {b : Bool} {gv : Value} {f : FuncId} {args : Array Operand} {ats : Array TypeId} {vs : Array Value} {R : Ending → World → Prop} (S : St F w0 m0 n L' rs' os a w) (hgv : look gd L' = some gv) (hw : gv = .bool b) (hc : Calls P f vs w R) (hf : Callable P f) (hv0 : GA True a args.toList vs.toList)
    (hR : ∀ e w', R e w' → ∃ v, e = .returned v ∧ lookE (tq E) d v w' ∧ Ch (In chg) w w' ∧ Mm F w0 m0 fs os w') (hk : ∃ p, ops[i]? = some ⟨some d, .call ⟨.value (.func f), args, ats⟩, ty, pos, af, some (j, b)⟩ ∧ ops[j]? = some p ∧ p.dst = some gd ∧ gd < n ∧ d < n := by exact ⟨_, rfl, rfl, rfl, by decide, by decide⟩) :
    wpOp P ops Q i (Done ⟨some d, .call ⟨.value (.func f), args, ats⟩, ty, pos, af, some (j, b)⟩ (tq E) (Mm F w0 m0 fs os) n a w) a w := by
  obtain ⟨p, h1, h2, h3, h4, h5⟩ := hk
  exact head_yes h1 rfl h2 h3 (by rw [S.s.size]; exact h4) (S.s.get gd _ hgv) hw (op_call (hv0.get trivial) hf hc fun e w' he => let ⟨v, g1, g2, g3, g4⟩ := hR e w' he; ⟨v, g1, Done.mk' rfl h5 g2 g3 g4⟩)
/-- a new block: its number is told -/
theorem hnb (d : Nat) {v : Value} {ob : Obj} (M : Mm F w0 m0 fs os w) (h : (execOp a.eval o).run P w = .ok (.value v) (w.alloc ob)) (ht : Ch (In []) w (w.alloc ob) → lookE (tq E) d v (w.alloc ob)) (hk : ops[i]? = some o ∧ o.guard = none ∧ o.dst = some d ∧ d < n := by exact ⟨rfl, rfl, rfl, by decide⟩) : wpOp P ops Q i (Done o (tq E) (Mm F w0 m0 fs os) n a w) a w :=
  head_op hk.1 hk.2.1 (op_val h (Done.mk' hk.2.2.1 hk.2.2.2 (ht (ch_alloc w ob)) ((ch_alloc w ob).mono fun _ h => h.elim) (M.k0 (ch_alloc w ob))))
end
theorem St.z {a : Act} {w : World} {rs : List RF} {L' : List (Nat × Value)} (_ : St F w0 m0 n L' rs os a w) : ∃ z, z = w.heap.size := ⟨_, rfl⟩
/-! several new blocks: they differ -/
def HDN (A : List Nat) (P : Program) (ops : Array Oper) (Q : Exit → Act → World → Prop) (F : Nat → Prop) (w0 W : World) (m0 : List BS) (n : Nat) (L : List (Nat × Value)) (fs : List RF) (os : List OF) {chg : List BS} (E : List (Nat × Td (In chg))) (i : Nat) (o : Oper) (D : List Nat) : Prop :=
  ∀ a w, St F w0 m0 n (cat (vals E D) L) fs os a w → Ch (In chg) W w → pdeps E a w D → wpOp P ops Q i (DoneN A o (tq E) (Mm F w0 m0 fs os) n a w) a w
def HSN (A : List Nat) (P : Program) (ops : Array Oper) (Q : Exit → Act → World → Prop) (F : Nat → Prop) (w0 W : World) (m0 : List BS) (n : Nat) (L : List (Nat × Value)) (fs : List RF) (os : List OF) {chg : List BS} (E : List (Nat × Td (In chg))) : Nat → List Oper → List (List Nat) → Prop
  | i, o :: r, D :: Ds => HDN A P ops Q F w0 W m0 n L fs os E i o D ∧ HSN A P ops Q F w0 W m0 n L fs os E (i + 1) r Ds
  | _, _, _ => True
theorem HSN.steps {A : List Nat} : ∀ (l : List Oper) (Ds : List (List Nat)) (i : Nat), HSN A P ops Q F w0 W m0 n L fs os E i l Ds → stepsN A P ops Q n L W (tq E) (Mm F w0 m0 fs os) i l Ds
  | [], _, _, _ => by cases ‹List (List Nat)› <;> trivial
  | _ :: _, [], _, _ => trivial
  | o :: r, D :: Ds, i, h => ⟨fun a w hc hm s hd => by
      obtain ⟨h1, h2⟩ := deps_open s D hd
      exact h.1 a w ⟨h1, hm⟩ hc h2, HSN.steps r Ds (i + 1) h.2⟩
/-- new blocks of a region become the call's own -/
theorem St.own {a a0 : Act} {w W : World} {L0 : List (Nat × Value)} (S0 : St F w0 m0 n L0 fs os a0 W) (S : St F w0 m0 n L fs os a w) (js : List Nat) (G : Ch (In (picks (ow os) js)) W w) (hj : ∀ j f, j ∈ js → nth os j = some f → ∀ V1 V2, f.p F V1 w → f.p F V2 w) (nw : List OF) (hsep : Sep (ow nw)) (hn : ∀ k, In (ow nw) k → W.heap.size ≤ k ∧ k < w.heap.size) (hp : ∀ f ∈ nw, ∀ V, f.p F V w) : St F w0 m0 n L fs (os ++ nw) a w := by
  have hin : ∀ k, In (ow nw) k → ¬ In (ow os) k := fun k h1 h2 => by have := hn k h1; have := S0.M.lt k h2; omega
  have hMS : ∀ (x : List BS), Sep x → (∀ k, In x k → W.heap.size ≤ k ∧ k < w.heap.size) → (∀ k, In x k → ¬ In (ow os) k) → MS (x ++ ow os) w := by
    intro x
    induction x with
    | nil => intro _ _ _; exact S.M
    | cons o r ih =>
      intro s h1 h2
      exact (ih s.2 (fun k hk => h1 k (.inr hk)) (fun k hk => h2 k (.inr hk))).cons fun k hk => ⟨(h1 k (.inl hk)).2, fun hm => (in_app.1 hm).elim (s.1 k hk) (h2 k (.inl hk))⟩
  have M := hMS (ow nw) hsep hn hin
  have T : Tr (ow os) W (ow os ++ ow nw) w := Tr.comm ⟨G.mono fun k hk => in_picks hk, fun k hk => (in_app.1 hk).elim (fun h => .inr (hn k h).1) .inl, M⟩
  have T0 : Tr m0 w0 (ow os ++ ow nw) w := Tr.comm ⟨S.m.c.ch, fun k hk => (in_app.1 hk).elim (fun h => .inr (Nat.le_trans S0.m.c.size (hn k h).1)) (S.m.c.sub k), M⟩
  refine ⟨S.s, by rw [ow_app]; exact T0, S.m.f, fun f hf => by rw [ow_app]; exact f.st T.mv (S0.m.r f hf), fun f hf => ?_⟩
  rw [ow_app]
  rcases List.mem_append.1 hf with h | h
  · obtain ⟨i, hi⟩ := idx_of h
    by_cases hc : js.contains i = true
    · exact hj i f (List.contains_iff_mem.1 hc) hi _ _ (S.m.o f h)
    · exact f.st T.mv (fun k hk ho => G.block k hk fun hm => S0.m.sep hi js (by simpa using hc) ho hm) (S0.m.o f h)
  · exact hp f h _
end
end Go.Proofs.Ytobggnpnochnnaa.V
/- A call in a region that draws its order, with operations behind it that may run before it. -/
namespace Go.Proofs.Ytobggnpnochnnaa.V
open Go.RowKit
def pickZ (Z : List (Nat × Value)) (D : List Nat) : List (Nat × Value) := D.filterMap fun k => Z[k]?
section
variable {P : Program} {F : Nat → Prop} {w0 : World} {m0 chg : List BS} {n : Nat} {L : List (Nat × Value)} {rs : List RF} {os ks : List OF} {Q : Exit → Act → World → Prop}
def LZ (P : Program) (n N : Nat) (L : List (Nat × Value)) (F : Nat → Prop) (w0 : World) (m0 : List BS) (rs : List RF) (ks : List OF) (Z : List (Nat × Value)) : List Oper → List (Nat × Value) → List (List Nat) → Prop
  | o :: r, z :: zs, D :: Ds => ((z.1 < n ∧ (D.all fun k => o.after.any fun e => Region.binds .any e && e.on == N + 1 + k) = true) ∧ ∀ fs a w, St F w0 m0 n (pickZ Z D ++ L) rs (ks ++ fs) a w → (execOp a.eval o).run P w = .ok (.value z.2) w) ∧ LZ P n N L F w0 m0 rs ks Z r zs Ds
  | _, _, _ => True
theorem LZ.get {N : Nat} {Z : List (Nat × Value)} : ∀ (r : List Oper) (zs : List (Nat × Value)) (Ds : List (List Nat)) (k : Nat), k < zs.length → zs.length ≤ r.length → Ds.length = zs.length → LZ P n N L F w0 m0 rs ks Z r zs Ds → ∃ o z D, r[k]? = some o ∧ zs[k]? = some z ∧ (z.1 < n ∧ (D.all fun k => o.after.any fun e => Region.binds .any e && e.on == N + 1 + k) = true) ∧ ∀ fs a w, St F w0 m0 n (pickZ Z D ++ L) rs (ks ++ fs) a w → (execOp a.eval o).run P w = .ok (.value z.2) w
  | [], zs, _, _, h, hl, _, _ => by simp at hl; subst hl; simp at h
  | o :: r, [], _, _, h, _, _, _ => by simp at h
  | o :: r, z :: zs, [], _, _, _, hD, _ => by simp at hD
  | o :: r, z :: zs, D :: Ds, 0, _, _, _, h => ⟨o, z, D, rfl, rfl, h.1.1, h.1.2⟩
  | o :: r, z :: zs, D :: Ds, k + 1, hk, hl, hD, h => by
    obtain ⟨o', z', D', h1, h2, h3⟩ := LZ.get r zs Ds k (by simpa using hk) (by simpa using hl) (by simpa using hD) h.2
    exact ⟨o', z', D', by simpa using h1, by simpa using h2, h3⟩
theorem clw {a : Act} {w : World} {K : Act → World → Prop} {d : Nat} {f : FuncId} {args : Array Operand} {ats : Array TypeId} {vs : Array Value} {R : Ending → World → Prop} {ty : TypeId} {pos : String} {af : Array Edge} (S : St F w0 m0 n L rs os a w) (hc : Calls P f vs w R) (hf : Callable P f)
    (hR : ∀ e w', R e w' → ∃ v, e = .returned v ∧ ∀ a', Slots n ((d, v) :: L) a' → K a' w') (hv : args.toList.map (evS L) = vs.toList.map some := by rfl) (hd : d < n := by decide) : Oper.wp P ⟨some d, .call ⟨.value (.func f), args, ats⟩, ty, pos, af, none⟩ a w K Q :=
  op_call (args_eval S.s hv) hf hc fun e w' he => let ⟨v, h1, h2⟩ := hR e w' he; ⟨v, h1, h2 _ (S.s.put hd)⟩
theorem St.put_ne {d : Nat} {a : Act} {w : World} {v : Value} (S : St F w0 m0 n L rs os a w) (hd : look d L = none) : St F w0 m0 n L rs os (a.put (some d) v) w := ⟨S.s.put_ne hd, S.m⟩
/-- a call (or another operation that may not be moved), heads before it, and operations in any order beside all of them, whose values do not depend on the call -/
theorem lzc {γ : Type} {id : Nat} {a : Act} {w : World} {l : List Oper} {t1 : Oper} (S : St F w0 m0 n L rs os a w) (N m : Nat) (chg : List BS) (E : List (Nat × Td (In chg))) (Ds : List (List Nat)) (outs : List Nat) (Z : List (Nat × Value)) (ZD : List (List Nat)) (d : Nat) (rest : List Oper) (ks fs0 : List OF) (v : γ → Value) (fs1 : γ → List OF) (R : γ → Prop)
    (step : HS P l.toArray Q F w0 w m0 n L rs os E 0 (l.take N) Ds) (lzy : LZ P n N L F w0 m0 rs ks Z (l.drop (N + 1)) Z ZD)
    (main : ∀ a w', St F w0 m0 n (cat (vals E outs) L) rs os a w' → Ch (In chg) w w' → pdeps E a w' outs → ∀ K : Act → World → Prop, (∀ g a w, St F w0 m0 n ((d, v g) :: L) rs (ks ++ fs1 g) a w → R g → K a w) → t1.wp P a w' K Q)
    (fin : ∀ g a w, St F w0 m0 n (Z ++ (d, v g) :: L) rs (ks ++ fs1 g) a w → R g → wpList P l.toArray Q rest a w)
    (hos : os = ks ++ fs0 := by rfl) (ht1 : l[N]? = some t1 := by rfl) (hg1 : t1.guard = none ∧ t1.dst = some d := by exact ⟨rfl, rfl⟩) (hrest : rest = l.drop (N + m + 1) := by rfl) (hm : P.follows .mixedOrders = true := by exact mixed)
    (hok : (headOk l.toArray N && depsOk l.toArray N 0 Ds && keysOk l.toArray N L && outsOk l.toArray N outs && lazyOk l.toArray N m L Z) = true := by kernel_rfl) (hlen : Ds.length = N := by rfl) (hZ : Z.length = m := by rfl) (hZD : ZD.length = m := by rfl) (hzk : Z.all (fun z => z.1 != d && (look z.1 L).isNone) = true := by kernel_rfl) : (Code.region id l.toArray true).wp P Q a w := by
  have hzn : ∀ z ∈ Z, ∀ g, look z.1 ((d, v g) :: L) = none := fun z hz g => by
    have := List.all_eq_true.1 hzk z hz
    simp only [Bool.and_eq_true, bne_iff_ne, Option.isNone_iff_eq_none] at this
    rw [look_cons, if_neg (fun e => this.1 e.symm)]; exact this.2
  have hsz : N + m + 1 < l.length := by
    have h := hok
    simp only [Bool.and_eq_true, lazyOk, decide_eq_true_eq] at h
    simpa using h.2.1.1.1.1.1.1.1.1
  have hL : ∀ g a, Slots n ((d, v g) :: L) a → Slots n L a := fun g a s => ⟨s.size, s.defers, fun i u hu => s.get i u (by
    rw [look_cons]
    by_cases e : d = i
    · subst e
      exfalso
      have h := hok
      simp only [Bool.and_eq_true, lazyOk] at h
      have q := List.all_eq_true.1 h.2.1.1.1.2 _ (look_mem hu)
      have q2 := List.all_eq_true.1 q N (List.mem_range.2 (by omega))
      rw [show l.toArray[N]? = some t1 from by simpa using ht1] at q2
      simp [hg1.2] at q2
    · rw [if_neg e]; exact hu)⟩
  refine wp_lazyI (LW := fun w => ∃ fs, Mm F w0 m0 rs (ks ++ fs) w) S.s N m (tq E) (Mm F w0 m0 rs os) Ds outs Z t1 rest (fun a w => ∃ g, St F w0 m0 n ((d, v g) :: L) rs (ks ++ fs1 g) a w ∧ R g) ht1 hg1.1 hrest hm hok hlen hZ S.m.drew (HS.steps _ _ _ step) (fun k hk => ?_) (fun w M => ⟨fs0, hos ▸ M⟩) (fun a w ⟨g, S', _⟩ => ⟨_, S'.m⟩) ?_ ?_ (fun a w ⟨g, S', _⟩ => hL g a S'.s) ?_
  · obtain ⟨o, z, D, e1, e2, ⟨e3, e4⟩, e5⟩ := LZ.get (P := P) (l.drop (N + 1)) Z ZD k (by omega) (by simp; omega) (by omega) lzy
    rw [List.getElem?_drop] at e1
    refine ⟨o, z, D, e1, e2, e3, fun k' hk' => ?_, fun a w s ⟨fs, M⟩ hD => e5 fs a w ⟨s.both ⟨s.size, s.defers, fun i u h => ?_⟩, M⟩⟩
    · have := List.all_eq_true.1 e4 k' hk'
      obtain ⟨e, he, hb⟩ := Array.any_eq_true'.1 this
      simp only [Bool.and_eq_true, beq_iff_eq] at hb
      exact ⟨e, he, hb.1, hb.2⟩
    · obtain ⟨k', hk', hz'⟩ := List.mem_filterMap.1 (look_mem h)
      exact hD k' hk' _ hz'
  · intro a w' hc hM s hd
    obtain ⟨h1, h2⟩ := deps_open s outs hd
    exact main a w' ⟨h1, hM⟩ hc h2 _ fun g a w S' hR => ⟨g, S', hR⟩
  · rintro a w d' v' ⟨k, z, hz, rfl⟩ ⟨g, S', hR⟩
    exact ⟨g, S'.put_ne (hzn z (List.mem_of_getElem? hz) g), hR⟩
  · rintro a w ⟨g, S', hR⟩ sZ
    exact fin g a w ⟨S'.s.both sZ, S'.m⟩ hR
end
end Go.Proofs.Ytobggnpnochnnaa.V
set_option linter.unusedVariables false
set_option linter.unusedSimpArgs false
/- Arithmetic on bits and without bounds; a part of an element of a row is written. -/
namespace Go.Proofs.Ytobggnpnochnnaa.V
open Go.RowKit
theorem wu32 (x : Int) : inU32 (IntKind.u32.wrap x) := by
  unfold IntKind.wrap; simp [IntKind.signed, IntKind.bits]; omega
theorem wu64 (x : Int) : inU64 (IntKind.u64.wrap x) := by
  unfold IntKind.wrap; simp [IntKind.signed, IntKind.bits]; omega
theorem wu8 (x : Int) : inU8 (IntKind.u8.wrap x) := by
  unfold IntKind.wrap; simp [IntKind.signed, IntKind.bits]; omega
def bOr (k : IntKind) (x y : Int) : Int := k.wrap ((BitVec.ofInt k.bits x ||| BitVec.ofInt k.bits y).toNat : Int)
def bXor (k : IntKind) (x y : Int) : Int := k.wrap ((BitVec.ofInt k.bits x ^^^ BitVec.ofInt k.bits y).toNat : Int)
def bAnd (k : IntKind) (x y : Int) : Int := k.wrap ((BitVec.ofInt k.bits x &&& BitVec.ofInt k.bits y).toNat : Int)
def sHl (k : IntKind) (x n : Int) : Int := k.wrap (x * 2 ^ (min n.toNat k.bits))
def sHr (k : IntKind) (x n : Int) : Int := x.fdiv (2 ^ (min n.toNat k.bits))
theorem sHr_in {k : IntKind} {x n m : Int} (h : 0 ≤ x ∧ x ≤ m) : 0 ≤ sHr k x n ∧ sHr k x n ≤ m := by
  unfold sHr
  have hp : (0 : Int) < 2 ^ (min n.toNat k.bits) := Int.pow_pos (by decide)
  rw [Int.fdiv_eq_ediv_of_nonneg _ (Int.le_of_lt hp)]
  exact ⟨Int.ediv_nonneg h.1 (Int.le_of_lt hp), Int.le_trans (Int.ediv_le_self _ h.1) h.2⟩
section
variable {P : Program} {a : Act} {w : World} {d : Option Tmp} {ty : TypeId} {pos : String} {af : Array Edge} {g : Option (Nat × Bool)} {x y : Operand} {xt yt : TypeId} {k k' : IntKind} {m p : Int}
theorem x_bor (hx : a.eval x = .int k m) (hy : a.eval y = .int k p) : (execOp a.eval ⟨d, .binOp .or xt x y yt, ty, pos, af, g⟩).run P w = .ok (.value (.int k (bOr k m p))) w := by simp [execOp, eqGuard, binOp, Op.intBits, hx, hy, bOr]
theorem x_bxor (hx : a.eval x = .int k m) (hy : a.eval y = .int k p) : (execOp a.eval ⟨d, .binOp .xor xt x y yt, ty, pos, af, g⟩).run P w = .ok (.value (.int k (bXor k m p))) w := by simp [execOp, eqGuard, binOp, Op.intBits, hx, hy, bXor]
theorem x_band (hx : a.eval x = .int k m) (hy : a.eval y = .int k p) : (execOp a.eval ⟨d, .binOp .and xt x y yt, ty, pos, af, g⟩).run P w = .ok (.value (.int k (bAnd k m p))) w := by simp [execOp, eqGuard, binOp, Op.intBits, hx, hy, bAnd]
theorem x_shl (hx : a.eval x = .int k m) (hy : a.eval y = .int k' p) (h0 : 0 ≤ p) : (execOp a.eval ⟨d, .binOp .shl xt x y yt, ty, pos, af, g⟩).run P w = .ok (.value (.int k (sHl k m p))) w := by
  have : ¬ p < 0 := by omega
  simp [execOp, eqGuard, binOp, Op.shift, hx, hy, sHl, this]
theorem x_shr (hx : a.eval x = .int k m) (hy : a.eval y = .int k' p) (h0 : 0 ≤ p) : (execOp a.eval ⟨d, .binOp .shr xt x y yt, ty, pos, af, g⟩).run P w = .ok (.value (.int k (sHr k m p))) w := by
  have : ¬ p < 0 := by omega
  simp [execOp, eqGuard, binOp, Op.shift, hx, hy, sHr, this]
end
theorem retcw2 {P : Program} {n : Nat} {L : List (Nat × Value)} {a : Act} {w : World} {fn : Func} {R : Ending → World → Prop} {t t' T : Nat} {b : Nat} {v' : Value} {cs : List Value} (hr : fn.results = #[.cell t T, .tmp t']) (S : Slots n L a) (hv : look t L = some (.pointer (some ⟨b, 0, none⟩))) (hv' : look t' L = some v') (hc : ∀ j v, cs[j]? = some v → hcell w.heap b (0 + j) = some v) (hs : Wide P T cs.length) (h : R (.returned (.tuple #[.agg cs.toArray, v'])) w) : bodyPost P fn R .ret a w := by
  refine ⟨S.defers, _, ?_, h⟩
  have hl := run_loadVar_wide (P := P) (w := w) cs hs hc
  have h1 := S.get t _ hv
  have h2 := S.get t' _ hv'
  simp only [Array.getD_eq_getD_getElem?] at h1 h2
  simp [results, hr, h1, h2, asAddr, hl]
end Go.Proofs.Ytobggnpnochnnaa.V
/- Regions that draw their order and make several rows of their own: which blocks differ. -/
namespace Go.Proofs.Ytobggnpnochnnaa.V
open Go.RowKit
section
variable {P : Program}
theorem head_main3 {ops : Array Oper} {n : Nat} {Q : Exit → Act → World → Prop} {E : Nat → Value → World → Prop} {C : Array Bool → Act → World → Prop} {a₀ : Act} (tail : List Oper) (htl : tail = ops.toList.drop n) (hok : headOk ops n = true) (htail : tailOk ops n = true)
    (step : ∀ i, i < n → ∀ o, ops[i]? = some o → ∀ (listed : Array Bool) a w, listed.getD i true = false → (∀ e ∈ o.after, Region.binds .any e = true → listed.getD e.on false = true) → listed.size = ops.size → C listed a w → HeadState ops n E a₀ listed a w → a.tmps.size = a₀.tmps.size → a.defers = a₀.defers → (∀ t, (∀ j, j < n → ∀ o, ops[j]? = some o → o.dst ≠ some t) → a.tmps.getD t undef = a₀.tmps.getD t undef) →
      (∀ j p d, j < n → ops[j]? = some p → p.dst = some d → d ∈ o.looksAt ops → E d (a.tmps.getD d undef) w) →
      wpOp P ops Q i (fun a' w' => (∃ v, a' = a.put o.dst v ∧ (∀ d, o.dst = some d → d < a.tmps.size ∧ E d v w')) ∧ C (listed.setIfInBounds i true) a' w' ∧ ∀ t v, E t v w → E t v w') a w)
    (fin : ∀ a w, C (Array.replicate n true ++ Array.replicate (ops.size - n) false) a w → HeadState ops n E a₀ (Array.replicate n true) a w → wpList P ops Q tail a w) :
    ∀ (f : Nat) (listed : Array Bool) (a : Act) (w : World), left n listed = f → HeadInv .any ops n listed → C listed a w → HeadState ops n E a₀ listed a w → wpAny P .any ops Q (f + (ops.size - n)) listed a w := by
  simp only [tailOk, Bool.and_eq_true, decide_eq_true_eq] at htail
  obtain ⟨⟨hn, hsc⟩, hseq⟩ := htail
  intro f
  induction f with
  | zero =>
    intro listed a w hf inv hC st
    have hall := left_zero hf
    have hl : listed = Array.replicate n true ++ Array.replicate (ops.size - n) false := by
      apply Array.ext
      · simp [inv.size]; omega
      · intro i h1 h2
        by_cases hi : i < n
        · have h3 := hall i hi
          simp [h1] at h3
          simp [Array.getElem_append, hi, h3]
        · have h3 := inv.tail i (by omega) (by rw [← inv.size]; exact h1)
          simp [h1] at h3
          simp [Array.getElem_append, hi, h3]
    subst hl
    have hlen : tail.length = ops.size - n := by rw [htl]; simp
    have h := wpAny_of_seq (P := P) (ops := ops) (md := .any) (Q' := Q) tail n (Array.replicate n true ++ Array.replicate (ops.size - n) false) a w (fun j => by rw [htl, List.getElem?_drop, Array.getElem?_toList]) (by rw [hlen]; exact hseq) (fin a w hC
      ⟨st.size, st.defers, st.base, fun j hj _ o d ho hd => st.done j hj (by simp [Array.getElem?_append, hj]) o d ho hd⟩)
    rw [hlen] at h
    rw [Nat.zero_add]
    exact h
  | succ f ih =>
    intro listed a w hf inv hC st
    rw [show f + 1 + (ops.size - n) = (f + (ops.size - n)) + 1 from by omega]
    obtain ⟨j, hjn, hjl, hjmin⟩ := left_pos (n := n) (listed := listed) (by omega)
    have hget : ∀ i, i < n → ∃ o, ops[i]? = some o := fun i hi => ⟨_, Array.getElem?_eq_getElem (Nat.lt_of_lt_of_le hi hn)⟩
    have hready : j ∈ Region.ready .any ops listed := by
      obtain ⟨o, ho⟩ := hget j hjn
      refine mem_ready.2 ⟨hjl, o, ho, fun e he hb => ?_⟩
      have h1 := List.all_eq_true.1 hok j (List.mem_range.2 hjn)
      simp only [ho, Bool.and_eq_true] at h1
      have h2 := Array.all_eq_true_iff_forall_mem.1 h1.1 e he
      simp only [hb, Bool.not_true, Bool.false_or, decide_eq_true_eq] at h2
      have h3 := hjmin e.on h2
      have h4 : e.on < listed.size := by rw [inv.size]; omega
      simp [h4] at h3 ⊢
      exact h3
    refine ⟨fun h => (by rw [h] at hready; cases hready), fun i hi => ?_⟩
    have hin : i < n := by
      rcases hsc' : (n == ops.size) with _ | _
      · rw [hsc', Bool.false_or, Bool.and_eq_true] at hsc
        have hlt : n < ops.size := by
          have : n ≠ ops.size := by simpa using hsc'
          omega
        exact Nat.lt_of_not_le fun h => tail_waits hsc.1 hsc.2 hlt inv _ j rfl hjn hjl i h hi
      · have : n = ops.size := by simpa using hsc'
        obtain ⟨_, o, ho, _⟩ := mem_ready.1 hi
        have := (Array.getElem?_eq_some_iff.1 ho).1
        omega
    obtain ⟨hil, o, ho, hall⟩ := mem_ready.1 hi
    refine wpOp_mono ?_ (step i hin o ho listed a w hil hall inv.size hC st st.size st.defers st.base ?_)
    · rintro a' w' ⟨⟨v, rfl, hv⟩, hC', hmono⟩
      have hl' := left_set hin hil
      refine ih (listed.setIfInBounds i true) _ w' (by omega) (inv.set hi hin) hC' ⟨?_, ?_, ?_, ?_⟩
      · cases o.dst <;> simp [Act.put, st.size]
      · cases o.dst <;> simp [Act.put, st.defers]
      · intro t ht
        rw [← st.base t ht]
        have hne := ht i hin o ho
        cases hd : o.dst with
        | none => rfl
        | some d =>
          have : d ≠ t := fun e => hne (by rw [hd, e])
          simp [Act.put, Array.getElem?_setIfInBounds_ne this]
      · intro k hk hkl p d hp hd
        by_cases hki : k = i
        · subst hki
          obtain rfl : o = p := Option.some.inj (ho.symm.trans hp)
          obtain ⟨h1, h2⟩ := hv d hd
          rw [hd, getD_put a d d v h1, if_pos rfl]
          exact h2
        · rw [getD_set_ne false (Ne.symm hki)] at hkl
          have h1 := hmono d _ (st.done k hk hkl p d hp hd)
          have hdist : o.dst ≠ some d := by
            have g1 := List.all_eq_true.1 hok i (List.mem_range.2 hin)
            simp only [ho, Bool.and_eq_true] at g1
            have g2 := List.all_eq_true.1 g1.2 k (List.mem_range.2 hk)
            simp only [hp, hd, Bool.and_eq_true, Bool.or_eq_true, beq_iff_eq, bne_iff_ne, Option.isNone_some, Bool.false_eq_true, or_false] at g2
            exact fun e => (g2.1.resolve_left hki) e.symm
          cases hod : o.dst with
          | none => exact h1
          | some d' =>
            have : d' ≠ d := fun e => hdist (by rw [hod, e])
            rw [show (a.put (some d') v).tmps.getD d undef = a.tmps.getD d undef from by simp [Act.put, Array.getElem?_setIfInBounds_ne this]]
            exact h1
    · intro k p d hk hp hd hlook
      have g1 := List.all_eq_true.1 hok i (List.mem_range.2 hin)
      simp only [ho, Bool.and_eq_true] at g1
      have g2 := List.all_eq_true.1 g1.2 k (List.mem_range.2 hk)
      simp only [hp, hd, Bool.and_eq_true, Bool.or_eq_true, Bool.not_eq_true'] at g2
      rcases g2.2 with g3 | g3
      · rw [List.contains_eq_mem] at g3
        simp [hlook] at g3
      · obtain ⟨e, he, hb⟩ := Array.any_eq_true'.1 g3
        simp only [Bool.and_eq_true, beq_iff_eq] at hb
        exact st.done k hk (by rw [← hb.2]; exact hall e he hb.1) p d hp hd
theorem wp_region_heads3 {id : Nat} {Q : Exit → Act → World → Prop} {a₀ : Act} {w : World} {l : List Oper} (n : Nat) (E : Nat → Value → World → Prop) (C : Array Bool → Act → World → Prop) (tail : List Oper) (htl : tail = l.drop n) (hm : P.follows .mixedOrders = true) (hok : headOk l.toArray n = true) (htail : tailOk l.toArray n = true)
    (hC : C (Array.replicate l.length false) a₀ { w with drawn := w.drawn + 1 })
    (step : ∀ i, i < n → ∀ o, l.toArray[i]? = some o → ∀ (listed : Array Bool) a w, listed.getD i true = false → (∀ e ∈ o.after, Region.binds .any e = true → listed.getD e.on false = true) → listed.size = l.length → C listed a w → HeadState l.toArray n E a₀ listed a w → a.tmps.size = a₀.tmps.size → a.defers = a₀.defers → (∀ t, (∀ j, j < n → ∀ o, l.toArray[j]? = some o → o.dst ≠ some t) → a.tmps.getD t undef = a₀.tmps.getD t undef) →
      (∀ j p d, j < n → l.toArray[j]? = some p → p.dst = some d → d ∈ o.looksAt l.toArray → E d (a.tmps.getD d undef) w) →
      wpOp P l.toArray Q i (fun a' w' => (∃ v, a' = a.put o.dst v ∧ (∀ d, o.dst = some d → d < a.tmps.size ∧ E d v w')) ∧ C (listed.setIfInBounds i true) a' w' ∧ ∀ t v, E t v w → E t v w') a w)
    (fin : ∀ a w, C (Array.replicate n true ++ Array.replicate (l.length - n) false) a w → HeadState l.toArray n E a₀ (Array.replicate n true) a w → wpList P l.toArray Q tail a w) : (Code.region id l.toArray true).wp P Q a₀ w := by
  refine wp_region_any hm ?_
  have hn : n ≤ l.length := by
    simp only [tailOk, Bool.and_eq_true, decide_eq_true_eq] at htail
    simpa using htail.1.1
  have inv0 : HeadInv .any l.toArray n (Array.replicate l.toArray.size false) :=
    ⟨by simp, fun j oj _ hl => (by rw [getD_replicate_false] at hl; cases hl), fun t _ ht => getD_in (by simpa using ht) (getD_replicate_false _ _)⟩
  have hleft : left n (Array.replicate l.toArray.size false) = n := by
    unfold left
    rw [List.filter_eq_self.2]
    · simp
    · intro j hj
      have := List.mem_range.1 hj
      rw [getD_in (by simp; omega) (getD_replicate_false _ _)]
      rfl
  have h := head_main3 (P := P) (Q := Q) (E := E) (C := C) (a₀ := a₀) tail (by simpa using htl) hok htail step fin n (Array.replicate l.toArray.size false) a₀ { w with drawn := w.drawn + 1 } hleft inv0 hC
    ⟨rfl, rfl, fun _ _ => rfl, fun j _ hl => (by rw [getD_replicate_false] at hl; cases hl)⟩
  rwa [show n + (l.toArray.size - n) = l.toArray.size from by simp; omega] at h
end
def blks : Value → Nat → Prop
  | .agg vs => fun k => ∃ v ∈ vs.toList, blkOf v = some k
  | v => fun k => blkOf v = some k
def Ap (ap : List (Nat × Nat)) (d e : Nat) : Bool := ap.contains (d, e) || ap.contains (e, d)
theorem Ap.symm {ap : List (Nat × Nat)} {d e : Nat} (h : Ap ap d e = true) : Ap ap e d = true := by unfold Ap at *; rw [Bool.or_comm]; exact h
def PairD (A : List Nat) (ap : List (Nat × Nat)) (D : List Nat) (a : Act) : Prop := ∀ d e, (D.contains d && D.contains e && A.contains d && A.contains e && Ap ap d e) = true → ∀ b, blks (a.tmps.getD d undef) b → ¬ blks (a.tmps.getD e undef) b
structure DoneC {M : Nat → Prop} (A : List Nat) (cls : List (Nat × Nat)) (D : List Nat) (o : Oper) (E : List (Nat × StP M)) (I : World → Prop) (N : Nat) (a : Act) (w : World) (a' : Act) (w' : World) : Prop where
  put : ∃ v, a' = a.put o.dst v ∧ ∀ d, o.dst = some d → d < N ∧ lookE E d v w' ∧ (d ∈ A → ∀ b, blks v b → w.heap.size ≤ b ∨ ∃ e, e ∈ D ∧ e ∈ A ∧ (∀ k, k ∈ A → Ap cls d k = true → Ap cls e k = true) ∧ blks (a.tmps.getD e undef) b)
  ch : Ch M w w'
  inv : I w'
def stepsC {M : Nat → Prop} (A : List Nat) (cls : List (Nat × Nat)) (P : Program) (ops : Array Oper) (Q : Exit → Act → World → Prop) (N : Nat) (L : List (Nat × Value)) (W : World) (E : List (Nat × StP M)) (I : World → Prop) : Nat → List Oper → List (List Nat) → Prop
  | i, o :: r, D :: Ds => (∀ a w, Ch M W w → I w → Slots N L a → deps E a w D → PairD A cls D a → wpOp P ops Q i (DoneC A cls D o E I N a w) a w) ∧ stepsC A cls P ops Q N L W E I (i + 1) r Ds
  | _, _, _ => True
def PairsC (A : List Nat) (cls : List (Nat × Nat)) (ops : Array Oper) (n : Nat) (listed : Array Bool) (a : Act) : Prop :=
  ∀ j k p q d e, j < n → k < n → listed.getD j false = true → listed.getD k false = true → ops[j]? = some p → ops[k]? = some q → p.dst = some d → q.dst = some e → d ∈ A → e ∈ A → Ap cls d e = true → ∀ b, blks (a.tmps.getD d undef) b → ¬ blks (a.tmps.getD e undef) b
theorem stepsC_get {M : Nat → Prop} {A : List Nat} {cls : List (Nat × Nat)} {P : Program} {ops : Array Oper} {Q : Exit → Act → World → Prop} {N : Nat} {L : List (Nat × Value)} {W : World} {E : List (Nat × StP M)} {I : World → Prop} : ∀ (l : List Oper) (Ds : List (List Nat)) (k i : Nat), i < Ds.length → l.length = Ds.length →
    stepsC A cls P ops Q N L W E I k l Ds → ∃ o D, l[i]? = some o ∧ Ds[i]? = some D ∧ ∀ a w, Ch M W w → I w → Slots N L a → deps E a w D → PairD A cls D a → wpOp P ops Q (k + i) (DoneC A cls D o E I N a w) a w
  | [], Ds, _, i, h, hl, _ => by simp at hl; omega
  | o :: l, [], _, i, h, _, _ => by simp at h
  | o :: l, D :: Ds, k, 0, _, _, h => ⟨o, D, rfl, rfl, h.1⟩
  | o :: l, D :: Ds, k, i + 1, hi, hl, h => by
    obtain ⟨o', D', h1, h2, h3⟩ := stepsC_get l Ds (k + 1) i (by simpa using hi) (by simpa using hl) h.2
    exact ⟨o', D', by simpa using h1, by simpa using h2, by rw [show k + (i + 1) = k + 1 + i from by omega]; exact h3⟩
theorem heads3_step {M : Nat → Prop} {P : Program} {Q : Exit → Act → World → Prop} {a₀ : Act} {w : World} {l : List Oper} {N : Nat} {L : List (Nat × Value)} (S : Slots N L a₀) (n : Nat) (E : List (Nat × StP M)) (I : World → Prop) (Ds : List (List Nat)) (A : List Nat) (cls : List (Nat × Nat)) (hirr : ∀ d ∈ A, Ap cls d d = false) (hA : ∀ d ∈ A, ∀ u w, lookE E d u w → ∀ x, blks u x → x < w.heap.size)
    (h1 : headOk l.toArray n = true) (h2 : depsOk l.toArray n 0 Ds = true) (h3 : keysOk l.toArray n L = true) (hlen : Ds.length = n) (hn : n ≤ l.length)
    (step : stepsC A cls P l.toArray Q N L w E I 0 (l.take n) Ds) :
    ∀ i, i < n → ∀ o, l.toArray[i]? = some o → ∀ (listed : Array Bool) a w', listed.getD i true = false → (∀ e ∈ o.after, Region.binds .any e = true → listed.getD e.on false = true) → listed.size = l.length → ((Ch M w w' ∧ I w') ∧ PairsC A cls l.toArray n listed a) → HeadState l.toArray n (lookE E) a₀ listed a w' → a.tmps.size = a₀.tmps.size → a.defers = a₀.defers → (∀ t, (∀ j, j < n → ∀ o, l.toArray[j]? = some o → o.dst ≠ some t) → a.tmps.getD t undef = a₀.tmps.getD t undef) →
      (∀ j p d, j < n → l.toArray[j]? = some p → p.dst = some d → d ∈ o.looksAt l.toArray → lookE E d (a.tmps.getD d undef) w') →
      wpOp P l.toArray Q i (fun a' w2 => (∃ v, a' = a.put o.dst v ∧ (∀ d, o.dst = some d → d < a.tmps.size ∧ lookE E d v w2)) ∧ ((Ch M w w2 ∧ I w2) ∧ PairsC A cls l.toArray n (listed.setIfInBounds i true) a') ∧ ∀ t v, lookE E t v w' → lookE E t v w2) a w' := by
  intro i hi o ho listed a w' hil hrdy hls hC0 hst hs hd hb hE
  obtain ⟨hC, hP⟩ := hC0
  obtain ⟨o', D, e1, e2, h⟩ := stepsC_get (l.take n) Ds 0 i (by omega) (by simp; omega) step
  obtain rfl : o' = o := by
    rw [List.getElem?_take_of_lt hi] at e1
    have : l.toArray[i]? = l[i]? := by simp
    rw [this, e1] at ho
    exact Option.some.inj ho
  have hdep : ∀ D', (∀ d ∈ D', d ∈ D) → deps E a w' D' := by
    intro D'
    induction D' with
    | nil => intro _; trivial
    | cons d r ih =>
      intro hsub
      refine ⟨?_, ih fun d hd => hsub d (List.mem_cons_of_mem _ hd)⟩
      have hget : ∀ (Ds : List (List Nat)) (k i : Nat), depsOk l.toArray n k Ds = true → Ds[i]? = some D → ∃ o, l.toArray[k + i]? = some o ∧ ∀ d ∈ D, d ∈ o.looksAt l.toArray ∧ isHead l.toArray n d = true := by
        intro Ds
        induction Ds with
        | nil => intro k i _ h; simp at h
        | cons D0 Ds ih =>
          intro k i hk hi
          simp only [depsOk, Bool.and_eq_true] at hk
          cases i with
          | zero =>
            obtain rfl : D0 = D := by simpa using hi
            cases hp : l.toArray[k]? with
            | none => rw [hp] at hk; cases hk.1
            | some p =>
              rw [hp] at hk
              refine ⟨p, rfl, fun d hd => ?_⟩
              have := List.all_eq_true.1 hk.1 d hd
              simpa [Bool.and_eq_true, List.contains_iff_mem] using this
          | succ i =>
            obtain ⟨o, g1, g2⟩ := ih (k + 1) i hk.2 (by simpa using hi)
            exact ⟨o, by rw [show k + (i + 1) = k + 1 + i from by omega]; exact g1, g2⟩
      obtain ⟨o2, g1, g2⟩ := hget Ds 0 i h2 e2
      rw [Nat.zero_add, ho] at g1
      obtain rfl := Option.some.inj g1
      obtain ⟨g3, g4⟩ := g2 d (hsub d List.mem_cons_self)
      obtain ⟨j, p, g5, g6, g7⟩ := isHead_spec g4
      exact hE j p d g5 g6 g7 g3
  have look_hd : ∀ e, e ∈ D → ∃ j p, j < n ∧ l.toArray[j]? = some p ∧ p.dst = some e ∧ listed.getD j false = true := fun e he => by
    have hget : ∀ (Ds : List (List Nat)) (k i : Nat), depsOk l.toArray n k Ds = true → Ds[i]? = some D → ∃ o, l.toArray[k + i]? = some o ∧ ∀ d ∈ D, d ∈ o.looksAt l.toArray ∧ isHead l.toArray n d = true := by
      intro Ds
      induction Ds with
      | nil => intro k i _ h; simp at h
      | cons D0 Ds ih =>
        intro k i hk hi
        simp only [depsOk, Bool.and_eq_true] at hk
        cases i with
        | zero =>
          obtain rfl : D0 = D := by simpa using hi
          cases hp : l.toArray[k]? with
          | none => rw [hp] at hk; cases hk.1
          | some p =>
            rw [hp] at hk
            refine ⟨p, rfl, fun d hd => ?_⟩
            have := List.all_eq_true.1 hk.1 d hd
            simpa [Bool.and_eq_true, List.contains_iff_mem] using this
        | succ i =>
          obtain ⟨o, g1, g2⟩ := ih (k + 1) i hk.2 (by simpa using hi)
          exact ⟨o, by rw [show k + (i + 1) = k + 1 + i from by omega]; exact g1, g2⟩
    obtain ⟨o2, g1, g2⟩ := hget Ds 0 i h2 e2
    rw [Nat.zero_add, ho] at g1
    obtain rfl := Option.some.inj g1
    obtain ⟨g3, g4⟩ := g2 e he
    obtain ⟨j, p, g5, g6, g7⟩ := isHead_spec g4
    refine ⟨j, p, g5, g6, g7, ?_⟩
    have q1 := List.all_eq_true.1 h1 i (List.mem_range.2 hi)
    simp only [ho, Bool.and_eq_true] at q1
    have q2 := List.all_eq_true.1 q1.2 j (List.mem_range.2 g5)
    simp only [g6, g7, Bool.and_eq_true, Bool.or_eq_true, Bool.not_eq_true'] at q2
    rcases q2.2 with q3 | q3
    · rw [List.contains_eq_mem] at q3; simp [g3] at q3
    · obtain ⟨ed, he1, hb1⟩ := Array.any_eq_true'.1 q3
      simp only [Bool.and_eq_true, beq_iff_eq] at hb1
      rw [← hb1.2]
      exact hrdy ed he1 hb1.1
  have hpd : PairD A cls D a := fun d e hde => by
    simp only [Bool.and_eq_true, List.contains_iff_mem] at hde
    obtain ⟨j', p', g5, g6, g7, g8⟩ := look_hd d hde.1.1.1.1
    obtain ⟨k', q', f5, f6, f7, f8⟩ := look_hd e hde.1.1.1.2
    exact hP j' k' p' q' d e g5 f5 g8 f8 g6 f6 g7 f7 hde.1.1.2 hde.1.2 hde.2
  have h' := h a w' hC.1 hC.2 (S.base h3 hs hd hb) (hdep D fun d hd => hd) hpd
  rw [Nat.zero_add] at h'
  refine wpOp_mono ?_ h'
  rintro a' w2 ⟨⟨v, hv, hd'⟩, hc, hi'⟩
  refine ⟨⟨v, hv, fun d hdd => ⟨by rw [hs, S.size]; exact (hd' d hdd).1, (hd' d hdd).2.1⟩⟩, ⟨⟨hC.1.same hc, hi'⟩, ?_⟩, fun t v => lookE_st E t v _ _ hc⟩
  subst hv
  have own : ∀ d, o'.dst = some d → (a.put o'.dst v).tmps.getD d undef = v := fun d hd => by
    rw [hd, getD_put a d d v (by rw [hs, S.size]; exact (hd' d hd).1), if_pos rfl]
  have other : ∀ d, o'.dst ≠ some d → (a.put o'.dst v).tmps.getD d undef = a.tmps.getD d undef := fun d hd => by
    cases hod : o'.dst with
    | none => rfl
    | some d' =>
      have : d' ≠ d := fun e => hd (by rw [hod, e])
      simp [Act.put, Array.getElem?_setIfInBounds_ne this]
  have apart : ∀ k q e, k < n → listed.getD k false = true → l.toArray[k]? = some q → q.dst = some e → e ∈ A → ∀ d, o'.dst = some d → d ∈ A → Ap cls d e = true → ∀ b, blks v b → ¬ blks (a.tmps.getD e undef) b := fun k q e hk hl hq he hA' d hd hdA hcl b hb hx => by
    have hlt := hA e hA' _ w' (hst.done k hk hl q e hq he) b hx
    rcases (hd' d hd).2.2 hdA b hb with hb2 | ⟨e', he1, he2, he3, he4⟩
    · omega
    · obtain ⟨j', p', g5, g6, g7, g8⟩ := look_hd e' he1
      exact hP j' k p' q e' e g5 hk g8 hl g6 hq g7 he he2 hA' (he3 e hA' hcl) b he4 hx
  intro j k p q d e hj hk hlj hlk hp hq hd2 he hdA heA hne
  by_cases hji : j = i
  · subst hji
    obtain rfl : o' = p := Option.some.inj (ho.symm.trans hp)
    by_cases hki : k = j
    · subst hki
      obtain rfl : o' = q := Option.some.inj (ho.symm.trans hq)
      rw [hd2] at he; have e0 := Option.some.inj he; subst e0; exact absurd hne (by rw [hirr d hdA]; simp)
    · rw [getD_set_ne false (Ne.symm hki)] at hlk
      rw [own d hd2, other e (headOk_dst h1 hj hk ho hq he hki)]
      exact apart k q e hk hlk hq he heA d hd2 hdA hne
  · rw [getD_set_ne false (Ne.symm hji)] at hlj
    by_cases hki : k = i
    · subst hki
      obtain rfl : o' = q := Option.some.inj (ho.symm.trans hq)
      rw [own e he, other d (headOk_dst h1 hk hj ho hp hd2 hji)]
      exact fun b h1' h2' => apart j p d hj hlj hp hd2 hdA e he heA (Ap.symm hne) b h2' h1'
    · rw [getD_set_ne false (Ne.symm hki)] at hlk
      rw [other d (headOk_dst h1 hi hj ho hp hd2 hji), other e (headOk_dst h1 hi hk ho hq he hki)]
      exact hP j k p q d e hj hk hlj hlk hp hq hd2 he hdA heA hne
theorem wp_heads3 {M : Nat → Prop} {P : Program} {id : Nat} {Q : Exit → Act → World → Prop} {a₀ : Act} {w : World} {l : List Oper} {N : Nat} {L : List (Nat × Value)} (S : Slots N L a₀) (n : Nat) (E : List (Nat × StP M)) (I : World → Prop) (Ds : List (List Nat)) (outs : List Nat) (A : List Nat) (cls : List (Nat × Nat)) (hirr : ∀ d ∈ A, Ap cls d d = false) (hA : ∀ d ∈ A, ∀ u w, lookE E d u w → ∀ x, blks u x → x < w.heap.size) (tail : List Oper)
    (htl : tail = l.drop n) (hm : P.follows .mixedOrders = true) (hok : (headOk l.toArray n && depsOk l.toArray n 0 Ds && keysOk l.toArray n L && outsOk l.toArray n outs && tailOk l.toArray n) = true) (hlen : Ds.length = n) (hI : I { w with drawn := w.drawn + 1 })
    (step : stepsC A cls P l.toArray Q N L w E I 0 (l.take n) Ds)
    (fin : ∀ a w', Ch M w w' → I w' → Slots N L a → deps E a w' outs → (∀ d e, isHead l.toArray n d = true → isHead l.toArray n e = true → d ∈ A → e ∈ A → Ap cls d e = true → ∀ b, blks (a.tmps.getD d undef) b → ¬ blks (a.tmps.getD e undef) b) → wpList P l.toArray Q tail a w') : (Code.region id l.toArray true).wp P Q a₀ w := by
  simp only [Bool.and_eq_true] at hok
  obtain ⟨⟨⟨⟨h1, h2⟩, h3⟩, h4⟩, h5⟩ := hok
  have hn : n ≤ l.length := by
    simp only [tailOk, Bool.and_eq_true, decide_eq_true_eq] at h5
    simpa using h5.1.1
  refine wp_region_heads3 n (lookE E) (fun listed a w' => (Ch M w w' ∧ I w') ∧ PairsC A cls l.toArray n listed a) tail htl hm h1 h5 ⟨⟨(Ch.refl _).drew, hI⟩, fun j k p q d e _ _ hj => absurd (getD_replicate_false l.length j) (by simpa using hj)⟩ (heads3_step S n E I Ds A cls hirr hA h1 h2 h3 hlen hn step) ?_
  · intro a w' hC st
    refine fin a w' hC.1.1 hC.1.2 (S.base h3 st.size st.defers st.base) ?_ fun d e hd he hdA heA hne => ?_
    rotate_left
    · obtain ⟨j, p, g5, g6, g7⟩ := isHead_spec hd
      obtain ⟨k, q, f5, f6, f7⟩ := isHead_spec he
      exact hC.2 j k p q d e g5 f5 (by simp [Array.getElem?_append, g5]) (by simp [Array.getElem?_append, f5]) g6 f6 g7 f7 hdA heA hne
    have : ∀ outs', (∀ d ∈ outs', isHead l.toArray n d = true) → deps E a w' outs' := by
      intro outs'
      induction outs' with
      | nil => intro _; trivial
      | cons d r ih =>
        intro h
        obtain ⟨j, p, g5, g6, g7⟩ := isHead_spec (h d List.mem_cons_self)
        exact ⟨st.done j g5 (by simp [g5]) p d g6 g7, ih fun d hd => h d (List.mem_cons_of_mem _ hd)⟩
    exact this outs (List.all_eq_true.1 h4)
/-- append to a slice of the call's own that has no room: nothing old is written -/
theorem op_append0 {α : Type} {En : Enc α} {P : Program} {o : Oper} {a : Act} {w : World} {K : Act → World → Prop} {Q : Exit → Act → World → Prop} {D : Nat → Prop} {ts t : TypeId} {z0 : Nat} (s x : Operand) (ho : o.op = .call { callee := .builtin .append, args := #[s, x], argTypes := #[ts, ts] })
    (z : Value) (bytes : Nat) (ht : P.underlying ts = some (.slice t)) (hi : (P.info? t).map (fun i => (i.zero, i.size, i.bytes)) = some (some z, En.n, bytes)) (hzs : z.cells.size = En.n) {ad : Option Addr} (hs : a.eval s = .slice ad 0 0) (hb : ad = none ∨ ∃ b, ad = some ⟨b, 0, none⟩ ∧ z0 ≤ b ∧ Blk w.heap b [] t) (hz0 : z0 ≤ w.heap.size) (ys : List α)
    (sa : Option Addr) (sc : Nat) (hx : a.eval x = .slice sa ys.length sc) (hsrc : LAt En D w.heap sa ys) (h63 : ys.length ≤ maxLen) (hbytes : ys.length * bytes ≤ 140737488355328)
    (h : ∀ ad' cap' w', w'.ownsRow z0 t En.n (.slice ad' ys.length cap') ys.length (ys.flatMap En.cells) → Ch (In []) w w' → (∀ k, abk ad' k → abk ad k ∨ k = w.heap.size) → K (a.put o.dst (.slice ad' ys.length cap')) w') : o.wp P a w K Q := by
  obtain ⟨i0, hi0, hz0', hz1, hz2⟩ := info_of hi
  have hlen : (ys.flatMap En.cells).length = ys.length * En.n := flat_len En.len ys
  have key : ∃ ad' cap' w', (Builtin.append_ #[ts, ts] o.type #[.slice ad 0 0, .slice sa ys.length sc]).run P w = .ok (.slice ad' ys.length cap') w' ∧ w'.ownsRow z0 t En.n (.slice ad' ys.length cap') ys.length (ys.flatMap En.cells) ∧ Ch (In []) w w' ∧ (∀ k, abk ad' k → abk ad k ∨ k = w.heap.size) := by
    rcases Nat.eq_zero_or_pos ys.length with e | e
    · have hy : ys = [] := List.length_eq_zero_iff.1 e
      subst hy
      have hsrc0 : Src P i0.size ts (.slice sa 0 sc) 0 [] w := by
        cases sa with
        | none => exact Src.ofNil w ht sc
        | some p => exact Src.ofSlice w ht p 0 sc [] (by simp) (fun j u hj => by simp at hj) (fun u hu => by simp at hu)
      refine ⟨ad, 0, w, run_append_nothing w ts ts o.type t i0 ht hi0 ad 0 0 (Nat.le_refl _) _ hsrc0, ?_, Ch.refl _, fun k hk => .inl hk⟩
      rcases hb with rfl | ⟨b, rfl, hb1, hb2⟩
      · exact ⟨by simp, .inl ⟨rfl, rfl⟩⟩
      · exact (row_of_nil (E := En) (ms := []) (F := No) hb2 hb1).own
    · have h1 := (hsrc.ad e).1
      have hnews : ∀ j u, (ys.flatMap En.cells)[j]? = some u → w.cell? ((⟨blk sa, off sa, none⟩ : Addr).add j) = some u := fun j u hj => by
        have hj' := (List.getElem?_eq_some_iff.1 hj).1
        rw [hlen] at hj'
        have hn0 : 0 < En.n := by
          rcases Nat.eq_zero_or_pos En.n with q | q
          · rw [q, Nat.mul_zero] at hj'; omega
          · exact q
        have hm : j / En.n < ys.length := (Nat.div_lt_iff_lt_mul hn0).2 hj'
        have hdm : j / En.n * En.n + j % En.n = j := by rw [Nat.mul_comm]; exact Nat.div_add_mod j En.n
        have hmod : j % En.n < (En.cells (ys.getD (j / En.n) En.dflt)).length := by rw [En.len]; exact Nat.mod_lt _ hn0
        have h2 := flat_get En.len ys (j / En.n) hm (j % En.n) _ (List.getElem?_eq_getElem hmod)
        rw [hdm, hj] at h2
        have h3 := hsrc.cell (j / En.n) hm (j % En.n) u (by rw [List.getElem?_eq_getElem hmod]; exact h2.symm)
        rw [show off sa + j / En.n * En.n + j % En.n = off sa + j from by omega] at h3
        rw [addr_add]; exact h3
      have hge : ys.length ≤ grownCap w ys.length 0 t := grownCap_ge w ys.length 0 t
      have hcm : grownCap w ys.length 0 t ≤ maxLen := grownCap_le_maxLen w ys.length 0 t h63
      have hfin : ∀ q : Array Value, q = (ys.flatMap En.cells).toArray ++ Builtin.zeroCells z.cells (grownCap w ys.length 0 t - ys.length) → ((w.drew.alloc (.cells q t)).ownsRow z0 t En.n (.slice (some ⟨w.heap.size, 0, none⟩) ys.length (grownCap w ys.length 0 t)) ys.length (ys.flatMap En.cells)) ∧ Ch (In []) w (w.drew.alloc (.cells q t)) := fun q hq => by
        subst hq
        refine ⟨⟨hlen, .inr ⟨w.heap.size, _, _, rfl, hz0, heap_alloc_new w.drew _, hge, hcm, ?_, ?_⟩⟩, ⟨rfl, rfl, rfl, by simp, fun k hk _ => (by show (w.heap.push _)[k]? = _; rw [Array.getElem?_push_lt hk, Array.getElem?_eq_getElem hk])⟩⟩
        · simp only [Array.size_append, List.size_toArray, size_zeroCells, hzs, hlen, ← Nat.add_mul]
          congr 1
          omega
        · simp only [Array.toList_append]
          rw [← hlen]
          exact List.take_left
      have habk : ∀ k, abk (some ⟨w.heap.size, 0, none⟩) k → abk ad k ∨ k = w.heap.size := fun k hk => .inr (by rw [abk_one] at hk; exact hk)
      rw [h1]
      rcases hb with rfl | ⟨b, rfl, hb1, hb2⟩
      · have hr := run_append_nil (P := P) w ts o.type t i0 z ht hi0 hz0' ⟨blk sa, off sa, none⟩ ys.length sc _ (by rw [hz1]; exact hlen) hnews e (by simp only [maxLen] at h63; omega) (by rw [hz2]; omega)
        have hf := hfin _ rfl
        exact ⟨_, _, _, hr, hf.1, hf.2, habk⟩
      · have hr := run_append_grow (P := P) w ts o.type t i0 z ht hi0 hz0' ⟨b, 0, none⟩ 0 0 [] (by simp) (fun j v hj => by simp at hj) ⟨blk sa, off sa, none⟩ ys.length sc _ (by rw [hz1]; exact hlen) hnews (by omega) (by simp only [maxLen] at h63; omega) (growslice_fits (by omega) (by rw [hz2, Nat.zero_add]; omega))
        simp only [Nat.zero_add] at hr
        have hf := hfin (#[] ++ (ys.flatMap En.cells).toArray ++ Builtin.zeroCells z.cells (grownCap w ys.length 0 t - ys.length)) (by rw [Array.empty_append])
        exact ⟨_, _, _, hr, hf.1, hf.2, habk⟩
  obtain ⟨ad', cap', w', k1, k2, k3, k4⟩ := key
  unfold Oper.wp execOp
  simp only [ho, resolve, invoke, builtin, Sem.run_bind, Sem.run_pure, Result.andThen_ok, List.map_toArray, List.map_cons, List.map_nil, hs, hx, k1]
  exact h ad' cap' w' k2 k3 k4
/-! what is told of new blocks -/
section
variable {chg : List BS}
theorem own_ch {α : Type} {En : Enc α} {t : TypeId} {z0 cap : Nat} {ad : Option Addr} {ys : List α} {w w' : World} (c : Ch (In chg) w w') (hn : ∀ k, abk ad k → ¬ In chg k) (H : w.ownsRow z0 t En.n (.slice ad ys.length cap) ys.length (ys.flatMap En.cells)) : w'.ownsRow z0 t En.n (.slice ad ys.length cap) ys.length (ys.flatMap En.cells) := by
  refine ⟨H.1, ?_⟩
  rcases H.2 with h1 | ⟨b, c', cur, h1, h2, h3, h4⟩
  · exact .inl h1
  · refine .inr ⟨b, c', cur, h1, h2, ?_, h4⟩
    injection h1 with h1
    subst h1
    refine (c.block b ?_ (hn b rfl)).trans h3
    rcases Nat.lt_or_ge b w.heap.size with k | k
    · exact k
    · rw [Array.getElem?_eq_none k] at h3; cases h3
def rowT {α : Type} (En : Enc α) (t : TypeId) (z0 : Nat) (chg : List BS) (ys : List α) : Td (In chg) :=
  .of (fun z w => ∃ ad cap, z = .slice ad ys.length cap ∧ w.ownsRow z0 t En.n (.slice ad ys.length cap) ys.length (ys.flatMap En.cells) ∧ ∀ k, abk ad k → ¬ In chg k) fun _ _ _ c ⟨ad, cap, e, h, hn⟩ => ⟨ad, cap, e, own_ch c hn h, hn⟩
def nilT (t : TypeId) (z0 : Nat) (chg : List BS) : Td (In chg) :=
  .of (fun z w => ∃ b, z = .slice (some ⟨b, 0, none⟩) 0 0 ∧ Blk w.heap b [] t ∧ z0 ≤ b ∧ ¬ In chg b) fun _ _ _ c ⟨b, e, h, hn⟩ => ⟨b, e, h.tr c hn.2, hn⟩
def Owns (q : Td (In chg)) : Prop := ∀ u w, q.q.p u w → ∀ x, blks u x → x < w.heap.size
theorem own_lt {α : Type} {En : Enc α} {t : TypeId} {z0 cap : Nat} {ad : Option Addr} {ys : List α} {w : World} (H : w.ownsRow z0 t En.n (.slice ad ys.length cap) ys.length (ys.flatMap En.cells)) : ∀ x, blkOf (.slice ad ys.length cap) = some x → z0 ≤ x ∧ x < w.heap.size := fun x hx => by
  rcases H.2 with ⟨h1, _⟩ | ⟨b, c', cur, h1, h2, h3, h4⟩
  · injection h1 with h1; subst h1; cases hx
  · injection h1 with h1
    subst h1
    obtain rfl : b = x := Option.some.inj hx
    refine ⟨h2, ?_⟩
    rcases Nat.lt_or_ge b w.heap.size with k | k
    · exact k
    · rw [Array.getElem?_eq_none k] at h3; cases h3
theorem rowT_owns {α : Type} {En : Enc α} {t : TypeId} {z0 : Nat} {ys : List α} : Owns (rowT En t z0 chg ys) := fun _ _ ⟨_, _, e, h, _⟩ x hx => by rw [e] at hx; exact (own_lt h x hx).2
theorem nilT_owns {t : TypeId} {z0 : Nat} : Owns (nilT t z0 chg) := fun _ _ ⟨_, e, h, _⟩ x hx => by rw [e] at hx; cases hx; exact h.lt
def OwnAll (E : List (Nat × Td (In chg))) : List Nat → Prop
  | [] => True
  | d :: r => (∃ q, lookT d E = some q ∧ Owns q) ∧ OwnAll E r
theorem OwnAll.get {E : List (Nat × Td (In chg))} : ∀ {A : List Nat}, OwnAll E A → ∀ d ∈ A, ∀ u w, lookE (tq E) d u w → ∀ x, blks u x → x < w.heap.size
  | _ :: _, h, d, hd, u, w, hl => (List.mem_cons.1 hd).elim (fun e => by subst e; obtain ⟨⟨q, h1, h2⟩, _⟩ := h; exact h2 u w ((look_tq h1).1 hl)) fun hd => OwnAll.get h.2 d hd u w hl
end
section
variable {P : Program} {ops : Array Oper} {F : Nat → Prop} {w0 W : World} {m0 chg : List BS} {n i : Nat} {L : List (Nat × Value)} {fs : List RF} {os : List OF} {o : Oper} {ty : TypeId} {pos : String} {af : Array Edge} {Q : Exit → Act → World → Prop} {E : List (Nat × Td (In chg))} {D A : List Nat} {cls : List (Nat × Nat)}
def HDC (A : List Nat) (cls : List (Nat × Nat)) (P : Program) (ops : Array Oper) (Q : Exit → Act → World → Prop) (F : Nat → Prop) (w0 W : World) (m0 : List BS) (n : Nat) (L : List (Nat × Value)) (fs : List RF) (os : List OF) {chg : List BS} (E : List (Nat × Td (In chg))) (i : Nat) (o : Oper) (D : List Nat) : Prop :=
  ∀ a w, St F w0 m0 n (cat (vals E D) L) fs os a w → Ch (In chg) W w → pdeps E a w D → PairD A cls D a → wpOp P ops Q i (DoneC A cls D o (tq E) (Mm F w0 m0 fs os) n a w) a w
def HSC (A : List Nat) (cls : List (Nat × Nat)) (P : Program) (ops : Array Oper) (Q : Exit → Act → World → Prop) (F : Nat → Prop) (w0 W : World) (m0 : List BS) (n : Nat) (L : List (Nat × Value)) (fs : List RF) (os : List OF) {chg : List BS} (E : List (Nat × Td (In chg))) : Nat → List Oper → List (List Nat) → Prop
  | i, o :: r, D :: Ds => HDC A cls P ops Q F w0 W m0 n L fs os E i o D ∧ HSC A cls P ops Q F w0 W m0 n L fs os E (i + 1) r Ds
  | _, _, _ => True
theorem HSC.steps : ∀ (l : List Oper) (Ds : List (List Nat)) (i : Nat), HSC A cls P ops Q F w0 W m0 n L fs os E i l Ds → stepsC A cls P ops Q n L W (tq E) (Mm F w0 m0 fs os) i l Ds
  | [], _, _, _ => by cases ‹List (List Nat)› <;> trivial
  | _ :: _, [], _, _ => trivial
  | o :: r, D :: Ds, i, h => ⟨fun a w hc hm s hd hp => by
      obtain ⟨h1, h2⟩ := deps_open s D hd
      exact h.1 a w ⟨h1, hm⟩ hc h2 hp, HSC.steps r Ds (i + 1) h.2⟩
theorem qdc (h : HD P ops Q F w0 W m0 n L fs os E i o D) (hA : ∀ d, o.dst = some d → d ∉ A := by intro d h; cases h; decide) : HDC A cls P ops Q F w0 W m0 n L fs os E i o D :=
  fun a w S G p _ => wpOp_mono (fun a' w' ⟨⟨v, h1, h2⟩, h3, h4⟩ => ⟨⟨v, h1, fun d hd => ⟨(h2 d hd).1, (h2 d hd).2, fun hm => absurd hm (hA d hd)⟩⟩, h3, h4⟩) (h a w S G p)
theorem hcb {d : Nat} {v : Value} {ob : Obj} {a : Act} {w : World} (M : Mm F w0 m0 fs os w) (h : (execOp a.eval o).run P w = .ok (.value v) (w.alloc ob)) (hv : ∀ b, blks v b → b = w.heap.size) (hd : o.dst = some d ∧ d < n) (ht : lookE (tq E) d v (w.alloc ob)) (hk : ops[i]? = some o ∧ o.guard = none) : wpOp P ops Q i (DoneC A cls D o (tq E) (Mm F w0 m0 fs os) n a w) a w :=
  head_op hk.1 hk.2 (op_val h ⟨⟨v, rfl, fun e he => by rw [hd.1] at he; cases he; exact ⟨hd.2, ht, fun _ b hb => .inl (by rw [hv b hb]; exact Nat.le_refl _)⟩⟩, (ch_alloc w ob).mono fun _ h => h.elim, M.k0 (ch_alloc w ob)⟩)
theorem not_chg {js : List Nat} {w : World} (S : Mm F w0 m0 fs os w) : ¬ In (picks (ow os) js) w.heap.size := fun h => absurd (S.c.ms.lt _ (in_picks h)) (Nat.lt_irrefl _)
/-- an empty literal -/
theorem hcn {d : Nat} {t e : TypeId} {z : Value} {by_ sz z0 : Nat} {js : List Nat} {E : List (Nat × Td (In (picks (ow os) js)))} (he : lookT d E = some (nilT e z0 (picks (ow os) js))) (hz : z0 = W.heap.size) (ht : P.underlying t = some (.slice e)) (hi : (P.info? e).map (fun i => (i.zero, i.size, i.bytes)) = some (some z, sz, by_))
    (hk : ops[i]? = some ⟨some d, .buildSlice t 0 #[], ty, pos, af, none⟩ ∧ d < n := by exact ⟨rfl, by decide⟩) : HDC A cls P ops Q F w0 W m0 n L fs os E i ⟨some d, .buildSlice t 0 #[], ty, pos, af, none⟩ D := fun a w S G _ _ =>
  hcb S.m (x_bsl0 ht hi) (fun b hb => (Option.some.inj hb).symm) ⟨rfl, hk.2⟩ ((look_tq he).2 ⟨_, rfl, Blk.new _ [] e, by rw [hz]; exact G.size, not_chg S.m⟩) ⟨hk.1, rfl⟩
/-- append to what has no room -/
theorem hca {α : Type} {En : Enc α} {d b : Nat} {t ts : TypeId} {z : Value} {bytes z0 : Nat} {ys : List α} {sa : Option Addr} {sc : Nat} {Dm : Nat → Prop} {s x : Operand} {js : List Nat} {E : List (Nat × Td (In (picks (ow os) js)))} {a : Act} {w : World} {L' : List (Nat × Value)} {rs' : List RF} (e : Nat) (S : St F w0 m0 n L' rs' os a w) (M : Mm F w0 m0 fs os w) (G : Ch (In (picks (ow os) js)) W w)
    (he : lookT d E = some (rowT En t z0 (picks (ow os) js) ys)) (hz0 : z0 = W.heap.size) (hb : a.tmps.getD e undef = .slice (some ⟨b, 0, none⟩) 0 0 ∧ Blk w.heap b [] t ∧ z0 ≤ b ∧ ¬ In (picks (ow os) js) b) (hs : evS L' s = some (.slice (some ⟨b, 0, none⟩) 0 0)) (hx : evS L' x = some (.slice sa ys.length sc)) (hsrc : LAt En Dm w.heap sa ys) (h63 : ys.length ≤ maxLen ∧ ys.length * bytes ≤ 140737488355328)
    (ht : P.underlying ts = some (.slice t)) (hi : (P.info? t).map (fun i => (i.zero, i.size, i.bytes)) = some (some z, En.n, bytes)) (hin : (D.contains e && A.contains e && A.all (fun k => !Ap cls d k || Ap cls e k)) = true) (hzs : z.cells.size = En.n := by rfl)
    (hk : ops[i]? = some ⟨some d, .call ⟨.builtin .append, #[s, x], #[ts, ts]⟩, ty, pos, af, none⟩ ∧ d < n := by exact ⟨rfl, by decide⟩) : wpOp P ops Q i (DoneC A cls D ⟨some d, .call ⟨.builtin .append, #[s, x], #[ts, ts]⟩, ty, pos, af, none⟩ (tq E) (Mm F w0 m0 fs os) n a w) a w := by
  simp only [Bool.and_eq_true, List.contains_iff_mem] at hin
  refine head_op hk.1 rfl (op_append0 (En := En) (z0 := z0) s x rfl z bytes ht hi hzs (S.e hs) (.inr ⟨b, rfl, hb.2.2.1, hb.2.1⟩) (by rw [hz0]; exact G.size) ys sa sc (S.e hx) hsrc h63.1 h63.2 fun ad' cap' w' h1 h2 h3 => ?_)
  refine ⟨⟨_, rfl, fun e' he' => ?_⟩, h2.mono fun _ h => h.elim, M.k0 h2⟩
  have hee : e' = d := (Option.some.inj he').symm
  subst hee
  refine ⟨hk.2, (look_tq he).2 ⟨ad', cap', rfl, h1, fun k hk' => (h3 k hk').elim (fun q => by rw [abk_one] at q; cases q; exact hb.2.2.2) fun q => by rw [q]; exact not_chg M⟩, fun _ k hk' => ?_⟩
  have hk2 : abk ad' k := by cases ad' with
    | none => cases hk'
    | some p => exact hk'
  rcases h3 k hk2 with q | q
  · rw [abk_one] at q; cases q
    refine .inr ⟨e, hin.1.1, hin.1.2, fun k hk hd' => ?_, by rw [hb.1]; rfl⟩
    have := List.all_eq_true.1 hin.2 k hk
    rw [hd'] at this; simpa using this
  · exact .inl (by omega)
theorem dr3 {id : Nat} {a : Act} {w : World} {l : List Oper} (S : St F w0 m0 n L fs os a w) (N : Nat) (A : List Nat) (cls : List (Nat × Nat)) (js : List Nat) (E : List (Nat × Td (In (picks (ow os) js)))) (Ds : List (List Nat)) (outs : List Nat) (tail : List Oper) (hA : OwnAll E A) (step : HSC A cls P l.toArray Q F w0 w m0 n L fs os E 0 (l.take N) Ds)
    (fin : ∀ a w', St F w0 m0 n (cat (vals E outs) L) fs os a w' → Ch (In (picks (ow os) js)) w w' → pdeps E a w' outs → (∀ d e, (A.contains d && A.contains e && Ap cls d e) = true → ∀ b, blks (a.tmps.getD d undef) b → ¬ blks (a.tmps.getD e undef) b) → wpList P l.toArray Q tail a w')
    (htl : tail = l.drop N := by rfl) (hm : P.follows .mixedOrders = true := by exact mixed) (hok : (headOk l.toArray N && depsOk l.toArray N 0 Ds && keysOk l.toArray N L && outsOk l.toArray N outs && tailOk l.toArray N) = true := by kernel_rfl) (hlen : Ds.length = N := by rfl) (hAh : A.all (isHead l.toArray N) = true := by kernel_rfl) (hirr : A.all (fun d => !Ap cls d d) = true := by decide) : (Code.region id l.toArray true).wp P Q a w :=
  wp_heads3 S.s N (tq E) (Mm F w0 m0 fs os) Ds outs A cls (fun d hd => by have := List.all_eq_true.1 hirr d hd; simpa using this) hA.get tail htl hm hok hlen S.m.drew (HSC.steps _ _ _ step) fun a w' hc hm s hd hp => by
    obtain ⟨h1, h2⟩ := deps_open s outs hd
    refine fin a w' ⟨h1, hm⟩ hc h2 fun d e hde => ?_
    simp only [Bool.and_eq_true, List.contains_iff_mem] at hde
    have hh := List.all_eq_true.1 hAh
    exact hp d e (hh d hde.1.1) (hh e hde.1.2) hde.1.1 hde.1.2 hde.2
/-- the new blocks become the call's own -/
theorem St.ownM {a a0 : Act} {w : World} {L0 : List (Nat × Value)} (S0 : St F w0 m0 n L0 fs os a0 W) (S : St F w0 m0 n L fs os a w) (js : List Nat) (G : Ch (In (picks (ow os) js)) W w) (hj : ∀ j f, j ∈ js → nth os j = some f → ∀ V1 V2, f.p F V1 w → f.p F V2 w) (nw : List OF) (hsep : Sep (ow nw)) (hn : ∀ f ∈ nw, ∀ k, f.o k → W.heap.size ≤ k ∧ k < w.heap.size)
    (hp : Mv (In (ow os)) (In (ow os ++ ow nw)) W.heap w.heap → ∀ f ∈ nw, f.p F (In (ow os ++ ow nw)) w) : St F w0 m0 n L fs (os ++ nw) a w := by
  have hn' : ∀ k, In (ow nw) k → W.heap.size ≤ k ∧ k < w.heap.size := fun k hk => by
    obtain ⟨o, h1, h2⟩ := in_ex hk
    rw [ow_map] at h1
    obtain ⟨f, h3, rfl⟩ := List.mem_map.1 h1
    exact hn f h3 k h2
  have hin : ∀ k, In (ow nw) k → ¬ In (ow os) k := fun k h1 h2 => by have := hn' k h1; have := S0.M.lt k h2; omega
  have hMS : ∀ (x : List BS), Sep x → (∀ k, In x k → W.heap.size ≤ k ∧ k < w.heap.size) → (∀ k, In x k → ¬ In (ow os) k) → MS (x ++ ow os) w := by
    intro x
    induction x with
    | nil => intro _ _ _; exact S.M
    | cons o r ih =>
      intro s h1 h2
      exact (ih s.2 (fun k hk => h1 k (.inr hk)) (fun k hk => h2 k (.inr hk))).cons fun k hk => ⟨(h1 k (.inl hk)).2, fun hm => (in_app.1 hm).elim (s.1 k hk) (h2 k (.inl hk))⟩
  have M := hMS _ hsep hn' hin
  have T : Tr (ow os) W (ow os ++ ow nw) w := Tr.comm ⟨G.mono fun k hk => in_picks hk, fun k hk => (in_app.1 hk).elim (fun h => .inr (hn' k h).1) .inl, M⟩
  have T0 : Tr m0 w0 (ow os ++ ow nw) w := Tr.comm ⟨S.m.c.ch, fun k hk => (in_app.1 hk).elim (fun h => .inr (Nat.le_trans S0.m.c.size (hn' k h).1)) (S.m.c.sub k), M⟩
  refine ⟨S.s, by rw [ow_app]; exact T0, S.m.f, fun f hf => by rw [ow_app]; exact f.st T.mv (S0.m.r f hf), fun f hf => ?_⟩
  rw [ow_app]
  rcases List.mem_append.1 hf with h | h
  · obtain ⟨i, hi⟩ := idx_of h
    by_cases hc : js.contains i = true
    · exact hj i f (List.contains_iff_mem.1 hc) hi _ _ (S.m.o f h)
    · exact f.st T.mv (fun k hk ho => G.block k hk fun hm => S0.m.sep hi js (by simpa using hc) ho hm) (S0.m.o f h)
  · exact hp T.mv f h
end
theorem Row.lower3 {α : Type} {En : Enc α} {t : TypeId} {z0 b cap : Nat} {w : World} {ad : Option Addr} {ys : List α} (h : w.ownsRow z0 t En.n (.slice ad ys.length cap) ys.length (ys.flatMap En.cells)) (hb : b ≤ z0) : w.ownsRow b t En.n (.slice ad ys.length cap) ys.length (ys.flatMap En.cells) :=
  ⟨h.1, h.2.imp id fun ⟨g, c, cur, h1, h2, h3⟩ => ⟨g, c, cur, h1, Nat.le_trans hb h2, h3⟩⟩
theorem row_blk {α : Type} {En : Enc α} {t : TypeId} {z0 cap : Nat} {w : World} {ad : Option Addr} {ys : List α} (h : w.ownsRow z0 t En.n (.slice ad ys.length cap) ys.length (ys.flatMap En.cells)) : ∀ k, abk ad k → z0 ≤ k ∧ k < w.heap.size := fun k hk => by
  refine own_lt h k ?_
  cases ad with
  | none => cases hk
  | some p => exact hk
theorem var_blk {z0 b : Nat} {w : World} {cs : List Value} {t : TypeId} (h : Blk w.heap b cs t) (hz : z0 ≤ b) : ∀ k, one b k → z0 ≤ k ∧ k < w.heap.size := fun k hk => by
  cases hk; exact ⟨hz, h.lt⟩
theorem abk_blks {ad : Option Addr} {q c k : Nat} {u : Value} (e : u = .slice ad q c) (h : abk ad k) : blks u k := by
  subst e; cases ad with
  | none => cases h
  | some p => exact h
end Go.Proofs.Ytobggnpnochnnaa.V
/- Strings put together; a cell of the library that everybody may read. -/
namespace Go.Proofs.Ytobggnpnochnnaa.V
open Go.RowKit
/-- the number that the library lays in its first cell -/
def hasML (h : Array Obj) : Prop := ∃ m : Int, hcell h 0 0 = some (.int .i64 m)
theorem hasML.keep {h h' : Array Obj} (H : hasML h) (k : h'[0]? = h[0]?) : hasML h' := by
  obtain ⟨m, hm⟩ := H
  refine ⟨m, ?_⟩
  unfold hcell at hm ⊢
  rw [k]; exact hm
theorem hasML.pos {h : Array Obj} (H : hasML h) : 0 < h.size := by
  obtain ⟨m, hm⟩ := H
  rcases Nat.eq_zero_or_pos h.size with e | e
  · unfold hcell at hm
    rw [Array.getElem?_eq_none (by omega)] at hm
    cases hm
  · exact e
end Go.Proofs.Ytobggnpnochnnaa.V
/- Objects: facts of the call's own behind a pointer, bundled. -/
namespace Go.Proofs.Ytobggnpnochnnaa.V
open Go.RowKit
/-- a fact that stands where less may be written -/
def OF.Mo (f : OF) : Prop := ∀ {F W F' W' : Nat → Prop} {w : World}, (∀ k, W' k ∨ F' k → W k ∨ F k) → f.p F W w → f.p F' W' w
theorem wf_mo {α : Type} (E : Enc α) {F W F' W' : Nat → Prop} {h : Array Obj} {x : α} (s : ∀ k, W' k ∨ F' k → W k ∨ F k) (H : E.wf (Fw F W) h x) : E.wf (Fw F' W') h x :=
  E.mono (fun k _ g => ⟨fun e => (s k (.inl e)).elim g.1 g.2, fun e => (s k (.inr e)).elim g.1 g.2⟩) H
theorem mo_bl {b : Nat} {cs : List Value} {t : TypeId} : (blO b cs t).Mo := fun _ h => h
theorem mo_rw {α : Type} {E : Enc α} {t : TypeId} {base : Nat} {ad : Option Addr} {cap : Nat} {xs : List α} : (rwO E t base ad cap xs).Mo := fun s h => ⟨h.1, fun x hx => wf_mo E s (h.2 x hx)⟩
/-- data that is read, as a fact of an object -/
def daO {α : Type} (E : Enc α) (x : α) : OF := ⟨fun _ => False, fun F W w => E.wf (Fw F W) w.heap x, fun m _ H => E.mv m H⟩
theorem mo_da {α : Type} {E : Enc α} {x : α} : (daO E x).Mo := fun s h => wf_mo E s h
def AllMo : List OF → Prop
  | [] => True
  | f :: r => f.Mo ∧ AllMo r
theorem AllMo.get : ∀ {fs : List OF}, AllMo fs → ∀ f ∈ fs, OF.Mo f
  | g :: r, h, f, hf => by
    rcases List.mem_cons.1 hf with e | e
    · subst e; exact h.1
    · exact AllMo.get h.2 f e
def AllP (F W : Nat → Prop) (w : World) : List OF → Prop
  | [] => True
  | f :: r => f.p F W w ∧ AllP F W w r
theorem AllP.get {F W : Nat → Prop} {w : World} : ∀ {fs : List OF}, AllP F W w fs → ∀ f ∈ fs, f.p F W w
  | _ :: _, h, f, hf => (List.mem_cons.1 hf).elim (fun e => e ▸ h.1) (h.2.get f)
/-- a bundle of facts -/
def bnO (fs : List OF) : OF :=
  ⟨In (ow fs), fun F W w => Sep (ow fs) ∧ ∀ f ∈ fs, f.p F W w, fun m h H => ⟨H.1, fun f hf => f.st m (fun k hk ho => h k hk (in_mem (ow_mem hf) ho)) (H.2 f hf)⟩⟩
theorem mo_bn {fs : List OF} (h : AllMo fs) : (bnO fs).Mo := fun s H => ⟨H.1, fun f hf => h.get f hf s (H.2 f hf)⟩
theorem sep_app {x y : List BS} : Sep (x ++ y) ↔ Sep x ∧ Sep y ∧ ∀ k, In x k → ¬ In y k := by
  induction x with
  | nil => exact ⟨fun h => ⟨trivial, h, fun k h => h.elim⟩, fun h => h.2.1⟩
  | cons o r ih =>
    show (_ ∧ Sep (r ++ y)) ↔ (_ ∧ Sep r) ∧ Sep y ∧ _
    rw [ih]
    constructor
    · rintro ⟨h1, h2, h3, h4⟩
      exact ⟨⟨fun k hk hm => h1 k hk (in_app.2 (.inl hm)), h2⟩, h3, fun k hk hm => hk.elim (fun e => h1 k e (in_app.2 (.inr hm))) fun e => h4 k e hm⟩
    · rintro ⟨⟨h1, h2⟩, h3, h4⟩
      exact ⟨fun k hk hm => (in_app.1 hm).elim (h1 k hk) (h4 k (.inl hk)), h2, h3, fun k hk => h4 k (.inr hk)⟩
section
variable {F : Nat → Prop} {w0 w w' : World} {m0 : List BS} {n : Nat} {L L' : List (Nat × Value)} {rs : List RF} {ks fs os : List OF} {a a' : Act}
theorem in_bn {k : Nat} : In (ow (ks ++ [bnO fs])) k ↔ In (ow (ks ++ fs)) k := by
  rw [ow_app, ow_app]
  exact ⟨fun h => in_app.2 ((in_app.1 h).imp id fun h => h.elim id False.elim), fun h => in_app.2 ((in_app.1 h).imp id .inl)⟩
/-- a bundle is taken apart -/
theorem St.opn (S : St F w0 m0 n L rs (ks ++ [bnO fs]) a w) : St F w0 m0 n L rs (ks ++ fs) a w := by
  obtain ⟨h3, h4⟩ := S.m.o (bnO fs) (List.mem_append_right _ List.mem_cons_self)
  have hM := S.M
  have hs := hM.sep
  rw [ow_app] at hs
  obtain ⟨g1, _, g3⟩ := sep_app.1 hs
  have T : Tr (ow (ks ++ [bnO fs])) w (ow (ks ++ fs)) w := by
    refine ⟨Ch.refl w, fun k hk => .inl (in_bn.2 hk), ⟨fun k hk => hM.lt k (in_bn.2 hk), ?_⟩⟩
    rw [ow_app]
    exact sep_app.2 ⟨g1, h3, fun k hk hm => g3 k hk (.inl hm)⟩
  refine ⟨S.s, S.m.go T fun f hf => ?_⟩
  rcases List.mem_append.1 hf with h | h
  · exact f.st T.mv (fun _ _ _ => rfl) (S.m.o f (List.mem_append_left _ h))
  · exact f.st T.mv (fun _ _ _ => rfl) (h4 f h)
/-- .. and put together -/
theorem St.cls (S : St F w0 m0 n L rs (ks ++ fs) a w) : St F w0 m0 n L rs (ks ++ [bnO fs]) a w := by
  have hM := S.M
  have hs := hM.sep
  rw [ow_app] at hs
  obtain ⟨g1, g2, g3⟩ := sep_app.1 hs
  have T : Tr (ow (ks ++ fs)) w (ow (ks ++ [bnO fs])) w := by
    refine ⟨Ch.refl w, fun k hk => .inl (in_bn.1 hk), ⟨fun k hk => hM.lt k (in_bn.1 hk), ?_⟩⟩
    rw [ow_app]
    exact sep_app.2 ⟨g1, ⟨fun k _ h => h, trivial⟩, fun k hk hm => g3 k hk (hm.elim id False.elim)⟩
  refine ⟨S.s, S.m.go T fun f hf => ?_⟩
  rcases List.mem_append.1 hf with h' | h'
  · exact f.st T.mv (fun _ _ _ => rfl) (S.m.o f (List.mem_append_left _ h'))
  · obtain rfl : f = _ := by simpa using h'
    exact ⟨g2, fun q hq => q.st T.mv (fun _ _ _ => rfl) (S.m.o q (List.mem_append_right _ hq))⟩
theorem own_b0 {w : World} {base n : Nat} {t : TypeId} {v : Value} {l : Nat} {cs : List Value} (h : w.ownsRow base t n v l cs) : w.ownsRow 0 t n v l cs := ⟨h.1, h.2.imp id fun ⟨g, c, cur, h1, h2, h3⟩ => ⟨g, c, cur, h1, Nat.zero_le _, h3⟩⟩
theorem Row.b0 {α : Type} {E : Enc α} {t : TypeId} {base : Nat} {ms : List BS} {ad : Option Addr} {cap : Nat} {xs : List α} (r : Row E t base F ms w ad cap xs) : Row E t 0 F ms w ad cap xs := ⟨own_b0 r.own, r.wf⟩
theorem St.b0 {α : Type} {E : Enc α} {t : TypeId} {base : Nat} {ad : Option Addr} {cap : Nat} {xs : List α} (S : St F w0 m0 n L rs os a w) (i : Nat) (hi : nth os i = some (rwO E t base ad cap xs)) : St F w0 m0 n L rs (os.set i (rwO E t 0 ad cap xs)) a w :=
  have H := S.m.o _ (nth_mem hi)
  S.k1s i hi (rwO E t 0 ad cap xs) rfl S.s (Ch.refl w) ⟨own_b0 H.1, H.2⟩
theorem St.da {α : Type} {E : Enc α} {x : α} (S : St F w0 m0 n L rs os a w) (i : Nat) (h : nth os i = some (daO E x)) : E.wf (Fr F (ow os)) w.heap x := S.m.o _ (nth_mem h)
/-- data that is known is laid among the own facts -/
theorem St.oda {α : Type} {E : Enc α} {x : α} (S : St F w0 m0 n L rs os a w) (H : E.wf (Fr F (ow os)) w.heap x) : St F w0 m0 n L rs (os ++ [daO E x]) a w := by
  have e : ∀ k, In (ow (os ++ [daO E x])) k ↔ In (ow os) k := fun k => by
    rw [ow_app]; exact ⟨fun h => (in_app.1 h).elim id fun h => h.elim False.elim False.elim, fun h => in_app.2 (.inl h)⟩
  have hs := S.M.sep
  have T : Tr (ow os) w (ow (os ++ [daO E x])) w := ⟨Ch.refl w, fun k hk => .inl ((e k).1 hk), ⟨fun k hk => S.M.lt k ((e k).1 hk), by
    rw [ow_app]; exact sep_app.2 ⟨hs, ⟨fun k h => h.elim, trivial⟩, fun k _ hm => hm.elim id id⟩⟩⟩
  refine ⟨S.s, S.m.go T fun f hf => ?_⟩
  rcases List.mem_append.1 hf with h | h
  · exact f.st T.mv (fun _ _ _ => rfl) (S.m.o f h)
  · obtain rfl : f = _ := by simpa using h
    exact Enc.mono E (fun k _ g => ⟨fun h => g.1 ((e k).1 h), g.2⟩) H
/-- the facts that a callee may change, as it gets them -/
theorem St.mF (S : St F w0 m0 n L rs (ks ++ fs) a w) : MS (ow fs) w := by
  have hM := S.M
  rw [ow_app] at hM
  exact ⟨fun k hk => hM.lt k (in_app.2 (.inr hk)), (sep_app.1 hM.sep).2.1⟩
theorem St.dF (S : St F w0 m0 n L rs (ks ++ fs) a w) {f : OF} (i : Nat) (hi : nth fs i = some f) (mo : f.Mo) : f.p (Exc F (ow (ks ++ fs)) (ow fs)) (In (ow fs)) w :=
  mo (fun k hk => by
    rcases hk with h | ⟨h, _⟩ | h
    · exact .inl (by rw [ow_app]; exact in_app.2 (.inr h))
    · exact .inl h
    · exact .inr h) (S.m.o f (List.mem_append_right _ (nth_mem hi)))
/-- data as an argument of such a callee -/
theorem dnF {α : Type} {E : Enc α} {x : α} {h : Array Obj} (H : E.wf (Fr F (ow (ks ++ fs))) h x) : E.wf (Fr (Exc F (ow (ks ++ fs)) (ow fs)) (ow fs)) h x :=
  E.mono (fun k _ g => ⟨fun e => g.1 (by rw [ow_app]; exact in_app.2 (.inr e)), fun e => e.elim (fun e => g.1 e.1) g.2⟩) H
/-- .. and data that it gives -/
theorem St.upF {α : Type} {E : Enc α} {x : α} {h : Array Obj} (S : St F w0 m0 n L rs (ks ++ fs) a w) {fs' : List OF} (H : E.wf (Fr (Exc F (ow (ks ++ fs)) (ow fs)) (ow fs')) h x) : E.wf (Fr F (ow (ks ++ fs'))) h x :=
  E.mono (fun k _ g => ⟨fun e => by
    rw [ow_app] at e
    rcases in_app.1 e with e | e
    · have hs := S.M.sep
      rw [ow_app] at hs
      exact g.2 (.inl ⟨by rw [ow_app]; exact in_app.2 (.inl e), (sep_app.1 hs).2.2 k e⟩)
    · exact g.1 e, fun e => g.2 (.inr e)⟩) H
/-- what may be written is none of F -/
theorem St.nf (S : St F w0 m0 n L rs os a w) (hD : ∀ k, In m0 k → ¬ F k) {k : Nat} (h : In (ow os) k) : ¬ F k := fun e =>
  (S.m.c.sub k h).elim (fun h => hD k h e) fun h => by have := S.m.f k e; omega
theorem St.nfF (S : St F w0 m0 n L rs (ks ++ fs) a w) (hD : ∀ k, In m0 k → ¬ F k) : ∀ k, In (ow fs) k → ¬ Exc F (ow (ks ++ fs)) (ow fs) k := fun k h e =>
  e.elim (fun e => e.2 h) fun e => S.nf hD (by rw [ow_app]; exact in_app.2 (.inr h)) e
/-- a callee changed the last facts, or gave new ones -/
theorem St.kF (S : St F w0 m0 n L rs (ks ++ fs) a w) (fs' : List OF) (s : Slots n L' a') (t : Tr (ow fs) w (ow fs') w') (hf : AllP (Exc F (ow (ks ++ fs)) (ow fs)) (In (ow fs')) w' fs') (mo : AllMo fs') : St F w0 m0 n L' rs (ks ++ fs') a' w' := by
  have hM := S.M
  have e2 : ow (ks ++ fs) = ow ks ++ ow fs := ow_app ks fs
  have e3 : ow (ks ++ fs') = ow ks ++ ow fs' := ow_app ks fs'
  have hs := hM.sep
  rw [e2] at hs
  obtain ⟨g1, g2, g3⟩ := sep_app.1 hs
  have T : Tr (ow (ks ++ fs)) w (ow (ks ++ fs')) w' := by
    refine ⟨t.ch.mono fun k hk => by rw [e2]; exact in_app.2 (.inr hk), fun k hk => ?_, ⟨fun k hk => ?_, ?_⟩⟩
    · rw [e3] at hk
      rcases in_app.1 hk with h | h
      · exact .inl (by rw [e2]; exact in_app.2 (.inl h))
      · exact (t.sub k h).imp (fun h => by rw [e2]; exact in_app.2 (.inr h)) id
    · rw [e3] at hk
      rcases in_app.1 hk with h | h
      · exact Nat.lt_of_lt_of_le (hM.lt k (by rw [e2]; exact in_app.2 (.inl h))) t.size
      · exact t.ms.lt k h
    · rw [e3]
      refine sep_app.2 ⟨g1, t.ms.sep, fun k hk hm => ?_⟩
      rcases t.sub k hm with h | h
      · exact g3 k hk h
      · have := hM.lt k (by rw [e2]; exact in_app.2 (.inl hk)); omega
  refine ⟨s, S.m.go T fun f hq => ?_⟩
  rcases List.mem_append.1 hq with h | h
  · exact f.st T.mv (fun k hk ho => t.ch.block k hk fun hm => g3 k (in_mem (ow_mem h) ho) hm) (S.m.o f (List.mem_append_left _ h))
  · refine mo.get f h (fun k hk => ?_) (hf.get f h)
    rcases hk with h2 | h2
    · rw [e3] at h2
      rcases in_app.1 h2 with h3 | h3
      · exact .inr (.inl ⟨by rw [e2]; exact in_app.2 (.inl h3), g3 k h3⟩)
      · exact .inl h3
    · exact .inr (.inr h2)
/-- a row as an argument that is only read; a row that is only read from now on (the row may be older than the call) -/
theorem St.rargD {α : Type} {E : Enc α} {t : TypeId} {base : Nat} {ad : Option Addr} {cap : Nat} {xs : List α} (S : St F w0 m0 n L rs os a w) (hD : ∀ k, In m0 k → ¬ F k) (i : Nat) (hi : nth os i = some (rwO E t base ad cap xs)) (hn : 0 < E.n) (o : List BS) (ho : abk ad ∈ o) : (slE E).wf (Fr (Exc F (ow os) o) []) w.heap ⟨ad, cap, xs⟩ := by
  have R := S.row i hi
  exact R.argx hn (fun k e => S.nf hD (in_mem (ow_mem (nth_mem hi)) e)) (fun k e => ⟨in_mem ho e, fun e => e⟩) fun _ h => by simp at h
theorem St.fzD {α : Type} {E : Enc α} {t : TypeId} {base : Nat} {ad : Option Addr} {cap : Nat} {xs : List α} (S : St F w0 m0 n L rs os a w) (hD : ∀ k, In m0 k → ¬ F k) (i : Nat) (hi : nth os i = some (rwO E t base ad cap xs)) (hn : 0 < E.n := by first | decide | exact Nat.one_pos) : St F w0 m0 n L (rs ++ [wfF (slE E) ⟨ad, cap, xs⟩]) (os.set i noO) a w := by
  have R := S.row i hi
  have hF : ∀ k, abk ad k → ¬ F k := fun k e => S.nf hD (in_mem (ow_mem (nth_mem hi)) e)
  have T : Tr (ow os) w (ow (os.set i noO)) w := by
    have hM := S.M
    have e1 := rowSplit hi
    have e2 := ow_setx (g := noO) hi
    rw [e2]; rw [e1] at hM
    conv => arg 1; rw [e1]
    exact Tr.swap hM (Ch.refl _) fun k hk => hk.elim
  have hs : ∀ k, In (ow (os.set i noO)) k → In (ow os) k := fun k hk => (T.sub k hk).elim id fun e => absurd (T.ms.lt k hk) (by omega)
  have hW : (slE E).wf (Fr F (ow (os.set i noO))) w.heap ⟨ad, cap, xs⟩ := by
    refine ⟨R.latD hn (fun k hk => ⟨fun hm => ?_, hF k hk⟩) fun x hx => Enc.mono _ (fun k _ h => ⟨fun e => h.1 (hs k e), h.2⟩) (R.wf x hx), R.cap_le⟩
    rw [ow_setx hi] at hm
    have hsep := S.M.sep
    rw [rowSplit hi] at hsep
    refine Sep.mid (pre := []) hk hsep ?_
    rcases in_app.1 hm with q | q | q
    · exact in_app.2 (.inl q)
    · exact q.elim
    · exact in_app.2 (.inr q)
  exact St.ar ⟨S.s, S.m.sw i hi noO T (Ch.refl _) trivial⟩ _ hW
end
end Go.Proofs.Ytobggnpnochnnaa.V
/- Rows that a callee makes anew, as data that is read. -/
namespace Go.Proofs.Ytobggnpnochnnaa.V
open Go.RowKit
section
variable {α : Type} {E : Enc α} {F F' : Nat → Prop} {w0 w w2 : World} {m0 ms : List BS} {n : Nat} {L : List (Nat × Value)} {rs : List RF} {os : List OF} {a : Act} {t : TypeId} {ad : Option Addr} {cap : Nat} {xs : List α}
theorem Row.frz (R : Row E t w.heap.size F' ms w2 ad cap xs) (hn : 0 < E.n) (o : Old (Ex F (ow os)) w) (fl : ∀ x, E.wf (Fr F' ms) w2.heap x → E.wf (Fr F (ow os)) w2.heap x) : (slE E).wf (Fr F (ow os)) w2.heap ⟨ad, cap, xs⟩ := by
  have hb := row_blk R.own
  refine ⟨R.latD hn (fun k hk => ?_) fun x hx => fl x (R.wf x hx), R.cap_le⟩
  have h1 := (hb k hk).1
  exact ⟨fun hm => by have := o k (.inl hm); omega, fun hF => by have := o k (.inr hF); omega⟩
/-- elements without pointers -/
theorem St.frz (S : St F w0 m0 n L rs os a w) (R : Row E t w.heap.size F' ms w2 ad cap xs) (hn : 0 < E.n) (fl : ∀ x, E.wf (Fr F' ms) w2.heap x → E.wf (Fr F (ow os)) w2.heap x) : (slE E).wf (Fr F (ow os)) w2.heap ⟨ad, cap, xs⟩ := R.frz hn S.x fl
theorem LAt.nil_xs {D : Nat → Prop} {h : Array Obj} (l : LAt E D h ad xs) (h0 : ad = none) : xs = [] := by
  cases xs with
  | nil => rfl
  | cons x r =>
    have := (l.ad (by simp)).1
    rw [h0] at this; cases this
end
end Go.Proofs.Ytobggnpnochnnaa.V
/- Pointers to data that is read; objects that a callee reads, or gives. -/
namespace Go.Proofs.Ytobggnpnochnnaa.V
open Go.RowKit
/-- a pointer to data that is read -/
def ptE {α : Type} (E : Enc α) (t : TypeId) : Enc (Nat × α) where
  n := 1
  cells x := [.pointer (some ⟨x.1, 0, none⟩)]
  dflt := (0, E.dflt)
  wf D h x := Blk h x.1 (E.cells x.2) t ∧ D x.1 ∧ E.wf D h x.2
  len _ := rfl
  one x u hu := by simp at hu; subst hu; rfl
  keep k h := ⟨h.1.keep k h.2.1, h.2.1, E.keep k h.2.2⟩
  mono k h := ⟨h.1, k _ h.1.lt h.2.1, E.mono k h.2.2⟩
section
variable {α : Type} {E : Enc α} {F W D : Nat → Prop} {w0 w : World} {m0 : List BS} {n : Nat} {L : List (Nat × Value)} {rs : List RF} {os fs : List OF} {a : Act} {t : TypeId} {base : Nat} {ad : Option Addr} {cap : Nat} {xs : List α}
theorem rd_rw (H : (rwO E t base ad cap xs).p F W w) (hn : 0 < E.n) (h1 : ∀ k, abk ad k → k < w.heap.size → D k) (h2 : ∀ k, k < w.heap.size → Fw F W k → D k) : (slE E).wf D w.heap ⟨ad, cap, xs⟩ :=
  have R : Row E t base F [W] w ad cap xs := ⟨H.1, fun x hx => E.mono (fun k _ h => ⟨fun e => e.elim h.1 id, h.2⟩) (H.2 x hx)⟩
  ⟨R.latD hn (fun k hk => h1 k hk (row_blk H.1 k hk).2) fun x hx => E.mono h2 (H.2 x hx), R.cap_le⟩
/-- an object of the call's own, as data that a callee reads -/
theorem St.rob (S : St F w0 m0 n L rs os a w) (hD : ∀ k, In m0 k → ¬ F k) (i : Nat) (hi : nth os i = some (bnO fs)) {X : (Nat → Prop) → Prop} (rd : ∀ D, (∀ f ∈ fs, f.p F (In (ow os)) w) → (∀ k, In (ow fs) k → k < w.heap.size → D k) → (∀ k, k < w.heap.size → Fw F (In (ow os)) k → D k) → X D) (o : List BS) (ho : In (ow fs) ∈ o) : X (Fr (Exc F (ow os) o) []) :=
  rd _ (S.m.o _ (nth_mem hi)).2 (fun _ hk _ => ⟨id, fun e => e.elim (fun e => e.2 (in_mem ho hk)) (S.nf hD (in_mem (ow_mem (nth_mem hi)) hk))⟩) fun _ _ h => ⟨id, fun e => e.elim (fun e => h.1 e.1) h.2⟩
/-- a row of a function that may write nothing old is new -/
theorem St.raise {os : List OF} (S : St F w0 [] n L rs os a w) (i : Nat) (hi : nth os i = some (rwO E t base ad cap xs)) : St F w0 [] n L rs (os.set i (rwO E t w0.heap.size ad cap xs)) a w :=
  have R := S.row i hi
  have R2 := R.raise (b := w0.heap.size) fun k hk => (S.m.c.sub k (in_mem (ow_mem (nth_mem hi)) hk)).elim False.elim id
  S.k1s i hi (rwO E t w0.heap.size ad cap xs) rfl S.s (Ch.refl w) ⟨R2.own, R2.wf⟩
/-- rows of plain elements that a callee gives which may read blocks of the call's own -/
def FlatL : List Rw → Prop
  | [] => True
  | r :: l => (∀ (D D' : Nat → Prop) h x, r.E.wf D h x → r.E.wf D' h x) ∧ FlatL l
theorem FlatL.get : ∀ {l : List Rw}, FlatL l → ∀ r ∈ l, ∀ (D D' : Nat → Prop) h x, r.E.wf D h x → r.E.wf D' h x
  | _ :: _, h, r, hr => (List.mem_cons.1 hr).elim (fun e => e ▸ h.1) fun hr => h.2.get r hr
theorem St.krx {a' : Act} {L' : List (Nat × Value)} {w' : World} {o : List BS} (S : St F w0 m0 n L rs os a w) (l : List Rw) (s : Slots n L' a') (t : Tr [] w (abks l) w') (h : RwsOk w.heap.size (Exc F (ow os) o) (abks l) w' l) (hf : FlatL l) : St F w0 m0 n L' rs (os ++ ofs w0.heap.size l) a' w' := by
  refine S.kr l s t ?_
  have : ∀ (k : List Rw), (∀ r ∈ k, r ∈ l) → RwsOk w.heap.size (Exc F (ow os) o) (abks l) w' k → RwsOk w.heap.size (Ex F (ow os)) (abks l) w' k := by
    intro k
    induction k with
    | nil => intro _ _; trivial
    | cons r q ih =>
      intro hm hk
      exact ⟨⟨hk.1.own, fun x hx => hf.get r (hm r List.mem_cons_self) _ _ _ _ (hk.1.wf x hx)⟩, ih (fun r hr => hm r (List.mem_cons_of_mem _ hr)) hk.2⟩
  exact this l (fun _ h => h) h
/-- an object, or none -/
def optP {α : Type} (q : Option (Nat × α)) : Value := .pointer (q.map fun x => ⟨x.1, 0, none⟩)
/-- an empty bundle -/
theorem St.emp (S : St F w0 m0 n L rs os a w) : St F w0 m0 n L rs (os ++ [bnO []]) a w := by
  have e : ∀ k, In (ow (os ++ [bnO []])) k ↔ In (ow os) k := fun k => by
    rw [ow_app]; exact ⟨fun h => (in_app.1 h).elim id fun h => h.elim False.elim False.elim, fun h => in_app.2 (.inl h)⟩
  have hs := S.M.sep
  have T : Tr (ow os) w (ow (os ++ [bnO []])) w := ⟨Ch.refl w, fun k hk => .inl ((e k).1 hk), ⟨fun k hk => S.M.lt k ((e k).1 hk), by
    rw [ow_app]; exact sep_app.2 ⟨hs, ⟨fun k h => h.elim, trivial⟩, fun k _ hm => hm.elim id id⟩⟩⟩
  refine ⟨S.s, S.m.go T fun f hf => ?_⟩
  rcases List.mem_append.1 hf with h | h
  · exact f.st T.mv (fun _ _ _ => rfl) (S.m.o f h)
  · obtain rfl : f = _ := by simpa using h
    exact ⟨trivial, fun f h => by simp at h⟩
variable {P : Program} {d : Option Tmp} {ty : TypeId} {pos : String} {af : Array Edge} {g : Option (Nat × Bool)}
theorem x_peqN {x y : Operand} {xt yt e : TypeId} {q : Option Addr} (hu : P.underlying xt = some (.pointer e)) (hx : a.eval x = .pointer q) (hy : a.eval y = .pointer none) : (execOp a.eval ⟨d, .binOp .eql xt x y yt, ty, pos, af, g⟩).run P w = .ok (.value (.bool q.isNone)) w := by
  refine x_bin hx hy (by simp [eqGuard]) ?_
  rw [run_eql_pointer_nil w xt _ (by rw [hu]; simp [Program.pointee, hu])]
theorem x_pneN {x y : Operand} {xt yt e : TypeId} {q : Option Addr} (hu : P.underlying xt = some (.pointer e)) (hx : a.eval x = .pointer q) (hy : a.eval y = .pointer none) : (execOp a.eval ⟨d, .binOp .neq xt x y yt, ty, pos, af, g⟩).run P w = .ok (.value (.bool (!q.isNone))) w := by
  refine x_bin hx hy (by simp [eqGuard]) ?_
  rw [run_neq_pointer_nil w xt _ (by rw [hu]; simp [Program.pointee, hu])]
end
section
variable {P : Program} {ops : Array Oper} {F : Nat → Prop} {w0 W : World} {m0 : List BS} {n i : Nat} {fs : List RF} {os : List OF} {ty : TypeId} {pos : String} {af : Array Edge} {Q : Exit → Act → World → Prop} {D A : List Nat} {cls : List (Nat × Nat)}
/-- a call that gives a new row, in a drawn region -/
theorem hcr {α : Type} {En : Enc α} {d : Nat} {t : TypeId} {z0 : Nat} {ys : List α} {js : List Nat} {E : List (Nat × Td (In (picks (ow os) js)))} {a : Act} {w : World} {L' : List (Nat × Value)} {rs' : List RF} {f : FuncId} {args : Array Operand} {ats : Array TypeId} {vs : Array Value} {R : Ending → World → Prop} (S : St F w0 m0 n L' rs' os a w) (M : Mm F w0 m0 fs os w) (G : Ch (In (picks (ow os) js)) W w)
    (hc : Calls P f vs w R) (hf : Callable P f) (he : lookT d E = some (rowT En t z0 (picks (ow os) js) ys)) (hz0 : z0 = W.heap.size)
    (hR : ∀ e w', R e w' → ∃ ra rc, e = .returned (.slice ra ys.length rc) ∧ w'.ownsRow w.heap.size t En.n (.slice ra ys.length rc) ys.length (ys.flatMap En.cells) ∧ Ch (In []) w w')
    (hv : args.toList.map (evS L') = vs.toList.map some := by rfl) (hk : ops[i]? = some ⟨some d, .call ⟨.value (.func f), args, ats⟩, ty, pos, af, none⟩ ∧ d < n := by exact ⟨rfl, by decide⟩) : wpOp P ops Q i (DoneC A cls D ⟨some d, .call ⟨.value (.func f), args, ats⟩, ty, pos, af, none⟩ (tq E) (Mm F w0 m0 fs os) n a w) a w :=
  head_op hk.1 rfl (op_call (args_eval S.s hv) hf hc fun e w' he' => by
    obtain ⟨ra, rc, h1, h2, h3⟩ := hR e w' he'
    have hb := row_blk (En := En) h2
    refine ⟨_, h1, ⟨⟨_, rfl, fun e' he'' => ?_⟩, h3.mono fun _ h => h.elim, M.k0 h3⟩⟩
    have hee : e' = d := (Option.some.inj he'').symm
    subst hee
    refine ⟨hk.2, (look_tq he).2 ⟨ra, rc, rfl, ⟨h2.1, h2.2.imp id fun ⟨g, c, cur, q1, q2, q3⟩ => ⟨g, c, cur, q1, Nat.le_trans (by rw [hz0]; exact G.size) q2, q3⟩⟩, fun k hk' hm => ?_⟩, fun _ k hk' => .inl (own_lt h2 k hk').1⟩
    have := M.c.ms.lt _ (in_picks hm)
    have := (hb k hk').1
    omega)
end
section
variable {P : Program} {ops : Array Oper} {F : Nat → Prop} {w0 : World} {m0 : List BS} {n : Nat} {L : List (Nat × Value)} {fs : List RF} {os : List OF} {ty : TypeId} {pos : String} {af : Array Edge}
/-- a call whose guard is known to be on -/
theorem ocon (gd : Nat) {j : Nat} {b : Bool} {d : Nat} {f : FuncId} {args : Array Operand} {ats : Array TypeId} {vs : Array Value} {v : Value} (hv : look gd L = some (.bool b)) (h : ∀ {a w}, St F w0 m0 n L fs os a w → Calls P f vs w fun e w' => e = .returned v ∧ Tr [] w [] w') (hf : Callable P f) (ha : args.toList.map (evS L) = vs.toList.map some := by rfl)
    (hk : ∃ p, ops[j]? = some p ∧ p.dst = some gd ∧ gd < n ∧ d < n := by exact ⟨_, rfl, rfl, by decide, by decide⟩) :
    One P ops (St F w0 m0 n L fs os) [] ⟨some d, .call ⟨.value (.func f), args, ats⟩, ty, pos, af, some (j, b)⟩ (St F w0 m0 n ((d, v) :: L) fs os) := fun K Q a w S k => by
  obtain ⟨p, h2, h3, h4, h6⟩ := hk
  have hw := want_iff (a := a) (o := ⟨some d, .call ⟨.value (.func f), args, ats⟩, ty, pos, af, some (j, b)⟩) rfl h2 h3 (by rw [S.s.size]; exact h4) (S.s.get gd _ hv)
  unfold Core
  rw [if_pos (hw.2 rfl)]
  exact .inl (op_call (args_eval S.s ha) hf (h S) fun e w' ⟨he, t⟩ => ⟨v, he, k _ _ (S.k0 (S.s.put h6) t) t.ch⟩)
end
end Go.Proofs.Ytobggnpnochnnaa.V
/- Structs of numbers and truth values are compared. -/
namespace Go.Proofs.Ytobggnpnochnnaa.V
open Go.RowKit
inductive Cmp (P : Program) : TypeId → Value → Value → Prop → Prop
  | int {t : TypeId} {k : IntKind} {a b : Int} (h : P.underlying t = some (.int k)) : Cmp P t (.int k a) (.int k b) (a = b)
  | bool {t : TypeId} {p q : Prop} [Decidable p] [Decidable q] (h : P.underlying t = some .bool) : Cmp P t (.bool (decide p)) (.bool (decide q)) (p ↔ q)
  | boolF {t : TypeId} {p : Prop} [Decidable p] (h : P.underlying t = some .bool) : Cmp P t (.bool (decide p)) (.bool false) (¬ p)
  | boolT {t : TypeId} {p : Prop} [Decidable p] (h : P.underlying t = some .bool) : Cmp P t (.bool (decide p)) (.bool true) p
inductive CmpL (P : Program) (xs ys : Array Value) : List Field → Nat → Prop → Prop
  | one {f : Field} {o : Nat} {u v : Value} {q : Prop} (n : (f.name != "_") = true) (ho : f.offset = o) (hx : xs[o]? = some u) (hy : ys[o]? = some v) (c : Cmp P f.type u v q) : CmpL P xs ys [f] o q
  | cons {f g : Field} {fs : List Field} {o : Nat} {u v : Value} {q r : Prop} (n : (f.name != "_") = true) (ho : f.offset = o) (hx : xs[o]? = some u) (hy : ys[o]? = some v) (c : Cmp P f.type u v q) (h : CmpL P xs ys (g :: fs) (o + 1) r) : CmpL P xs ys (f :: g :: fs) o (q ∧ r)
section
variable {P : Program} {w : World} {xs ys : Array Value}
theorem Cmp.run {t : TypeId} {u v : Value} {q : Prop} (h : Cmp P t u v q) : (∃ b : Bool, (Op.equalIn 9999 t u v).run P w = .ok b w ∧ (b = true ↔ q)) ∧ ∀ (zs : Array Value) (o : Nat) (z : Value), zs[o]? = some z → (part t zs o).run P w = .ok z w := by
  cases h with
  | int h => exact ⟨⟨_, run_equalIn_int (P := P) w 9998 t _ _ _ _ h, by simp⟩, fun zs o z hz => by simp [part, isAgg, run_underlying h, hz]⟩
  | bool h => exact ⟨⟨_, run_equalIn_bool (P := P) w 9998 t _ _ h, by simp⟩, fun zs o z hz => by simp [part, isAgg, run_underlying h, hz]⟩
  | boolF h => exact ⟨⟨_, run_equalIn_bool (P := P) w 9998 t _ _ h, by simp⟩, fun zs o z hz => by simp [part, isAgg, run_underlying h, hz]⟩
  | boolT h => exact ⟨⟨_, run_equalIn_bool (P := P) w 9998 t _ _ h, by simp⟩, fun zs o z hz => by simp [part, isAgg, run_underlying h, hz]⟩
theorem CmpL.run : ∀ {fs : List Field} {o : Nat} {q : Prop}, CmpL P xs ys fs o q → ∃ b : Bool, (Op.eqFields 9999 xs ys fs).run P w = .ok b w ∧ (b = true ↔ q)
  | _, _, _, .one n ho hx hy c => by
    obtain ⟨⟨b, h1, h2⟩, h3⟩ := c.run (w := w)
    subst ho
    have n' := bne_iff_ne.1 n
    refine ⟨b, ?_, h2⟩
    simp only [Op.eqFields, if_pos n', Sem.run_bind, h3 _ _ _ hx, h3 _ _ _ hy, Result.andThen_ok, h1, Sem.run_ite, Sem.run_pure]
    cases b <;> rfl
  | _, _, _, .cons n ho hx hy c r => by
    obtain ⟨⟨b, h1, h2⟩, h3⟩ := c.run (w := w)
    obtain ⟨b2, h4, h5⟩ := r.run
    subst ho
    have n' := bne_iff_ne.1 n
    refine ⟨b && b2, ?_, by rw [Bool.and_eq_true, h2, h5]⟩
    rw [Op.eqFields]
    simp only [if_pos n', Sem.run_bind, h3 _ _ _ hx, h3 _ _ _ hy, Result.andThen_ok, h1, Sem.run_ite, Sem.run_pure]
    cases b
    · rfl
    · simpa using h4
theorem cmp_run {t : TypeId} {fa : Array Field} {q : Prop} [Decidable q] (ht : P.underlying t = some (.struct fa)) (hs : P.stoodInHeld t = false) (hc : CmpL P xs ys fa.toList 0 q) : (Op.equalIn 10000 t (.agg xs) (.agg ys)).run P w = .ok (decide q) w := by
  have ht' : P.underlying t = some (.struct (P.fieldsOf t)) := by unfold Program.fieldsOf; rw [ht]
  have hf : (P.fieldsOf t).toList = fa.toList := by unfold Program.fieldsOf; rw [ht]
  obtain ⟨b, h1, h2⟩ := hc.run (w := w)
  rw [run_equalIn_struct (P := P) w 9999 t _ _ ht' hs, hf, h1]
  congr 1
  cases b <;> simp_all
variable {act : Act} {d : Option Tmp} {ty : TypeId} {pos : String} {af : Array Edge} {g : Option (Nat × Bool)} {x y : Operand} {t yt : TypeId} {fa : Array Field} {q : Prop} [Decidable q]
theorem x_ageql (ht : P.underlying t = some (.struct fa)) (hs : P.stoodInHeld t = false) (hg : P.eqGuardType P.depth t = false) (hx : act.eval x = .agg xs) (hy : act.eval y = .agg ys) (hc : CmpL P xs ys fa.toList 0 q) :
    (execOp act.eval ⟨d, .binOp .eql t x y yt, ty, pos, af, g⟩).run P w = .ok (.value (.bool (decide q))) w := by
  simp only [execOp, hx, hy, Sem.run_bind, run_eqGuard_agg (P := P) w .eql t x y _ _ hg, Result.andThen_ok, run_eql_struct, cmp_run ht hs hc, Sem.run_pure]
end
end Go.Proofs.Ytobggnpnochnnaa.V
/- Regions that draw their order: operations that give the same value whenever they run are taken as soon as they may. -/
namespace Go.Proofs.Ytobggnpnochnnaa.V
open Go.RowKit
theorem getD_set_any {b : Array Bool} {i j : Nat} {v d : Bool} (h : i ≠ j) : (b.setIfInBounds i v).getD j d = b.getD j d := by
  simp [Array.getElem?_setIfInBounds_ne h]
def seqT (ops : Array Oper) : List Nat → Array Bool → Bool
  | [], listed => (Region.ready .any ops listed).isEmpty
  | k :: ks, listed => decide (Region.ready .any ops listed = [k]) && seqT ops ks (listed.setIfInBounds k true)
def fullB (m : Nat) (ks : List Nat) : Array Bool := ((List.range m).map fun j => !ks.contains j).toArray
theorem fullB_get {m : Nat} {ks : List Nat} {j : Nat} (h : j < m) (d : Bool) : (fullB m ks).getD j d = !ks.contains j := by unfold fullB; simp [h]
def cntB (m : Nat) (ks : List Nat) (listed : Array Bool) : Nat := ((List.range m).filter fun j => !ks.contains j && !listed.getD j true).length
theorem cnt_set {m : Nat} {ks : List Nat} {listed : Array Bool} {i : Nat} (hi : i < m) (hk : ks.contains i = false) (hl : listed.getD i true = false) : cntB m ks listed = cntB m ks (listed.setIfInBounds i true) + 1 := by
  unfold cntB
  induction m with
  | zero => omega
  | succ m ih =>
    rw [List.range_succ, List.filter_append, List.filter_append, List.length_append, List.length_append]
    have hs : (listed.setIfInBounds i true).getD i true = true := by
      rcases Nat.lt_or_ge i listed.size with h | h
      · simp [h]
      · simp [h]
    by_cases h : i = m
    · subst h
      have e : ((List.range i).filter fun j => !ks.contains j && !(listed.setIfInBounds i true).getD j true) = (List.range i).filter fun j => !ks.contains j && !listed.getD j true := by
        apply List.filter_congr
        intro j hj
        have := List.mem_range.1 hj
        rw [getD_set_any (by omega)]
      rw [e]
      simp only [List.filter_cons, List.filter_nil, hk, hl, hs, Bool.not_false, Bool.not_true, Bool.and_self, Bool.and_false, if_true, Bool.false_eq_true, if_false, List.length_cons, List.length_nil]
    · have := ih (by omega)
      have e : (listed.setIfInBounds i true).getD m true = listed.getD m true := getD_set_any h
      rw [this]
      simp only [List.filter_cons, List.filter_nil, e]
      omega
def freeS (ops : Array Oper) (z : Nat) : Bool := match ops[z]? with
  | none => false
  | some oi => oi.guard.isNone && (List.range ops.size).all fun j => j == z || match ops[j]? with
    | some oj => oj.after.any (fun e => Region.binds .any e && e.on == z) || oi.after.any (fun e => Region.binds .any e && e.on == j) || oi.apart ops oj
    | none => true
/-- i, and all that waits for it, has not come up -/
def downS (ops : Array Oper) (i : Nat) (b : Array Bool) (j : Nat) : Array Bool := match ops[j]? with
  | some o => bif j == i || o.after.any (fun e => Region.binds .any e && !b.getD e.on true) then b.setIfInBounds j false else b
  | none => b
def downB (ops : Array Oper) (i : Nat) : List Nat → Array Bool → Array Bool
  | [], b => b
  | j :: r, b => downB ops i r (downS ops i b j)
theorem downB_le {ops : Array Oper} {i : Nat} {listed : Array Bool} (hi : listed.getD i false = false) (hc : ∀ t o, ops[t]? = some o → listed.getD t false = true → ∀ e ∈ o.after, Region.binds .any e = true → listed.getD e.on false = true) :
    ∀ (l : List Nat) (b : Array Bool), (∀ t, listed.getD t false = true → b.getD t false = true) → ∀ t, listed.getD t false = true → (downB ops i l b).getD t false = true
  | [], _, h => h
  | j :: r, b, h => by
    rw [downB]
    refine downB_le hi hc r _ fun t ht => ?_
    unfold downS
    cases ho : ops[j]? with
    | none => exact h t ht
    | some o =>
      dsimp only
      cases hb : (j == i || o.after.any fun e => Region.binds .any e && !b.getD e.on true) with
      | false => exact h t ht
      | true =>
        show (b.setIfInBounds j false).getD t false = true
        by_cases hj : j = t
        · subst hj
          exfalso
          rcases Bool.or_eq_true_iff.1 hb with q | q
          · have : j = i := by simpa using q
            subst this; rw [hi] at ht; cases ht
          · obtain ⟨e, he, hb2⟩ := Array.any_eq_true'.1 q
            simp only [Bool.and_eq_true, Bool.not_eq_true'] at hb2
            have := h e.on (hc j o ho ht e he hb2.1)
            have h2 := getD_both hb2.2
            rw [h2] at this; cases this
        · rw [getD_set_any hj]; exact h t ht
theorem downB_no {ops : Array Oper} {i t : Nat} : ∀ (l : List Nat) (b : Array Bool), b.getD t true = false → (downB ops i l b).getD t true = false
  | [], _, h => h
  | j :: r, b, h => by
    rw [downB]
    refine downB_no r _ ?_
    unfold downS
    cases ops[j]? with
    | none => exact h
    | some o =>
      dsimp only
      cases (j == i || o.after.any fun e => Region.binds .any e && !b.getD e.on true) with
      | false => exact h
      | true =>
        show (b.setIfInBounds j false).getD t true = false
        by_cases hj : j = t
        · subst hj
          have hlt : j < b.size := by
            rcases Nat.lt_or_ge j b.size with g | g
            · exact g
            · simp [Array.getElem?_eq_none g] at h
          simp [hlt]
        · rw [getD_set_any hj]; exact h
def chk5 (ops : Array Oper) (n : Nat) (zs ks : List Nat) : Bool :=
  decide (n ≤ ops.size) && zs.all (fun z => decide (z < ops.size) && !ks.contains z && freeS ops z) && ks.all (fun k => decide (n ≤ k)) &&
  (List.range ops.size).all (fun j => ks.contains j || ((decide (j < n) || zs.contains j) && match ops[j]? with
    | some o => o.after.all fun e => !Region.binds .any e || (decide (e.on < j) && !ks.contains e.on)
    | none => false)) &&
  (List.range n).all (fun i => (Region.ready .any ops (downB ops i (List.range ops.size) (fullB ops.size ks))).all fun t => !ks.contains t) &&
  seqT ops ks (fullB ops.size ks) && Region.noSelect ops && decide (cntB ops.size ks (Array.replicate ops.size false) + ks.length = ops.size)
section
variable {P : Program} {Q : Exit → Act → World → Prop} {ops : Array Oper}
theorem wpAny_of_seqT : ∀ (l : List Oper) (ks : List Nat) (listed : Array Bool) (a : Act) (w : World), l.map some = ks.map (fun k => ops[k]?) → seqT ops ks listed = true → wpList P ops Q l a w → wpAny P .any ops Q ks.length listed a w
  | [], [], _, _, _, _, hB, h => ⟨by simpa [seqT] using hB, h⟩
  | o :: l, k :: ks, listed, a, w, hl, hB, h => by
    rw [List.map_cons, List.map_cons, List.cons.injEq] at hl
    simp only [seqT, Bool.and_eq_true, decide_eq_true_eq] at hB
    refine ⟨fun h1 => (by rw [hB.1] at h1; cases h1), fun i hi => ?_⟩
    rw [hB.1] at hi
    obtain rfl : i = k := by simpa using hi
    have hw : wpOp P ops Q i (wpList P ops Q l) a w := by unfold wpOp; simp only [← hl.1]; exact h
    exact wpOp_mono (fun a' w' h' => wpAny_of_seqT l ks _ a' w' hl.2 hB.2 h') hw
  | [], _ :: _, _, _, _, hl, _, _ => by simp at hl
  | _ :: _, [], _, _, _, hl, _, _ => by simp at hl
theorem sched5 {G : Array Bool → Act → World → Prop} (n : Nat) (zs ks : List Nat) (tail : List Oper) (htl : tail.map some = ks.map fun k => ops[k]?) (chk : chk5 ops n zs ks = true) (hQ : ∀ c a d v w, Q (.panic c) (a.put (some d) v) w → Q (.panic c) a w)
    (hhead : ∀ i, i < n → ∀ listed a w, listed.size = ops.size → G listed a w → i ∈ Region.ready .any ops listed → wpOp P ops Q i (fun a' w' => G (listed.setIfInBounds i true) a' w') a w)
    (hlazy : ∀ z ∈ zs, ∀ listed a w, G listed a w → z ∈ Region.ready .any ops listed → ∃ o v d, ops[z]? = some o ∧ o.dst = some d ∧ Yields P ops o v a ∧ G (listed.setIfInBounds z true) (a.put o.dst v) w)
    (fin : ∀ a w, G (fullB ops.size ks) a w → wpList P ops Q tail a w) :
    ∀ (f : Nat) (listed : Array Bool) (a : Act) (w : World), cntB ops.size ks listed = f → listed.size = ops.size → (∀ k ∈ ks, ∀ d, k < ops.size → listed.getD k d = false) → (∀ t o, ops[t]? = some o → listed.getD t false = true → ∀ e ∈ o.after, Region.binds .any e = true → listed.getD e.on false = true) → G listed a w → wpAny P .any ops Q (f + ks.length) listed a w := by
  simp only [chk5, Bool.and_eq_true, decide_eq_true_eq] at chk
  obtain ⟨⟨⟨⟨⟨⟨⟨c1, c2⟩, c3⟩, c4⟩, c5⟩, c6⟩, c7⟩, _⟩ := chk
  have hc4 : ∀ j, j < ops.size → ks.contains j = false → (j < n ∨ j ∈ zs) ∧ ∃ o, ops[j]? = some o ∧ ∀ e ∈ o.after, Region.binds .any e = true → e.on < j ∧ ks.contains e.on = false := fun j hj hk => by
    have h := List.all_eq_true.1 c4 j (List.mem_range.2 hj)
    rw [hk, Bool.false_or] at h
    cases ho : ops[j]? with
    | none => rw [ho] at h; simp at h
    | some o =>
      rw [ho] at h
      simp only [Bool.and_eq_true, Bool.or_eq_true, decide_eq_true_eq, List.contains_iff_mem] at h
      refine ⟨h.1, o, rfl, fun e he hb => ?_⟩
      have := Array.all_eq_true_iff_forall_mem.1 h.2 e he
      simpa [hb] using this
  intro f
  induction f with
  | zero =>
    intro listed a w hf hs hks hcl hG
    have hl : listed = fullB ops.size ks := by
      apply Array.ext
      · rw [hs]; simp [fullB]
      · intro i h1 h2
        have hi : i < ops.size := by omega
        have key : listed.getD i true = (fullB ops.size ks).getD i true := by
          rw [fullB_get hi]
          by_cases hk : ks.contains i = true
          · rw [hk, hks i (List.contains_iff_mem.1 hk) true hi]; rfl
          · have hk' : ks.contains i = false := by simpa using hk
            have h3 := List.filter_eq_nil_iff.1 (List.length_eq_zero_iff.1 hf) i (List.mem_range.2 hi)
            rw [hk'] at h3 ⊢
            simpa using h3
        simpa [h1, h2] using key
    subst hl
    rw [Nat.zero_add]
    exact wpAny_of_seqT tail ks _ a w htl c6 (fin a w hG)
  | succ f ih =>
    intro listed a w hf hs hks hcl hG
    rw [show f + 1 + ks.length = (f + ks.length) + 1 from by omega]
    -- the first that has not come up
    have hex : ∃ j, j < ops.size ∧ ks.contains j = false ∧ listed.getD j true = false ∧ ∀ k, k < j → ks.contains k = false → listed.getD k true = true := by
      have hne : ∃ j, (j < ops.size ∧ ks.contains j = false ∧ listed.getD j true = false) := by
        have h0 : ((List.range ops.size).filter fun j => !ks.contains j && !listed.getD j true) ≠ [] := fun h => by
          unfold cntB at hf; rw [h] at hf; simp at hf
        obtain ⟨j, hj⟩ := List.exists_mem_of_ne_nil _ h0
        have := List.mem_filter.1 hj
        simp only [Bool.and_eq_true, Bool.not_eq_true'] at this
        exact ⟨j, List.mem_range.1 this.1, this.2.1, this.2.2⟩
      obtain ⟨j, hj⟩ := hne
      induction j using Nat.strongRecOn with
      | _ j ihj =>
        by_cases hk : ∃ k, k < j ∧ ks.contains k = false ∧ listed.getD k true = false
        · obtain ⟨k, h1, h2, h3⟩ := hk
          exact ihj k h1 ⟨by omega, h2, h3⟩
        · refine ⟨j, hj.1, hj.2.1, hj.2.2, fun k h1 h2 => ?_⟩
          cases h : listed.getD k true
          · exact absurd ⟨k, h1, h2, h⟩ hk
          · rfl
    obtain ⟨j, hj1, hj2, hj3, hj4⟩ := hex
    have hjr : j ∈ Region.ready .any ops listed := by
      obtain ⟨_, o, ho, h⟩ := hc4 j hj1 hj2
      refine mem_ready.2 ⟨hj3, o, ho, fun e he hb => ?_⟩
      obtain ⟨h1, h2⟩ := h e he hb
      have h3 := hj4 e.on h1 h2
      have h4 : e.on < listed.size := by omega
      simp [h4] at h3 ⊢
      exact h3
    have next : ∀ i, i ∈ Region.ready .any ops listed → ks.contains i = false → ∀ a' w', G (listed.setIfInBounds i true) a' w' → wpAny P .any ops Q (f + ks.length) (listed.setIfInBounds i true) a' w' := fun i hi hk a' w' hG' => by
      obtain ⟨hil, o, ho, hall⟩ := mem_ready.1 hi
      have hlt := (Array.getElem?_eq_some_iff.1 ho).1
      have := cnt_set hlt hk hil
      refine ih _ a' w' (by omega) (by simp [hs]) (fun k hkm d hlt' => ?_) (fun t p hp ht e he hb => ?_) hG'
      rotate_left
      · by_cases hti : i = t
        · subst hti
          obtain rfl := Option.some.inj (ho.symm.trans hp)
          exact getD_set_true (hall e he hb)
        · rw [getD_set_any hti] at ht
          exact getD_set_true (hcl t p hp ht e he hb)
      rw [getD_set_any (fun e => by subst e; rw [List.contains_iff_mem.2 hkm] at hk; cases hk)]
      exact hks k hkm d hlt'
    by_cases hz : ∃ z, z ∈ zs ∧ z ∈ Region.ready .any ops listed
    · obtain ⟨z, hzs, hzr⟩ := hz
      have hc := List.all_eq_true.1 c2 z hzs
      simp only [Bool.and_eq_true, decide_eq_true_eq, Bool.not_eq_true'] at hc
      obtain ⟨o, v, dd, ho, hdd, hy, hG'⟩ := hlazy z hzs listed a w hG hzr
      obtain ⟨_, o', ho', hall⟩ := mem_ready.1 hzr
      obtain rfl := Option.some.inj (ho.symm.trans ho')
      refine wpAny_first ho (Region.noSelect_spec c7) (fun c a w hq => hQ c a dd v w (by rw [hdd] at hq; exact hq)) _ listed a w (fun k ok hk hkz hkl hno => ?_) hzr hy (next z hzr hc.1.2 _ w hG')
      have hfr := hc.2
      unfold freeS at hfr
      rw [ho] at hfr
      simp only [Bool.and_eq_true] at hfr
      have h1 := List.all_eq_true.1 hfr.2 k (List.mem_range.2 (Array.getElem?_eq_some_iff.1 hk).1)
      rw [hk] at h1
      simp only [Bool.or_eq_true, beq_iff_eq, hkz, false_or] at h1
      rcases h1 with (h1 | h1) | h1
      · obtain ⟨e, he, hb⟩ := Array.any_eq_true'.1 h1
        simp only [Bool.and_eq_true, beq_iff_eq] at hb
        exact absurd hb.2 (hno e he hb.1)
      · obtain ⟨e, he, hb⟩ := Array.any_eq_true'.1 h1
        simp only [Bool.and_eq_true, beq_iff_eq] at hb
        have h2 := hall e he hb.1
        rw [hb.2, getD_both hkl] at h2; cases h2
      · exact h1
    · have hjn : j < n := by
        rcases (hc4 j hj1 hj2).1 with h | h
        · exact h
        · exact absurd ⟨j, h, hjr⟩ hz
      refine ⟨fun h => (by rw [h] at hjr; cases hjr), fun i hi => ?_⟩
      obtain ⟨hil, o, ho, hall⟩ := mem_ready.1 hi
      have hlt := (Array.getElem?_eq_some_iff.1 ho).1
      have hik : ks.contains i = false := by
        cases hk : ks.contains i
        · rfl
        · have hge : n ≤ i := by have := List.all_eq_true.1 c3 i (List.contains_iff_mem.1 hk); simpa using this
          have hmem : i ∈ Region.ready .any ops (downB ops j (List.range ops.size) (fullB ops.size ks)) := by
            refine mem_ready.2 ⟨downB_no _ _ (by rw [fullB_get hlt, hk]; rfl), o, ho, fun e he hb => ?_⟩
            refine downB_le (getD_both hj3) hcl _ _ (fun t ht => ?_) e.on (hall e he hb)
            have hlt2 : t < ops.size := by
              rcases Nat.lt_or_ge t listed.size with g | g
              · omega
              · simp [Array.getElem?_eq_none g] at ht
            rw [fullB_get hlt2]
            cases hk2 : ks.contains t
            · rfl
            · rw [hks t (List.contains_iff_mem.1 hk2) false hlt2] at ht; cases ht
          have h2 := List.all_eq_true.1 (List.all_eq_true.1 c5 j (List.mem_range.2 hjn)) i hmem
          rw [hk] at h2; cases h2
      have hin : i < n := by
        rcases (hc4 i hlt hik).1 with h | h
        · exact h
        · exact absurd ⟨i, h, hi⟩ hz
      exact wpOp_mono (fun a' w' hG' => next i hi hik a' w' hG') (hhead i hin listed a w hs hG hi)
end
section
variable {P : Program} {F : Nat → Prop} {w0 : World} {m0 : List BS} {n : Nat} {L : List (Nat × Value)} {fs : List RF} {os : List OF} {Q : Exit → Act → World → Prop}
/-- an operation that gives the same value whenever it runs: index, slot, value, which slots of heads and of its kind it reads -/
structure Zop where
  i : Nat
  d : Nat
  v : Value
  D : List Nat
def zix : List Zop → List Nat
  | [] => []
  | z :: r => z.i :: zix r
theorem zix_mem {i : Nat} : ∀ {Z : List Zop}, i ∈ zix Z → ∃ z, z ∈ Z ∧ z.i = i
  | z :: r, h => (List.mem_cons.1 h).elim (fun e => ⟨z, List.mem_cons_self, e.symm⟩) fun h => let ⟨q, h1, h2⟩ := zix_mem h; ⟨q, List.mem_cons_of_mem _ h1, h2⟩
def LZ5 (P : Program) (ops : Array Oper) (N : Nat) (L : List (Nat × Value)) {M : Nat → Prop} (E : List (Nat × Td M)) : List Zop → Prop
  | [] => True
  | z :: r => ((∃ o, ops[z.i]? = some o ∧ o.guard = none ∧ o.dst = some z.d ∧ ∀ a w, Slots N (cat (vals E z.D) L) a → (execOp a.eval o).run P w = .ok (.value z.v) w) ∧ z.d < N ∧ lookT z.d E = some (.is z.v)) ∧ LZ5 P ops N L E r
theorem LZ5.get {ops : Array Oper} {N : Nat} {M : Nat → Prop} {E : List (Nat × Td M)} : ∀ {Z : List Zop}, LZ5 P ops N L E Z → ∀ z ∈ Z, (∃ o, ops[z.i]? = some o ∧ o.guard = none ∧ o.dst = some z.d ∧ ∀ a w, Slots N (cat (vals E z.D) L) a → (execOp a.eval o).run P w = .ok (.value z.v) w) ∧ z.d < N ∧ lookT z.d E = some (.is z.v)
  | _ :: _, h, z, hz => (List.mem_cons.1 hz).elim (fun e => e ▸ h.1) fun hz => LZ5.get h.2 z hz
def dstOf (ops : Array Oper) (j : Nat) : Option Nat := (ops[j]?).bind (·.dst)
def zOk5 (ops : Array Oper) (N : Nat) (L : List (Nat × Value)) (outs : List Nat) (Z : List Zop) : Bool :=
  Z.all (fun z => decide (N ≤ z.i) && z.D.all fun d => (List.range N ++ zix Z).any fun j => dstOf ops j == some d && match ops[z.i]? with | some o => o.after.any (fun e => Region.binds .any e && e.on == j) | none => false) &&
  (List.range N ++ zix Z).all (fun j => (List.range N ++ zix Z).all fun k => j == k || (dstOf ops j).isNone || dstOf ops j != dstOf ops k) &&
  L.all (fun p => Z.all fun z => z.d != p.1) && outs.all fun d => (List.range N ++ zix Z).any fun j => dstOf ops j == some d
def pickT (l : List Oper) : List Nat → List Oper
  | [] => []
  | k :: r => match l[k]? with
    | some o => o :: pickT l r
    | none => pickT l r
theorem pickT_map {l : List Oper} : ∀ {ks : List Nat}, (ks.all fun k => decide (k < l.length)) = true → (pickT l ks).map some = ks.map fun k => l.toArray[k]?
  | [], _ => rfl
  | k :: r, h => by
    simp only [List.all_cons, Bool.and_eq_true, decide_eq_true_eq] at h
    have e := List.getElem?_eq_getElem h.1
    rw [pickT, e, List.map_cons, List.map_cons, pickT_map h.2]
    simp [h.1]
/-- as dr3, with operations that are taken as soon as they may -/
theorem dr5 {id : Nat} {a : Act} {w : World} {l : List Oper} (S : St F w0 m0 n L fs os a w) (N : Nat) (Z : List Zop) (ks : List Nat) (A : List Nat) (cls : List (Nat × Nat)) (js : List Nat) (E : List (Nat × Td (In (picks (ow os) js)))) (Ds : List (List Nat)) (outs : List Nat) (tail : List Oper) (hA : OwnAll E A) (hz : LZ5 P l.toArray n L E Z)
    (step : HSC A cls P l.toArray Q F w0 w m0 n L fs os E 0 (l.take N) Ds)
    (fin : ∀ a w', St F w0 m0 n (cat (vals E outs) L) fs os a w' → Ch (In (picks (ow os) js)) w w' → pdeps E a w' outs → (∀ d e, (A.contains d && A.contains e && Ap cls d e) = true → ∀ b, blks (a.tmps.getD d undef) b → ¬ blks (a.tmps.getD e undef) b) → wpList P l.toArray Q tail a w')
    (htl : tail = pickT l ks := by rfl) (hm : P.follows .mixedOrders = true := by exact mixed)
    (hok : (headOk l.toArray N && depsOk l.toArray N 0 Ds && keysOk l.toArray N L && chk5 l.toArray N (zix Z) ks && zOk5 l.toArray N L outs Z && ks.all fun k => decide (k < l.length)) = true := by kernel_rfl) (hlen : Ds.length = N := by rfl) (hAh : A.all (isHead l.toArray N) = true := by kernel_rfl) (hirr : A.all (fun d => !Ap cls d d) = true := by decide)
    (hQ : ∀ c a d v w, Q (.panic c) (a.put (some d) v) w → Q (.panic c) a w := by exact fun _ _ _ _ _ h => h) : (Code.region id l.toArray true).wp P Q a w := by
  simp only [Bool.and_eq_true] at hok
  obtain ⟨⟨⟨⟨⟨h1, h2⟩, h3⟩, h5⟩, h6⟩, h7⟩ := hok
  have htl' : tail.map some = ks.map fun k => l.toArray[k]? := htl ▸ pickT_map h7
  simp only [zOk5, Bool.and_eq_true] at h6
  obtain ⟨⟨⟨z1, z2⟩, z3⟩, z4⟩ := h6
  have h5' := h5
  simp only [chk5, Bool.and_eq_true, decide_eq_true_eq] at h5'
  obtain ⟨⟨⟨⟨⟨⟨⟨c1, _⟩, _⟩, _⟩, _⟩, _⟩, _⟩, c8⟩ := h5'
  have hN : N ≤ l.length := by simpa using c1
  have hirr' : ∀ d ∈ A, Ap cls d d = false := fun d hd => by have := List.all_eq_true.1 hirr d hd; simpa using this
  have hdist : ∀ j k o p d, (j < N ∨ j ∈ zix Z) → (k < N ∨ k ∈ zix Z) → j ≠ k → l.toArray[j]? = some o → l.toArray[k]? = some p → o.dst = some d → p.dst ≠ some d := fun j k o p d hj hk hne ho hp hd => by
    have hm : ∀ j, (j < N ∨ j ∈ zix Z) → j ∈ List.range N ++ zix Z := fun j hj => List.mem_append.2 (hj.imp List.mem_range.2 fun h => h)
    have := List.all_eq_true.1 (List.all_eq_true.1 z2 j (hm j hj)) k (hm k hk)
    simp only [dstOf, ho, hp, Option.bind_some, hd, Option.isNone_some, Bool.or_eq_true, beq_iff_eq, bne_iff_ne, Bool.false_eq_true, or_false] at this
    exact fun e => (this.resolve_left hne) e.symm
  have hput : ∀ (a : Act) (o : Oper) (v : Value) d, o.dst ≠ some d → (a.put o.dst v).tmps.getD d undef = a.tmps.getD d undef := fun a o v d hd => by
    cases hod : o.dst with
    | none => rfl
    | some d' =>
      have : d' ≠ d := fun e => hd (by rw [hod, e])
      simp [Act.put, Array.getElem?_setIfInBounds_ne this]
  have hkey : ∀ j o, (j < N ∨ j ∈ zix Z) → l.toArray[j]? = some o → ∀ i v, look i L = some v → o.dst ≠ some i := fun j o hj ho i v hv hd => by
    rcases hj with hj | hj
    · have := List.all_eq_true.1 h3 _ (look_mem hv)
      have h : isHead l.toArray N i = true := List.any_eq_true.2 ⟨j, List.mem_range.2 hj, by rw [ho]; simp [hd]⟩
      rw [h] at this; cases this
    · obtain ⟨z, hzm, hzi⟩ := zix_mem hj
      obtain ⟨⟨o', ho', _, hd', _⟩, _, _⟩ := hz.get z hzm
      rw [hzi] at ho'
      obtain rfl := Option.some.inj (ho.symm.trans ho')
      have := List.all_eq_true.1 (List.all_eq_true.1 z3 _ (look_mem hv)) z hzm
      rw [hd] at hd'
      have e := Option.some.inj hd'
      simp [e] at this
  have hslots : ∀ (a : Act) j o v, (j < N ∨ j ∈ zix Z) → l.toArray[j]? = some o → Slots n L a → Slots n L (a.put o.dst v) := fun a j o v hj ho s => by
    refine ⟨by cases o.dst <;> simp [Act.put, s.size], by cases o.dst <;> simp [Act.put, s.defers], fun i u hu => ?_⟩
    rw [hput a o v i (hkey j o hj ho i u hu)]; exact s.get i u hu
  let G : Array Bool → Act → World → Prop := fun listed a w2 => ((Ch (In (picks (ow os) js)) w w2 ∧ Mm F w0 m0 fs os w2) ∧ PairsC A cls l.toArray N listed a) ∧ Slots n L a ∧ ∀ j, (j < N ∨ j ∈ zix Z) → listed.getD j false = true → ∀ o d, l.toArray[j]? = some o → o.dst = some d → lookE (tq E) d (a.tmps.getD d undef) w2
  have hstart : G (Array.replicate l.length false) a { w with drawn := w.drawn + 1 } :=
    ⟨⟨⟨(Ch.refl _).drew, S.m.drew⟩, fun j k p q d e _ _ hl => by rw [getD_replicate_false] at hl; cases hl⟩, ⟨S.s.size, S.s.defers, S.s.get⟩, fun j _ hl => by rw [getD_replicate_false] at hl; cases hl⟩
  refine wp_region_any hm ?_
  have hc8 : cntB l.toArray.size ks (Array.replicate l.toArray.size false) + ks.length = l.toArray.size := c8
  suffices key : wpAny P .any l.toArray Q (cntB l.toArray.size ks (Array.replicate l.toArray.size false) + ks.length) (Array.replicate l.toArray.size false) a { w with drawn := w.drawn + 1 } by
    rw [hc8] at key; exact key
  refine sched5 (G := G) N (zix Z) ks tail htl' h5 hQ ?_ ?_ ?_ _ _ a _ rfl (by simp) (fun k _ d hk => by simp [show k < l.length from by simpa using hk]) (fun t _ _ ht => by rw [getD_replicate_false] at ht; cases ht) hstart
  · intro i hi listed a1 w1 hls hG hr
    obtain ⟨hC, s, hdone⟩ := hG
    obtain ⟨hil, o, ho, hall⟩ := mem_ready.1 hr
    refine wpOp_mono ?_ (heads3_step (w := w) s N (tq E) (Mm F w0 m0 fs os) Ds A cls hirr' hA.get h1 h2 h3 hlen hN (HSC.steps _ _ _ step) i hi o ho listed a1 w1 hil hall (by simpa using hls) hC ⟨rfl, rfl, fun _ _ => rfl, fun j hj hl => hdone j (.inl hj) hl⟩ rfl rfl (fun _ _ => rfl) ?_)
    · rintro a' w2 ⟨⟨v, rfl, hv⟩, hC', hmono⟩
      refine ⟨hC', hslots a1 i o v (.inl hi) ho s, fun j hj hl p d hp hd => ?_⟩
      by_cases hji : j = i
      · subst hji
        obtain rfl : o = p := Option.some.inj (ho.symm.trans hp)
        obtain ⟨k1, k2⟩ := hv d hd
        rw [hd, getD_put a1 d d v k1, if_pos rfl]; exact k2
      · rw [getD_set_ne false (Ne.symm hji)] at hl
        rw [hput a1 o v d (hdist j i p o d hj (.inl hi) hji hp ho hd)]
        exact hmono d _ (hdone j hj hl p d hp hd)
    · intro k p d hk hp hd hlook
      have g1 := List.all_eq_true.1 h1 i (List.mem_range.2 hi)
      simp only [ho, Bool.and_eq_true] at g1
      have g2 := List.all_eq_true.1 g1.2 k (List.mem_range.2 hk)
      simp only [hp, hd, Bool.and_eq_true, Bool.or_eq_true, Bool.not_eq_true'] at g2
      rcases g2.2 with g3 | g3
      · rw [List.contains_eq_mem] at g3
        simp [hlook] at g3
      · obtain ⟨e, he, hb⟩ := Array.any_eq_true'.1 g3
        simp only [Bool.and_eq_true, beq_iff_eq] at hb
        exact hdone k (.inl hk) (by rw [← hb.2]; exact hall e he hb.1) p d hp hd
  · intro zi hzi listed a1 w1 hG hr
    obtain ⟨hC, s, hdone⟩ := hG
    obtain ⟨hil, o, ho, hall⟩ := mem_ready.1 hr
    obtain ⟨z, hzm, rfl⟩ := zix_mem hzi
    obtain ⟨⟨o', ho', hg, hd, hrun⟩, hzd, hlk⟩ := hz.get z hzm
    obtain rfl := Option.some.inj (ho.symm.trans ho')
    have hzz := List.all_eq_true.1 z1 z hzm
    simp only [Bool.and_eq_true, decide_eq_true_eq] at hzz
    have hdeps : ∀ D, (∀ d ∈ D, d ∈ z.D) → deps (tq E) a1 w1 D := by
      intro D
      induction D with
      | nil => intro _; trivial
      | cons d r ih =>
        intro hsub
        refine ⟨?_, ih fun d hd => hsub d (List.mem_cons_of_mem _ hd)⟩
        obtain ⟨j, hj, hj2⟩ := List.any_eq_true.1 (List.all_eq_true.1 hzz.2 d (hsub d List.mem_cons_self))
        rw [ho] at hj2
        simp only [Bool.and_eq_true, beq_iff_eq] at hj2
        obtain ⟨e, he, hb⟩ := Array.any_eq_true'.1 hj2.2
        simp only [Bool.and_eq_true, beq_iff_eq] at hb
        have hl := hall e he hb.1
        rw [hb.2] at hl
        have hj3 : j < N ∨ j ∈ zix Z := (List.mem_append.1 hj).imp List.mem_range.1 fun h => h
        cases hp : l.toArray[j]? with
        | none => simp [dstOf, hp] at hj2
        | some p => exact hdone j hj3 hl p d hp (by simpa [dstOf, hp] using hj2.1)
    have hS := (deps_open s z.D (hdeps z.D fun d hd => hd)).1
    refine ⟨o, z.v, z.d, ho, hd, .inl ⟨by simp [Region.wanted, hg], fun w' => hrun a1 w' hS⟩, ⟨⟨hC.1, fun j k p q d e hj hk hlj hlk' hp hq hd2 he hdA heA hne => ?_⟩, hslots a1 z.i o z.v (.inr hzi) ho s, fun j hj hl p d hp hd2 => ?_⟩⟩
    · rw [getD_set_ne false (by omega)] at hlj hlk'
      rw [hput a1 o z.v d (hdist j z.i p o d (.inl hj) (.inr hzi) (by omega) hp ho hd2), hput a1 o z.v e (hdist k z.i q o e (.inl hk) (.inr hzi) (by omega) hq ho he)]
      exact hC.2 j k p q d e hj hk hlj hlk' hp hq hd2 he hdA heA hne
    · by_cases hji : j = z.i
      · subst hji
        obtain rfl : o = p := Option.some.inj (ho.symm.trans hp)
        have e := Option.some.inj (hd.symm.trans hd2)
        subst e
        rw [hd, getD_put a1 z.d z.d z.v (by rw [s.size]; exact hzd), if_pos rfl]
        exact (look_tq hlk).2 rfl
      · rw [getD_set_ne false (Ne.symm hji)] at hl
        rw [hput a1 o z.v d (hdist j z.i p o d hj (.inr hzi) hji hp ho hd2)]
        exact hdone j hj hl p d hp hd2
  · intro a1 w1 hG
    obtain ⟨hC, s, hdone⟩ := hG
    have hin : ∀ j, (j < N ∨ j ∈ zix Z) → (fullB l.toArray.size ks).getD j false = true := fun j hj => by
      simp only [chk5, Bool.and_eq_true, decide_eq_true_eq] at h5
      obtain ⟨⟨⟨⟨⟨⟨⟨_, c2⟩, c3⟩, _⟩, _⟩, _⟩, _⟩, _⟩ := h5
      rcases hj with hj | hj
      · rw [fullB_get (by simpa using Nat.lt_of_lt_of_le hj hN)]
        cases hk : ks.contains j
        · rfl
        · have := List.all_eq_true.1 c3 j (List.contains_iff_mem.1 hk)
          simp at this; omega
      · have := List.all_eq_true.1 c2 j hj
        simp only [Bool.and_eq_true, decide_eq_true_eq, Bool.not_eq_true'] at this
        rw [fullB_get this.1.1, this.1.2]; rfl
    have hdeps : ∀ D, (∀ d ∈ D, d ∈ outs) → deps (tq E) a1 w1 D := by
      intro D
      induction D with
      | nil => intro _; trivial
      | cons d r ih =>
        intro hsub
        refine ⟨?_, ih fun d hd => hsub d (List.mem_cons_of_mem _ hd)⟩
        obtain ⟨j, hj, hj2⟩ := List.any_eq_true.1 (List.all_eq_true.1 z4 d (hsub d List.mem_cons_self))
        have hj3 : j < N ∨ j ∈ zix Z := (List.mem_append.1 hj).imp List.mem_range.1 fun h => h
        cases hp : l.toArray[j]? with
        | none => simp [dstOf, hp] at hj2
        | some p => exact hdone j hj3 (hin j hj3) p d hp (by simpa [dstOf, hp] using hj2)
    obtain ⟨k1, k2⟩ := deps_open s outs (hdeps outs fun d hd => hd)
    refine fin a1 w1 ⟨k1, hC.1.2⟩ hC.1.1 k2 fun d e hde => ?_
    simp only [Bool.and_eq_true, List.contains_iff_mem] at hde
    have hh := List.all_eq_true.1 hAh
    obtain ⟨j, p, g5, g6, g7⟩ := isHead_spec (hh d hde.1.1)
    obtain ⟨k, q, f5, f6, f7⟩ := isHead_spec (hh e hde.1.2)
    exact hC.2 j k p q d e g5 f5 (hin j (.inl g5)) (hin k (.inl f5)) g6 f6 g7 f7 hde.1.1 hde.1.2 hde.2
variable {chg : List BS} {ops : Array Oper} {o : Oper} {W : World} {A D : List Nat} {cls : List (Nat × Nat)} {i : Nat}
/-- a literal with elements, as a row of the call's own -/
def litT (q : Nat) (cs : List Value) (t : TypeId) (z0 : Nat) (chg : List BS) : Td (In chg) :=
  .of (fun z w => ∃ b, z = .slice (some ⟨b, 0, none⟩) q q ∧ Blk w.heap b cs t ∧ z0 ≤ b ∧ ¬ In chg b) fun _ _ _ c ⟨b, e, h, hn⟩ => ⟨b, e, h.tr c hn.2, hn⟩
theorem litT_owns {q t : Nat} {z0 : Nat} {cs : List Value} : Owns (litT q cs t z0 chg) := fun _ _ ⟨_, e, h, _⟩ x hx => by rw [e] at hx; cases hx; exact h.lt
theorem hcs {d q t z0 : Nat} {cs : List Value} {js : List Nat} {E : List (Nat × Td (In (picks (ow os) js)))} (he : lookT d E = some (litT q cs t z0 (picks (ow os) js))) (hz : z0 = W.heap.size)
    (hrun : ∀ {a w}, St F w0 m0 n (cat (vals E D) L) fs os a w → (execOp a.eval o).run P w = .ok (.value (.slice (some ⟨w.heap.size, 0, none⟩) q q)) (w.alloc (.cells cs.toArray t)))
    (hk : ops[i]? = some o ∧ o.guard = none ∧ o.dst = some d ∧ d < n := by exact ⟨rfl, rfl, rfl, by decide⟩) : HDC A cls P ops Q F w0 W m0 n L fs os E i o D := fun a w S G _ _ =>
  hcb S.m (hrun S) (fun b hb => (Option.some.inj hb).symm) ⟨hk.2.2.1, hk.2.2.2⟩ ((look_tq he).2 ⟨_, rfl, Blk.new _ cs t, by rw [hz]; exact G.size, not_chg S.m⟩) ⟨hk.1, hk.2.1⟩
end
end Go.Proofs.Ytobggnpnochnnaa.V
/- Bytes as a string. -/
namespace Go.Proofs.Ytobggnpnochnnaa.V
open Go.RowKit
section
variable {P : Program} {a : Act} {w : World} {d : Option Tmp} {ty : TypeId} {pos : String} {af : Array Edge} {g : Option (Nat × Bool)} {x : Operand} {src dst e : TypeId}
theorem x_bstr {D : Nat → Prop} (s : Sl Int) (H : (slE u8E).wf D w.heap s) (hs : P.underlying src = some (.slice e)) (he : P.underlying e = some (.int .u8)) (hd : P.underlying dst = some .string) (hx : a.eval x = .slice s.a s.xs.length s.c) : (execOp a.eval ⟨d, .convert src dst x, ty, pos, af, g⟩).run P w = .ok (.value (.string (strOfNums s.xs))) w := by
  have key : (convert src dst (.slice s.a s.xs.length s.c)).run P w = .ok (.string (strOfNums s.xs)) w := by
    rcases Nat.eq_zero_or_pos s.xs.length with h | h
    · cases hsa : s.a with
      | none =>
        rw [run_convert_bytes_string w src dst e none _ _ hs he hd, List.eq_nil_of_length_eq_zero h]
        rfl
      | some b =>
        rw [run_convert_bytes_string w src dst e (some b) _ _ hs he hd, List.eq_nil_of_length_eq_zero h]
        rfl
    · have hq := (H.1.ad h).1
      rw [hq]
      exact run_convert_bytes_arg (P := P) w src e hs he _ _ _ s.c s.xs rfl (fun i hi => by have h1 := H.1.cell i hi 0 (.int .u8 (s.xs.getD i 0)) rfl; rw [Nat.add_zero, show u8E.n = 1 from rfl, Nat.mul_one] at h1; exact h1) dst hd
  simp [execOp, hx, key]
theorem pbT {o : Oper} {b : Bool} (h : (execOp a.eval o).run P w = .ok (.value (.bool b)) w) (hb : b = true := by rfl) : (execOp a.eval o).run P w = .ok (.value (.bool (decide True))) w := by subst hb; exact h
theorem x_fldv {s : TypeId} {cs : List Value} {i : Nat} {fs : Array Field} {f : Field} {v : Value} (hu : P.underlying s = some (.struct fs)) (hf : fs[i]? = some f) (hs : Scalar P f.type) (hx : a.eval x = .agg cs.toArray) (hv : cs[f.offset]? = some v) : (execOp a.eval ⟨d, .field s x i, ty, pos, af, g⟩).run P w = .ok (.value v) w := by
  have hq : (part f.type cs.toArray f.offset).run P w = .ok v w := by
    have h2 : cs.toArray[f.offset]? = some v := by rw [List.getElem?_toArray]; exact hv
    unfold part
    simp [Sem.run_bind, Result.andThen, run_isAgg_scalar hs, h2, Sem.run_pure]
  simp [execOp, Instr.field, run_underlying hu, hf, hx, asAgg, hq]
end
end Go.Proofs.Ytobggnpnochnnaa.V
namespace Go.Proofs.Ytobggnpnochnnaa.V
open Go.RowKit
structure Chg where
  dev : Int
  ver : Int
def chgE : Enc Chg where
  n := 2
  cells x := [.int .i64 x.dev, .int .i64 x.ver]
  dflt := ⟨0, 0⟩
  wf D h x := inI64 x.dev ∧ inI64 x.ver
  len _ := rfl
  one x u hu := by simp only [List.mem_cons, List.not_mem_nil, or_false] at hu; rcases hu with rfl | rfl <;> rfl
  keep k h := ⟨h.1, h.2⟩
  mono k h := ⟨h.1, h.2⟩

structure Rec where
  kind : Int
  dev : Int
  inc : Int
  seq : Int
def recE : Enc Rec where
  n := 4
  cells x := [.int .i64 x.kind, .int .i64 x.dev, .int .i64 x.inc, .int .i64 x.seq]
  dflt := ⟨0, 0, 0, 0⟩
  wf D h x := inI64 x.kind ∧ inI64 x.dev ∧ inI64 x.inc ∧ inI64 x.seq
  len _ := rfl
  one x u hu := by simp only [List.mem_cons, List.not_mem_nil, or_false] at hu; rcases hu with rfl | rfl | rfl | rfl <;> rfl
  keep k h := ⟨h.1, h.2.1, h.2.2.1, h.2.2.2⟩
  mono k h := ⟨h.1, h.2.1, h.2.2.1, h.2.2.2⟩

structure Plan where
  staged : Bool
  rounds : Sl (Sl Chg)
def planE : Enc Plan where
  n := 2
  cells x := [.bool (decide (x.staged = true)), .slice x.rounds.a x.rounds.xs.length x.rounds.c]
  dflt := ⟨false, ⟨none, 0, []⟩⟩
  wf D h x := True ∧ (slE (slE chgE)).wf D h x.rounds
  len _ := rfl
  one x u hu := by simp only [List.mem_cons, List.not_mem_nil, or_false] at hu; rcases hu with rfl | rfl <;> rfl
  keep k h := ⟨h.1, (slE (slE chgE)).keep k h.2⟩
  mono k h := ⟨h.1, (slE (slE chgE)).mono k h.2⟩

structure Ctrl where
  round : Int
  back : Bool
  seq : Int
  target : Sl Int
  known : Sl Int
  waiting : Sl Int
def ctrlE : Enc Ctrl where
  n := 6
  cells x := [.int .i64 x.round, .bool (decide (x.back = true)), .int .i64 x.seq, .slice x.target.a x.target.xs.length x.target.c, .slice x.known.a x.known.xs.length x.known.c, .slice x.waiting.a x.waiting.xs.length x.waiting.c]
  dflt := ⟨0, false, 0, ⟨none, 0, []⟩, ⟨none, 0, []⟩, ⟨none, 0, []⟩⟩
  wf D h x := inI64 x.round ∧ True ∧ inI64 x.seq ∧ (slE intE).wf D h x.target ∧ (slE intE).wf D h x.known ∧ (slE intE).wf D h x.waiting
  len _ := rfl
  one x u hu := by simp only [List.mem_cons, List.not_mem_nil, or_false] at hu; rcases hu with rfl | rfl | rfl | rfl | rfl | rfl <;> rfl
  keep k h := ⟨h.1, h.2.1, h.2.2.1, (slE intE).keep k h.2.2.2.1, (slE intE).keep k h.2.2.2.2.1, (slE intE).keep k h.2.2.2.2.2⟩
  mono k h := ⟨h.1, h.2.1, h.2.2.1, (slE intE).mono k h.2.2.2.1, (slE intE).mono k h.2.2.2.2.1, (slE intE).mono k h.2.2.2.2.2⟩

structure Mach where
  rounds : Sl (Sl Chg)
  states : Sl (Sl Int)
  round : Int
  back : Bool
  seq : Int
  target : Sl Int
  known : Sl Int
  waiting : Sl Int
  sent : Sl Int
def machE : Enc Mach where
  n := 9
  cells x := [.slice x.rounds.a x.rounds.xs.length x.rounds.c, .slice x.states.a x.states.xs.length x.states.c, .int .i64 x.round, .bool (decide (x.back = true)), .int .i64 x.seq, .slice x.target.a x.target.xs.length x.target.c, .slice x.known.a x.known.xs.length x.known.c, .slice x.waiting.a x.waiting.xs.length x.waiting.c, .slice x.sent.a x.sent.xs.length x.sent.c]
  dflt := ⟨⟨none, 0, []⟩, ⟨none, 0, []⟩, 0, false, 0, ⟨none, 0, []⟩, ⟨none, 0, []⟩, ⟨none, 0, []⟩, ⟨none, 0, []⟩⟩
  wf D h x := (slE (slE chgE)).wf D h x.rounds ∧ (slE (slE intE)).wf D h x.states ∧ inI64 x.round ∧ True ∧ inI64 x.seq ∧ (slE intE).wf D h x.target ∧ (slE intE).wf D h x.known ∧ (slE intE).wf D h x.waiting ∧ (slE intE).wf D h x.sent
  len _ := rfl
  one x u hu := by simp only [List.mem_cons, List.not_mem_nil, or_false] at hu; rcases hu with rfl | rfl | rfl | rfl | rfl | rfl | rfl | rfl | rfl <;> rfl
  keep k h := ⟨(slE (slE chgE)).keep k h.1, (slE (slE intE)).keep k h.2.1, h.2.2.1, h.2.2.2.1, h.2.2.2.2.1, (slE intE).keep k h.2.2.2.2.2.1, (slE intE).keep k h.2.2.2.2.2.2.1, (slE intE).keep k h.2.2.2.2.2.2.2.1, (slE intE).keep k h.2.2.2.2.2.2.2.2⟩
  mono k h := ⟨(slE (slE chgE)).mono k h.1, (slE (slE intE)).mono k h.2.1, h.2.2.1, h.2.2.2.1, h.2.2.2.2.1, (slE intE).mono k h.2.2.2.2.2.1, (slE intE).mono k h.2.2.2.2.2.2.1, (slE intE).mono k h.2.2.2.2.2.2.2.1, (slE intE).mono k h.2.2.2.2.2.2.2.2⟩

structure Lg where
  m : Nat × Mach
  l : Sl Rec
def lgE : Enc Lg where
  n := 2
  cells x := [.pointer (some ⟨x.m.1, 0, none⟩), .slice x.l.a x.l.xs.length x.l.c]
  dflt := ⟨(0, machE.dflt), ⟨none, 0, []⟩⟩
  wf D h x := (ptE machE 166).wf D h x.m ∧ (slE recE).wf D h x.l
  len _ := rfl
  one x u hu := by simp only [List.mem_cons, List.not_mem_nil, or_false] at hu; rcases hu with rfl | rfl <;> rfl
  keep k h := ⟨(ptE machE 166).keep k h.1, (slE recE).keep k h.2⟩
  mono k h := ⟨(ptE machE 166).mono k h.1, (slE recE).mono k h.2⟩

def machF (B : Nat) (m : Mach) : List OF := [blO B (machE.cells m) 166, rwO intE 3 0 m.target.a m.target.c m.target.xs, rwO intE 3 0 m.known.a m.known.c m.known.xs, rwO intE 3 0 m.waiting.a m.waiting.c m.waiting.xs, rwO intE 3 0 m.sent.a m.sent.c m.sent.xs, daO (slE (slE chgE)) m.rounds, daO (slE (slE intE)) m.states]
theorem mo_mach (B : Nat) (m : Mach) : AllMo (machF B m) := ⟨mo_bl, mo_rw, mo_rw, mo_rw, mo_rw, mo_da, mo_da, trivial⟩
def machK (m : Mach) : Prop := inI64 m.round ∧ inI64 m.seq
theorem rd_mach {F W : Nat → Prop} {w : World} {B : Nat} {m : Mach} (hk : machK m) (D : Nat → Prop) (h : ∀ f ∈ machF B m, f.p F W w) (h1 : ∀ k, In (ow (machF B m)) k → k < w.heap.size → D k) (h2 : ∀ k, k < w.heap.size → Fw F W k → D k) : (ptE machE 166).wf D w.heap (B, m) :=
  have hb : Blk w.heap B (machE.cells m) 166 := h (blO B (machE.cells m) 166) (List.mem_of_getElem? (i := 0) rfl)
  ⟨hb, h1 B (.inl rfl) hb.lt, Enc.mono (slE (slE chgE)) h2 (h (daO (slE (slE chgE)) m.rounds) (List.mem_of_getElem? (i := 5) rfl)), Enc.mono (slE (slE intE)) h2 (h (daO (slE (slE intE)) m.states) (List.mem_of_getElem? (i := 6) rfl)), hk.1, trivial, hk.2, rd_rw (E := intE) (h _ (List.mem_of_getElem? (i := 1) rfl)) (by first | decide | exact Nat.one_pos | exact Nat.succ_pos _) (fun k hk => h1 k (in_mem (List.mem_of_getElem? (i := 1) rfl) hk)) h2, rd_rw (E := intE) (h _ (List.mem_of_getElem? (i := 2) rfl)) (by first | decide | exact Nat.one_pos | exact Nat.succ_pos _) (fun k hk => h1 k (in_mem (List.mem_of_getElem? (i := 2) rfl) hk)) h2, rd_rw (E := intE) (h _ (List.mem_of_getElem? (i := 3) rfl)) (by first | decide | exact Nat.one_pos | exact Nat.succ_pos _) (fun k hk => h1 k (in_mem (List.mem_of_getElem? (i := 3) rfl) hk)) h2, rd_rw (E := intE) (h _ (List.mem_of_getElem? (i := 4) rfl)) (by first | decide | exact Nat.one_pos | exact Nat.succ_pos _) (fun k hk => h1 k (in_mem (List.mem_of_getElem? (i := 4) rfl) hk)) h2⟩
def machQ (q : Option (Nat × Mach)) : List OF := match q with
  | none => []
  | some x => machF x.1 x.2
theorem mo_machQ (q : Option (Nat × Mach)) : AllMo (machQ q) := match q with
  | none => trivial
  | some x => mo_mach x.1 x.2
def machQK (q : Option (Nat × Mach)) : Prop := match q with
  | none => True
  | some x => machK x.2
def lgF (B : Nat) (m : Lg) : List OF := [blO B (lgE.cells m) 129, rwO recE 24 0 m.l.a m.l.c m.l.xs, bnO (machF m.m.1 m.m.2)]
theorem mo_lg (B : Nat) (m : Lg) : AllMo (lgF B m) := ⟨mo_bl, mo_rw, (mo_bn (mo_mach _ _)), trivial⟩
def lgK (m : Lg) : Prop := machK m.m.2
theorem rd_lg {F W : Nat → Prop} {w : World} {B : Nat} {m : Lg} (hk : lgK m) (D : Nat → Prop) (h : ∀ f ∈ lgF B m, f.p F W w) (h1 : ∀ k, In (ow (lgF B m)) k → k < w.heap.size → D k) (h2 : ∀ k, k < w.heap.size → Fw F W k → D k) : (ptE lgE 129).wf D w.heap (B, m) :=
  have hb : Blk w.heap B (lgE.cells m) 129 := h (blO B (lgE.cells m) 129) (List.mem_of_getElem? (i := 0) rfl)
  ⟨hb, h1 B (.inl rfl) hb.lt, rd_mach hk D (h (bnO (machF m.m.1 m.m.2)) (List.mem_of_getElem? (i := 2) rfl)).2 (fun k hk => h1 k (in_mem (o := In (ow (machF m.m.1 m.m.2))) (List.mem_of_getElem? (i := 2) rfl) hk)) h2, rd_rw (E := recE) (h _ (List.mem_of_getElem? (i := 1) rfl)) (by first | decide | exact Nat.one_pos | exact Nat.succ_pos _) (fun k hk => h1 k (in_mem (List.mem_of_getElem? (i := 1) rfl) hk)) h2⟩
def lgQ (q : Option (Nat × Lg)) : List OF := match q with
  | none => []
  | some x => lgF x.1 x.2
theorem mo_lgQ (q : Option (Nat × Lg)) : AllMo (lgQ q) := match q with
  | none => trivial
  | some x => mo_lg x.1 x.2
def lgQK (q : Option (Nat × Lg)) : Prop := match q with
  | none => True
  | some x => lgK x.2
end Go.Proofs.Ytobggnpnochnnaa.V
set_option linter.unusedVariables false
set_option linter.unusedSimpArgs false
/- What every claim of this seat needs: the conditions of a row behind a call that writes nothing old; a list of whole numbers as an argument of my logic. -/
namespace Go.Proofs.Ytobggnpnochnnaa
open Go.ChangeShapes Go.WideShapes Go.ChangeAt Go.RowKit
section
variable {H : Type} {enc : TypeId × Value → H} {P : Program}
theorem post_of_below {f : Func} {s : ChangeSpec} {apart fresh handsOn again : Bool} {W W' : World} {args : Array Value} {v : Value} {ds gs : List (DataW H)} {before pa pv : List MemPlace}
    (hW : DataW.Whole enc P f.params.toList s.vars apart W args.toList ds gs before)
    (hres : ∀ (b : Nat) (sp : Nat → Bool) (hd : Bool), DataW.TrodAll enc P W' b sp hd f.resultTypes.toList (v.resultList f.resultTypes.size) (s.fn H (ds ++ gs)).results [])
    (hargs : ∀ sp : Nat → Bool, (∀ p ∈ before, sp p.block = true) → DataW.TrodAll enc P W' 0 sp true f.params.toList args.toList (s.fn H (ds ++ gs)).args pa)
    (hvars : ∀ sp : Nat → Bool, (∀ p ∈ before, sp p.block = true) → DataW.TrodVars enc P W' sp s.vars (s.fn H (ds ++ gs)).vars pv)
    (hps : before = pa ++ pv) (hb : Below W.heap.size W W')
    (hok : ∀ (j : Nat) (t : TypeId) (r : Value), f.resultTypes[j]? = some t → (v.resultList f.resultTypes.size)[j]? = some r → Value.okWide P W' .any 0 t r) :
    s.post enc P f apart fresh handsOn again W args v W' := by
  have hlt : ∀ p ∈ before, p.block < W.heap.size := fun p hp => hW.lt p hp
  have hold : ∀ p ∈ before, (fun b => decide (b < W.heap.size)) p.block = true := fun p hp => by simpa using hlt p hp
  refine ⟨ds, gs, before, [], pa, pv, hW, hres _ _ _, hargs _ hold, hvars _ hold, World.keptBut_mono (fun p hp => ⟨hp, ?_⟩) (hb.frame (· ∈ before)), fun _ => ?_⟩
  · rw [hps, List.mem_append] at hp
    exact Or.inr hp
  · obtain ⟨_, _, _, _, _, hz, hn⟩ := hW
    refine ⟨hok, _, _, ([] ++ pa) ++ pv, ⟨[] ++ pa, pv, trodAll_append (hargs _ (fun _ _ => rfl)) (hres _ _ _), hvars _ (fun _ _ => rfl), rfl, ?_, ?_⟩, ?_⟩
    · intro b off hp
      have hin : MemPlace.cell b off ∈ before := by rw [hps]; simpa using hp
      rw [hb.frozen (hlt _ hin)]
      exact hz b off hin
    · intro ha
      have := hn ha
      rw [hps] at this
      simpa using this
    · intro p hp _
      rw [hps]
      simpa using hp
theorem same_of_below {W W' : World} (hb : Below W.heap.size W W') {p : MemPlace} (hp : p.block < W.heap.size) : W.sameAt W' p := by
  cases p with
  | cell b off => exact hb.cell (p := ⟨b, off, none⟩) hp
  | map b => exact hb.block b hp
theorem args_again {P : Program} (hl : laidOutB P = true) {W W' : World} (hb : Below W.heap.size W W') {sp : Nat → Bool} : ∀ {ts : List TypeId} {vs : List Value} {ds : List (DataW H)} {ps : List MemPlace}, (∀ t ∈ ts, P.readableRec t = true ∧ t < P.types.size) →
    DataW.TrodAll enc P W 0 (fun _ => true) true ts vs ds ps → (∀ p ∈ ps, p.block < W.heap.size) → (∀ p ∈ ps, sp p.block = true) → DataW.TrodAll enc P W' 0 sp true ts vs ds ps
  | [], [], [], _, _, h, _, _ => h
  | _ :: _, _ :: _, _ :: _, _, hT, ⟨p, q, h1, h2, e⟩, hlt, hs => ⟨p, q, WideElems.Trod_stays hl (hT _ (List.mem_cons.2 (Or.inl rfl))).1 (hT _ (List.mem_cons.2 (Or.inl rfl))).2 h1 (fun x hx => same_of_below hb (hlt x (by rw [e]; exact List.mem_append_left _ hx))) (fun x hx => hs x (by rw [e]; exact List.mem_append_left _ hx)),
      args_again hl hb (fun t ht => hT t (List.mem_cons.2 (Or.inr ht))) h2 (fun x hx => hlt x (by rw [e]; exact List.mem_append_right _ hx)) (fun x hx => hs x (by rw [e]; exact List.mem_append_right _ hx)), e⟩
/-- a []int argument -/
theorem open_ints_sl {W : World} {r : Reach} {b0 : Nat} {t e : TypeId} {v : Value} {d : DataW H} {ps : List MemPlace} (ht : P.underlying t = some (.slice e)) (he : P.underlying e = some (.int .i64)) (hc : P.cellsOf e = 1)
    (hval : Value.okWide P W r b0 t v) (h : DataW.Trod enc P W 0 (fun _ => true) true t v d ps) : ∃ s : V.Sl Int, v = .slice s.a s.xs.length s.c ∧ (V.slE V.intE).wf (V.Fr V.No []) W.heap s := by
  obtain ⟨a0, len, cap, rfl⟩ := okWide_slice ht hval
  obtain ⟨fuel, hf⟩ := h
  rcases open_ints ht he hc hf with ⟨hcs, _⟩ | ⟨a, len', cap', zs, hcs, _, hle, hmax, hall, _, hcell, hwf⟩
  · simp [Value.cells] at hcs
    obtain ⟨rfl, rfl, rfl⟩ := hcs
    exact ⟨⟨none, 0, []⟩, rfl, V.sl_nil⟩
  · simp [Value.cells] at hcs
    obtain ⟨rfl, rfl, rfl⟩ := hcs
    simp only [if_true] at hall
    have hlen : (zs.take len).length = len := by rw [List.length_take]; omega
    refine ⟨⟨some a, cap, zs.take len⟩, by rw [hlen], ⟨by rw [hlen]; omega, fun h0 => ?_, fun i hi j u hu => ?_, fun i hi => ?_⟩, by rw [hlen]; exact hle, fun h => by cases h⟩
    · rw [hlen] at h0
      obtain ⟨b, off, rfl, hc2⟩ := ints_at hcell (by omega)
      exact ⟨rfl, ⟨fun h => h, fun h => h⟩, World.block_lt_of_cell? W _ (hc2 0 (by omega))⟩
    · rw [hlen] at hi
      obtain ⟨b, off, rfl, hc2⟩ := ints_at hcell (show 0 < zs.length by omega)
      have hg : (zs.take len).getD i 0 = zs.getD i 0 := by
        simp only [List.getD_eq_getElem?_getD]; rw [List.getElem?_take_of_lt hi]
      have e0 : V.intE.dflt = 0 := rfl
      rw [e0, hg] at hu
      rcases j with _ | j
      · have : u = .int .i64 (zs.getD i 0) := by simpa [V.intE] using hu.symm
        subst this
        show V.hcell W.heap b (off + i * 1 + 0) = _
        rw [show off + i * 1 + 0 = off + i from by omega]
        exact hc2 i (by omega)
      · simp [V.intE] at hu
    · rw [hlen] at hi
      have e0 : V.intE.dflt = 0 := rfl
      have hg : (zs.take len).getD i 0 = zs.getD i 0 := by
        simp only [List.getD_eq_getElem?_getD]; rw [List.getElem?_take_of_lt hi]
      rw [e0, hg]
      have hin : zs.getD i 0 ∈ zs := by
        rw [List.getD_eq_getElem?_getD, List.getElem?_eq_getElem (by omega)]
        exact List.getElem_mem _
      exact bounds_i64 (hwf _ hin)
end
theorem own : ownKnob Try.prog.godebug = none := by kernel_rfl
theorem laid_out : laidOutB Try.prog = true := by kernel_rfl
theorem below_tr {w w' : World} (h : V.Tr [] w [] w') : Below w.heap.size w w' := V.Ch.below (h.ch.mono fun _ h => h)
theorem true_ret {P : Program} {f : FuncId} {vs : Array Value} {w : World} (h : Calls P f vs w fun e w' => e = .returned (.bool (decide True)) ∧ V.Tr [] w [] w') : Calls P f vs w fun e w' => e = .returned (.bool true) ∧ Below w.heap.size w w' :=
  h.mono fun _ _ ⟨h1, h2⟩ => ⟨by rw [h1]; rfl, below_tr h2⟩
end Go.Proofs.Ytobggnpnochnnaa
/- Arguments of any readable type, opened into my logic: cells that a claim's reading trods are cells of a plain value that is well formed. -/
namespace Go.Proofs.Ytobggnpnochnnaa
open Go.ChangeShapes Go.WideShapes Go.ChangeAt Go.RowKit Go.Deep
section
variable {H : Type} {enc : TypeId × Value → H} {P : Program} {W : World}
/-- what the reading of a type tells of its cells -/
def Tells (enc : TypeId × Value → H) (P : Program) (W : World) (t : TypeId) (φ : List Value → Prop) : Prop :=
  ∀ fuel cs x, DataW.trod enc P W 0 (fun _ => true) true fuel t cs = some x → φ cs
abbrev TellsE {α : Type} (enc : TypeId × Value → H) (P : Program) (W : World) (t : TypeId) (E : V.Enc α) : Prop := Tells enc P W t fun cs => ∃ y, cs = E.cells y ∧ E.wf (V.Fr V.No []) W.heap y
theorem tells_int {t : TypeId} (ht : P.underlying t = some (.int .i64)) : Tells enc P W t fun cs => ∃ z, cs = [.int .i64 z] ∧ V.inI64 z := fun _ _ _ h => by
  obtain ⟨z, h1, _, h2⟩ := DataW.trod_int ht h
  exact ⟨z, h1, bounds_i64 h2⟩
theorem tells_bool {t : TypeId} (ht : P.underlying t = some .bool) : Tells enc P W t fun cs => ∃ b : Bool, cs = [.bool b] := fun _ _ _ h => by
  obtain ⟨z, h1, _⟩ := DataW.trod_bool ht h
  exact ⟨z, h1⟩
theorem tells_sl {α : Type} {E : V.Enc α} {t e : TypeId} (ht : P.underlying t = some (.slice e)) (hc : P.cellsOf e = E.n) (hn : 0 < E.n) (hE : TellsE enc P W e E) : TellsE enc P W t (V.slE E) := fun fuel cs x h => by
  rcases open_slice ht h with ⟨rfl, _⟩ | ⟨a, len, cap, m, n, D, Pl, rfl, hb, hl, hm, hmm, hxe, hx⟩
  · exact ⟨⟨none, 0, []⟩, rfl, V.sl_nil⟩
  · simp only [if_true] at hmm
    have h1 : ∀ i, i < len → ∃ y : α, W.cells? 0 (a.add (i * P.cellsOf e)) (P.cellsOf e) = some (E.cells y) ∧ E.wf (V.Fr V.No []) W.heap y := fun i hi => by
      obtain ⟨cs', h2, h3⟩ := hx i (by omega)
      obtain ⟨y, rfl, hw⟩ := hE _ _ _ h3
      exact ⟨y, h2, hw⟩
    have h2 : ∃ xs : List α, xs.length = len ∧ ∀ i, i < len → W.cells? 0 (a.add (i * P.cellsOf e)) (P.cellsOf e) = some (E.cells (xs.getD i E.dflt)) ∧ E.wf (V.Fr V.No []) W.heap (xs.getD i E.dflt) := by
      clear hx h hmm hl hxe
      induction len with
      | zero => exact ⟨[], rfl, fun i hi => by omega⟩
      | succ k ih =>
        obtain ⟨xs, hxl, hxs⟩ := ih fun i hi => h1 i (by omega)
        obtain ⟨y, hy1, hy2⟩ := h1 k (by omega)
        refine ⟨xs ++ [y], by simp [hxl], fun i hi => ?_⟩
        by_cases hik : i < k
        · have : (xs ++ [y]).getD i E.dflt = xs.getD i E.dflt := by simp only [List.getD_eq_getElem?_getD]; rw [List.getElem?_append_left (by omega)]
          rw [this]; exact hxs i hik
        · obtain rfl : i = k := by omega
          have : (xs ++ [y]).getD i E.dflt = y := by simp only [List.getD_eq_getElem?_getD]; rw [List.getElem?_append_right (by omega), hxl]; simp
          rw [this]; exact ⟨hy1, hy2⟩
    obtain ⟨xs, rfl, hxs⟩ := h2
    have hcell : ∀ i, i < xs.length → ∀ j v, (E.cells (xs.getD i E.dflt))[j]? = some v → W.cell? ((a.add (i * E.n)).add j) = some v := fun i hi j v hv => by
      obtain ⟨_, hlen, hg⟩ := World.cells?_some (hxs i hi).1
      have hj : j < (E.cells (xs.getD i E.dflt)).length := (List.getElem?_eq_some_iff.1 hv).1
      have := hg j (by omega)
      rw [hc] at this
      rw [this, hv]
    rcases Nat.eq_zero_or_pos xs.length with h0 | h0
    · refine ⟨⟨some a, cap, xs⟩, rfl, ⟨by show xs.length ≤ maxLen; omega, fun h1 => ?_, fun i hi => ?_, fun i hi => (hxs i hi).2⟩, hl, fun h => by cases h⟩
      · exact absurd h1 (by show ¬ 0 < xs.length; omega)
      · exact absurd hi (by show ¬ i < xs.length; omega)
    · have hl0 : 0 < (E.cells (xs.getD 0 E.dflt)).length := by rw [E.len]; exact hn
      have h3 := hcell 0 h0 0 _ (List.getElem?_eq_getElem hl0)
      obtain ⟨b, o, spot⟩ := a
      have hspot : spot = none := by simpa [Addr.add] using World.cell?_spot h3
      subst hspot
      rw [add_plain, add_plain] at h3
      have hlt := World.block_lt_of_cell? W _ h3
      refine ⟨⟨some ⟨b, o, none⟩, cap, xs⟩, rfl, ⟨by show xs.length ≤ maxLen; omega, fun _ => ⟨rfl, ⟨fun h => h, fun h => h⟩, hlt⟩, fun i hi j v hv => ?_, fun i hi => (hxs i hi).2⟩, hl, fun h => by cases h⟩
      have h4 := hcell i hi j v hv
      rw [add_plain, add_plain] at h4
      exact h4
/-- a field of a struct -/
theorem tells_field {fs : Array Field} {n : Nat} {cs cs' : List Value} {xs : List (DataW H × List MemPlace)} {φ : List Value → Prop} (hlen : xs.length = fs.size)
    (hf : ∀ (i : Nat) (f : Field), fs[i]? = some f → DataW.trod enc P W 0 (fun _ => true) true n f.type ((cs.drop f.offset).take (P.cellsOf f.type)) = xs[i]?)
    (i : Nat) {f : Field} (hi : fs[i]? = some f) (T : Tells enc P W f.type φ) (hc : (cs.drop f.offset).take (P.cellsOf f.type) = cs') : φ cs' := by
  have h1 := hf i f hi
  have h2 : i < xs.length := by rw [hlen]; exact (Array.getElem?_eq_some_iff.1 hi).1
  rw [List.getElem?_eq_getElem h2, hc] at h1
  exact T _ _ _ h1
/-- an argument of a struct type -/
theorem open_struct {α : Type} {E : V.Enc α} {r : Reach} {b0 : Nat} {t : TypeId} {fs : Array Field} {v : Value} {d : DataW H} {ps : List MemPlace} (ht : P.underlying t = some (.struct fs)) (T : TellsE enc P W t E)
    (hval : Value.okWide P W r b0 t v) (h : DataW.Trod enc P W 0 (fun _ => true) true t v d ps) : ∃ y : α, v = .agg (E.cells y).toArray ∧ E.wf (V.Fr V.No []) W.heap y := by
  unfold Value.okWide at hval
  rw [ht] at hval
  obtain ⟨cs, rfl, _, _⟩ := hval
  obtain ⟨fuel, hf⟩ := h
  obtain ⟨y, hy, hw⟩ := T _ _ _ hf
  have hy' : cs.toList = E.cells y := hy
  exact ⟨y, by rw [← hy'], hw⟩
/-- an int -/
theorem open_int {t : TypeId} {r : Reach} {b0 : Nat} {v : Value} {d : DataW H} {ps : List MemPlace} (ht : P.underlying t = some (.int .i64)) (hval : Value.okWide P W r b0 t v) (h : DataW.Trod enc P W 0 (fun _ => true) true t v d ps) : ∃ z : Int, v = .int .i64 z ∧ V.inI64 z := by
  obtain ⟨z, rfl⟩ := okWide_int ht hval
  obtain ⟨fuel, hf⟩ := h
  obtain ⟨y, hy, hw⟩ := tells_int ht _ _ _ hf
  simp [Value.cells] at hy
  exact ⟨y, by rw [hy], hw⟩
theorem len2 {l : List Value} (h : l.length = 2) : ∃ a b, l = [a, b] := match l, h with
  | [a, b], _ => ⟨a, b, rfl⟩
end
end Go.Proofs.Ytobggnpnochnnaa
/- Records, controllers and plans as arguments. -/
namespace Go.Proofs.Ytobggnpnochnnaa
open Go.ChangeShapes Go.WideShapes Go.ChangeAt Go.RowKit Go.Deep
section
variable {H : Type} {enc : TypeId × Value → H} {W : World}
theorem len4 {l : List Value} (h : l.length = 4) : ∃ a b c d, l = [a, b, c, d] := match l, h with
  | [a, b, c, d], _ => ⟨a, b, c, d, rfl⟩
set_option maxRecDepth 100000 in
theorem tells_chg : TellsE enc Try.prog W 124 V.chgE := fun fuel cs x h => by
  obtain ⟨xs, n, _, rfl, hl, hlen, hf⟩ := DataW.trod_struct Try.underlying124 h
  have hl5 : cs.length = 2 := hl.trans (by kernel_rfl)
  obtain ⟨a, b, rfl⟩ := len2 hl5
  obtain ⟨y0, h0, w0⟩ := tells_field (cs := [a, b]) (cs' := [a]) hlen hf 0 rfl (tells_int Try.underlying3) (by kernel_rfl)
  obtain ⟨y1, h1, w1⟩ := tells_field (cs := [a, b]) (cs' := [b]) hlen hf 1 rfl (tells_int Try.underlying3) (by kernel_rfl)
  obtain rfl := List.head_eq_of_cons_eq h0
  obtain rfl := List.head_eq_of_cons_eq h1
  exact ⟨⟨y0, y1⟩, rfl, w0, w1⟩
theorem tells_chgs : TellsE enc Try.prog W 122 (V.slE V.chgE) := tells_sl Try.underlying122 (by kernel_rfl) (by decide) tells_chg
theorem tells_rounds : TellsE enc Try.prog W 45 (V.slE (V.slE V.chgE)) := tells_sl Try.underlying45 (by kernel_rfl) (by decide) tells_chgs
set_option maxRecDepth 100000 in
theorem tells_rec : TellsE enc Try.prog W 24 V.recE := fun fuel cs x h => by
  obtain ⟨xs, n, _, rfl, hl, hlen, hf⟩ := DataW.trod_struct Try.underlying24 h
  have hl5 : cs.length = 4 := hl.trans (by kernel_rfl)
  obtain ⟨a, b, c, d, rfl⟩ := len4 hl5
  obtain ⟨y0, h0, w0⟩ := tells_field (cs := [a, b, c, d]) (cs' := [a]) hlen hf 0 rfl (tells_int Try.underlying3) (by kernel_rfl)
  obtain ⟨y1, h1, w1⟩ := tells_field (cs := [a, b, c, d]) (cs' := [b]) hlen hf 1 rfl (tells_int Try.underlying3) (by kernel_rfl)
  obtain ⟨y2, h2, w2⟩ := tells_field (cs := [a, b, c, d]) (cs' := [c]) hlen hf 2 rfl (tells_int Try.underlying3) (by kernel_rfl)
  obtain ⟨y3, h3, w3⟩ := tells_field (cs := [a, b, c, d]) (cs' := [d]) hlen hf 3 rfl (tells_int Try.underlying3) (by kernel_rfl)
  obtain rfl := List.head_eq_of_cons_eq h0
  obtain rfl := List.head_eq_of_cons_eq h1
  obtain rfl := List.head_eq_of_cons_eq h2
  obtain rfl := List.head_eq_of_cons_eq h3
  exact ⟨⟨y0, y1, y2, y3⟩, rfl, w0, w1, w2, w3⟩
theorem tells_recs : TellsE enc Try.prog W 32 (V.slE V.recE) := tells_sl Try.underlying32 (by kernel_rfl) (by decide) tells_rec
set_option maxRecDepth 100000 in
theorem tells_plan : TellsE enc Try.prog W 47 V.planE := fun fuel cs x h => by
  obtain ⟨xs, n, _, rfl, hl, hlen, hf⟩ := DataW.trod_struct Try.underlying47 h
  have hl5 : cs.length = 2 := hl.trans (by kernel_rfl)
  obtain ⟨a, b, rfl⟩ := len2 hl5
  obtain ⟨y0, h0⟩ := tells_field (cs := [a, b]) (cs' := [a]) hlen hf 0 rfl (tells_bool Try.underlying4) (by kernel_rfl)
  obtain ⟨y1, h1, w1⟩ := tells_field (cs := [a, b]) (cs' := [b]) hlen hf 1 rfl (tells_rounds) (by kernel_rfl)
  obtain rfl := List.head_eq_of_cons_eq h0
  obtain rfl := List.head_eq_of_cons_eq h1
  exact ⟨⟨y0, y1⟩, by simp [V.planE], trivial, w1⟩
theorem open_sl {α : Type} {E : V.Enc α} {P : Program} {t e : TypeId} {r : Reach} {b0 : Nat} {v : Value} {d : DataW H} {ps : List MemPlace} (ht : P.underlying t = some (.slice e)) (T : TellsE enc P W t (V.slE E)) (hval : Value.okWide P W r b0 t v) (h : DataW.Trod enc P W 0 (fun _ => true) true t v d ps) : ∃ s : V.Sl α, v = .slice s.a s.xs.length s.c ∧ (V.slE E).wf (V.Fr V.No []) W.heap s := by
  obtain ⟨a0, len, cap, rfl⟩ := okWide_slice ht hval
  obtain ⟨fuel, hf⟩ := h
  obtain ⟨y, hy, hw⟩ := T _ _ _ hf
  have hy' : [Value.slice a0 len cap] = [Value.slice y.a y.xs.length y.c] := hy
  exact ⟨y, List.head_eq_of_cons_eq hy', hw⟩
end
end Go.Proofs.Ytobggnpnochnnaa
