/- U0 U1 U2 U13 in one text -/
import Derived.Test.YtobggnpnochnnaaGrpC
set_option linter.unusedVariables false
set_option linter.unusedSimpArgs false
/- One bundle of all that is known at a point of a walk: the slots, the data that is read, the blocks of the call's own. -/
namespace Go.Proofs.Ytobggnpnochnnaa.V
open Go.RowKit
/-- what is not of W stands in h' as in h, and is not of W' -/
def Mv (W W' : Nat → Prop) (h h' : Array Obj) : Prop := h.size ≤ h'.size ∧ ∀ k, k < h.size → ¬ W k → h'[k]? = h[k]? ∧ ¬ W' k
def Fw (F W : Nat → Prop) : Nat → Prop := fun k => ¬ W k ∧ ¬ F k
theorem Enc.mv {α : Type} (E : Enc α) {x : α} {F W W' : Nat → Prop} {h h' : Array Obj} (m : Mv W W' h h') (H : E.wf (Fw F W) h x) : E.wf (Fw F W') h' x := by
  have h1 : E.wf (fun k => k < h.size ∧ Fw F W k) h x := E.mono (fun k hk h => ⟨hk, h⟩) H
  have h2 := E.keep (h' := h') ⟨m.1, fun k hk h => (m.2 k hk h.2.1).1⟩ h1
  exact E.mono (fun k _ h => ⟨(m.2 k h.1 h.2.1).2, h.2.2⟩) h2
/-- data that is only read -/
structure RF where
  p : (F W : Nat → Prop) → Array Obj → Prop
  st : ∀ {F W W' : Nat → Prop} {h h' : Array Obj}, Mv W W' h h' → p F W h → p F W' h'
/-- blocks of the call's own -/
structure OF where
  o : BS
  p : (F W : Nat → Prop) → World → Prop
  st : ∀ {F W W' : Nat → Prop} {w w' : World}, Mv W W' w.heap w'.heap → (∀ k, k < w.heap.size → o k → w'.heap[k]? = w.heap[k]?) → p F W w → p F W' w'
def wfF {α : Type} (E : Enc α) (x : α) : RF := ⟨fun F W h => E.wf (Fw F W) h x, fun m H => E.mv m H⟩
def blF (b : Nat) (cs : List Value) (t : TypeId) : RF := ⟨fun _ W h => ¬ W b ∧ Blk h b cs t, fun m H => ⟨(m.2 b H.2.lt H.1).2, (m.2 b H.2.lt H.1).1.trans H.2⟩⟩
def noO : OF := ⟨fun _ => False, fun _ _ _ => True, fun _ _ _ => trivial⟩
def blO (b : Nat) (cs : List Value) (t : TypeId) : OF := ⟨one b, fun _ _ w => Blk w.heap b cs t, fun _ h H => (h b H.lt rfl).trans H⟩
def tpO (t : TypeId) (T : Nat) (tl : Sl Int) : OF := ⟨one T, fun _ _ w => TpB t T tl w, fun _ h ⟨i, hi, k⟩ => ⟨i, hi, (h T k.lt rfl).trans k⟩⟩
def rwO {α : Type} (E : Enc α) (t : TypeId) (base : Nat) (ad : Option Addr) (cap : Nat) (xs : List α) : OF :=
  ⟨abk ad, fun F W w => w.ownsRow base t E.n (.slice ad xs.length cap) xs.length (xs.flatMap E.cells) ∧ ∀ x ∈ xs, E.wf (Fw F W) w.heap x, fun m h H => by
    refine ⟨⟨H.1.1, ?_⟩, fun x hx => E.mv m (H.2 x hx)⟩
    rcases H.1.2 with h1 | ⟨b, c, cur, h1, h2, h3, h4⟩
    · exact .inl h1
    · refine .inr ⟨b, c, cur, h1, h2, ?_, h4⟩
      injection h1 with h1
      subst h1
      refine (h b ?_ rfl).trans h3
      rcases Nat.lt_or_ge b (Array.size _) with k | k
      · exact k
      · rw [Array.getElem?_eq_none k] at h3; cases h3⟩
def ow : List OF → List BS
  | [] => []
  | f :: r => f.o :: ow r
def nth {α : Type _} : List α → Nat → Option α
  | [], _ => none
  | x :: _, 0 => some x
  | _ :: r, i + 1 => nth r i
theorem nth_get {α : Type _} : ∀ (l : List α) (i : Nat), nth l i = l[i]?
  | [], _ => by simp [nth]
  | _ :: _, 0 => rfl
  | _ :: r, i + 1 => by rw [nth, nth_get r i, List.getElem?_cons_succ]
theorem nth_mem {α : Type _} {l : List α} {i : Nat} {x : α} (h : nth l i = some x) : x ∈ l := List.mem_of_getElem? ((nth_get l i).symm.trans h)
theorem ow_map : ∀ (os : List OF), ow os = os.map OF.o
  | [] => rfl
  | f :: r => by rw [ow, ow_map r]; rfl
theorem ow_get {os : List OF} {i : Nat} {f : OF} (h : nth os i = some f) : (ow os)[i]? = some f.o := by
  rw [ow_map, List.getElem?_map, ← nth_get, h]; rfl
theorem ow_mem {os : List OF} {f : OF} (h : f ∈ os) : f.o ∈ ow os := by rw [ow_map]; exact List.mem_map_of_mem h
theorem ow_app (os nw : List OF) : ow (os ++ nw) = ow os ++ ow nw := by simp [ow_map]
theorem ow_set {os : List OF} {i : Nat} {f g : OF} (h : nth os i = some f) (e : g.o = f.o) : ow (os.set i g) = ow os := by
  rw [ow_map, ow_map, List.map_set, e]
  apply List.ext_getElem?
  intro j
  rw [List.getElem?_set]
  have h1 : (os.map OF.o)[i]? = some f.o := by rw [← ow_map]; exact ow_get h
  split
  · rename_i hj; subst hj; rw [h1]; split
    · rfl
    · rename_i hl; exact absurd (List.getElem?_eq_some_iff.1 h1).1 hl
  · rfl
structure Mm (F : Nat → Prop) (w0 : World) (m0 : List BS) (rs : List RF) (os : List OF) (w : World) : Prop where
  c : Tr m0 w0 (ow os) w
  f : Old F w0
  r : ∀ f ∈ rs, f.p F (In (ow os)) w.heap
  o : ∀ f ∈ os, f.p F (In (ow os)) w
structure St (F : Nat → Prop) (w0 : World) (m0 : List BS) (n : Nat) (L : List (Nat × Value)) (rs : List RF) (os : List OF) (a : Act) (w : World) : Prop where
  s : Slots n L a
  m : Mm F w0 m0 rs os w
section
variable {F : Nat → Prop} {w0 w w' : World} {m0 ms ms' : List BS} {n : Nat} {L L' : List (Nat × Value)} {rs : List RF} {os os' nw : List OF} {a a' : Act}
theorem Tr.mv (T : Tr ms w ms' w') : Mv (In ms) (In ms') w.heap w'.heap :=
  ⟨T.size, fun k hk hD => ⟨T.ch.block k hk hD, fun hm => (T.sub k hm).elim hD fun e => absurd hk (by omega)⟩⟩
/-! getters -/
theorem St.e (S : St F w0 m0 n L rs os a w) {x : Operand} {v : Value} (h : evS L x = some v) : a.eval x = v := S.s.eval h
theorem St.p (S : St F w0 m0 n L rs os a w) {x : Operand} {c : Prop} [Decidable c] {v u : Value} (h : evS L x = some (if c then v else u)) (hc : c) : a.eval x = v := (S.s.eval h).trans (if_pos hc)
theorem St.u {α : Type} {E : Enc α} {x : α} (S : St F w0 m0 n L rs os a w) (i : Nat) (h : nth rs i = some (wfF E x)) : E.wf (Fr F (ow os)) w.heap x := S.m.r _ (nth_mem h)
theorem St.b {b : Nat} {cs : List Value} {t : TypeId} (S : St F w0 m0 n L rs os a w) (i : Nat) (h : nth rs i = some (blF b cs t)) : BlkR (ow os) w.heap b cs t := ⟨(S.m.r _ (nth_mem h)).2, (S.m.r _ (nth_mem h)).1⟩
theorem St.k {b : Nat} {cs : List Value} {t : TypeId} (S : St F w0 m0 n L rs os a w) (i : Nat) (h : nth os i = some (blO b cs t)) : Blk w.heap b cs t := S.m.o _ (nth_mem h)
theorem St.t {t : TypeId} {T : Nat} {tl : Sl Int} (S : St F w0 m0 n L rs os a w) (i : Nat) (h : nth os i = some (tpO t T tl)) : TpB t T tl w := S.m.o _ (nth_mem h)
theorem St.row {α : Type} {E : Enc α} {t : TypeId} {base : Nat} {ad : Option Addr} {cap : Nat} {xs : List α} (S : St F w0 m0 n L rs os a w) (i : Nat) (h : nth os i = some (rwO E t base ad cap xs)) : Row E t base F (ow os) w ad cap xs := ⟨(S.m.o _ (nth_mem h)).1, (S.m.o _ (nth_mem h)).2⟩
theorem St.x (S : St F w0 m0 n L rs os a w) : Old (Ex F (ow os)) w := S.m.c.old S.m.f
theorem St.xx (S : St F w0 m0 n L rs os a w) (o : List BS) : Old (Exc F (ow os) o) w := S.m.c.oldx S.m.f
theorem St.M (S : St F w0 m0 n L rs os a w) : MS (ow os) w := S.m.c.ms
theorem dn0 {α : Type} {E : Enc α} {x : α} {h : Array Obj} (H : E.wf (Fr F ms) h x) : E.wf (Fr (Ex F ms) []) h x := E.mono (fun k _ h => ⟨fun e => e, fun e => e.elim h.1 h.2⟩) H
theorem dnx {α : Type} {E : Enc α} {x : α} {h : Array Obj} {o : List BS} (H : E.wf (Fr F ms) h x) : E.wf (Fr (Exc F ms o) []) h x := E.mono (fun k _ h => ⟨fun e => e, fun e => e.elim (fun e => h.1 e.1) h.2⟩) H
theorem dn1 {α : Type} {E : Enc α} {x : α} {h : Array Obj} {js : List Nat} (H : E.wf (Fr F ms) h x) : E.wf (Fr (Ex F ms) (picks ms js)) h x := E.mono (fun k _ h => ⟨fun e => h.1 (in_picks e), fun e => e.elim h.1 h.2⟩) H
/-! changes of the bundle -/
theorem Mm.go (M : Mm F w0 m0 rs os w) (T : Tr (ow os) w (ow os') w') (ho : ∀ f ∈ os', f.p F (In (ow os')) w') : Mm F w0 m0 rs os' w' :=
  ⟨M.c.trans T, M.f, fun f hf => f.st T.mv (M.r f hf), ho⟩
theorem Mm.sep (M : Mm F w0 m0 rs os w) {i : Nat} {f : OF} (hi : nth os i = some f) (js : List Nat) (hj : js.contains i = false) {k : Nat} (hk : f.o k) : ¬ In (picks (ow os) js) k := M.c.ms.sep.out i js hj (ow_get hi) hk
theorem idx_of {α : Type _} {l : List α} {x : α} (h : x ∈ l) : ∃ i, nth l i = some x := by
  obtain ⟨i, hi, e⟩ := List.getElem_of_mem h
  exact ⟨i, by rw [nth_get, List.getElem?_eq_getElem hi, e]⟩
/-- nothing of the call's own is changed -/
theorem Mm.k0 (M : Mm F w0 m0 rs os w) (g : Ch (In []) w w') : Mm F w0 m0 rs os w' := by
  have T := Tr.of_ch0 M.c.ms g
  exact M.go T fun f hf => f.st T.mv (fun k hk _ => g.block k hk id) (M.o f hf)
theorem St.k0 (S : St F w0 m0 n L rs os a w) (s : Slots n L' a') (t : Tr [] w [] w') : St F w0 m0 n L' rs os a' w' := ⟨s, S.m.k0 t.ch⟩
theorem St.k0c (S : St F w0 m0 n L rs os a w) (s : Slots n L' a') (g : Ch (In []) w w') : St F w0 m0 n L' rs os a' w' := ⟨s, S.m.k0 g⟩
/-- one block of facts is replaced, its owner stays -/
theorem Mm.k1 (M : Mm F w0 m0 rs os w) (j : Nat) {f : OF} (hj : nth os j = some f) (f' : OF) (e : f'.o = f.o) (t : Ch (In [f.o]) w w') (hf : f'.p F (In (ow os)) w') : Mm F w0 m0 rs (os.set j f') w' := by
  have T : Tr (ow os) w (ow (os.set j f')) w' := by
    rw [ow_set hj e]; exact Tr.of_ch M.c.ms t fun o ho => by simp at ho; subst ho; exact ow_mem (nth_mem hj)
  refine M.go T fun g hg => ?_
  rw [ow_set hj e] at T ⊢
  obtain ⟨i, hi⟩ := idx_of hg
  rw [nth_get, List.getElem?_set] at hi
  split at hi
  · split at hi
    · cases hi; exact hf
    · cases hi
  · rename_i hne
    rw [← nth_get] at hi
    refine g.st T.mv (fun k hk ho => t.block k hk fun hm => ?_) (M.o g (nth_mem hi))
    have := M.sep hi [j] (by simp; omega) ho
    simp only [picks, List.filterMap_cons, ow_get hj, List.filterMap_nil] at this
    exact this hm
theorem set_nth {os : List OF} {j : Nat} {f : OF} (h : nth os j = some f) : os.set j f = os := by
  apply List.ext_getElem?
  intro i
  rw [List.getElem?_set]
  split
  · rename_i e; subst e; rw [← nth_get, h]; split
    · rfl
    · rename_i hl; rw [nth_get] at h; exact absurd (List.getElem?_eq_some_iff.1 h).1 hl
  · rfl
/-- a callee wrote the block of facts at j, of which the same is known -/
theorem St.k1 (S : St F w0 m0 n L rs os a w) (j : Nat) {f : OF} (hj : nth os j = some f) (s : Slots n L' a') (t : Tr [f.o] w [f.o] w') (hf : f.p F (In (ow os)) w') : St F w0 m0 n L' rs os a' w' :=
  ⟨s, by have := S.m.k1 j hj f rfl t.ch hf; rwa [set_nth hj] at this⟩
theorem St.k1s (S : St F w0 m0 n L rs os a w) (j : Nat) {f : OF} (hj : nth os j = some f) (f' : OF) (e : f'.o = f.o) (s : Slots n L' a') (t : Ch (In [f.o]) w w') (hf : f'.p F (In (ow os)) w') : St F w0 m0 n L' rs (os.set j f') a' w' := ⟨s, S.m.k1 j hj f' e t hf⟩
/-! order of what may be written -/
theorem Sep.comm : ∀ {x y : List BS}, Sep (x ++ y) → Sep (y ++ x)
  | [], y, s => by simpa using s
  | o :: x, y, s => by
    have h1 := Sep.comm s.2
    have : ∀ (y : List BS), Sep (y ++ x) → (∀ k, o k → ¬ In (y ++ x) k) → Sep (y ++ o :: x) := by
      intro y
      induction y with
      | nil => intro s h; exact ⟨h, s⟩
      | cons p r ih =>
        intro s h
        refine ⟨fun k hk hm => ?_, ih s.2 fun k hk hm => h k hk (.inr hm)⟩
        rcases in_app.1 hm with q | q | q
        · exact s.1 k hk (in_app.2 (.inl q))
        · exact h k q (.inl hk)
        · exact s.1 k hk (in_app.2 (.inr q))
    exact this y h1 fun k hk hm => s.1 k hk (in_app.2 ((in_app.1 hm).symm))
theorem Tr.comm {x y : List BS} (t : Tr ms w (x ++ y) w') : Tr ms w (y ++ x) w' :=
  ⟨t.ch, fun k hk => t.sub k (in_app.2 (in_app.1 hk).symm), ⟨fun k hk => t.ms.lt k (in_app.2 (in_app.1 hk).symm), t.ms.sep.comm⟩⟩
/-- new blocks -/
theorem Mm.nu (M : Mm F w0 m0 rs os w) (nw : List OF) (T : Tr (ow os) w (ow nw ++ ow os) w') (g : Ch (In []) w w') (hn : ∀ f ∈ nw, f.p F (In (ow os ++ ow nw)) w') : Mm F w0 m0 rs (os ++ nw) w' := by
  have T' := T.comm
  refine M.go (by rw [ow_app]; exact T') fun f hf => ?_
  rw [ow_app]
  rcases List.mem_append.1 hf with h | h
  · exact f.st T'.mv (fun k hk _ => g.block k hk id) (M.o f h)
  · exact hn f h
/-- a new block of the call's own -/
theorem Mm.n1 (M : Mm F w0 m0 rs os w) (f : OF) {b : Nat} (hb : w.heap.size = b) (hl : b < w'.heap.size) (ho : ∀ k, f.o k → k = b) (g : Ch (In []) w w') (hf : f.p F (In (ow os ++ [f.o])) w') : Mm F w0 m0 rs (os ++ [f]) w' :=
  M.nu [f] ((Tr.of_ch0 M.c.ms g).cons fun k hk => by
    obtain rfl := ho k hk
    exact ⟨by omega, hl, fun h => by have := M.c.ms.lt _ h; omega⟩) g fun f' h => by simp at h; subst h; exact hf
/-- rows that a callee gives back -/
structure Rw where
  α : Type
  E : Enc α
  t : TypeId
  ad : Option Addr
  cap : Nat
  xs : List α
def Rw.of (r : Rw) (base : Nat) : OF := rwO r.E r.t base r.ad r.cap r.xs
def Rw.ok (r : Rw) (base : Nat) (F : Nat → Prop) (ms : List BS) (w : World) : Prop := Row r.E r.t base F ms w r.ad r.cap r.xs
def abks : List Rw → List BS
  | [] => []
  | r :: l => abk r.ad :: abks l
def RwsOk (base : Nat) (F : Nat → Prop) (ms : List BS) (w : World) : List Rw → Prop
  | [] => True
  | r :: l => r.ok base F ms w ∧ RwsOk base F ms w l
theorem RwsOk.get {base : Nat} {ms : List BS} : ∀ {l : List Rw}, RwsOk base F ms w l → ∀ r ∈ l, r.ok base F ms w
  | _ :: _, h, r, hr => (List.mem_cons.1 hr).elim (fun e => e ▸ h.1) fun hr => h.2.get r hr
def ofs (base : Nat) : List Rw → List OF
  | [] => []
  | r :: l => r.of base :: ofs base l
theorem ow_ofs (base : Nat) : ∀ l : List Rw, ow (ofs base l) = abks l
  | [] => rfl
  | r :: l => by rw [ofs, ow, ow_ofs base l]; rfl
theorem mem_ofs {base : Nat} {f : OF} : ∀ {l : List Rw}, f ∈ ofs base l → ∃ r ∈ l, f = r.of base
  | r :: l, h => (List.mem_cons.1 h).elim (fun e => ⟨r, List.mem_cons_self, e⟩) fun h => let ⟨q, h1, h2⟩ := mem_ofs h; ⟨q, List.mem_cons_of_mem _ h1, h2⟩
theorem St.kr (S : St F w0 m0 n L rs os a w) (l : List Rw) (s : Slots n L' a') (t : Tr [] w (abks l) w') (h : RwsOk w.heap.size (Ex F (ow os)) (abks l) w' l) : St F w0 m0 n L' rs (os ++ ofs w0.heap.size l) a' w' := by
  refine ⟨s, S.m.nu (ofs w0.heap.size l) ?_ t.ch fun f hf => ?_⟩
  · rw [ow_ofs]; exact Tr.frame (m0 := []) S.M (by simpa using t) fun _ h => by simp at h
  · obtain ⟨r, hr, rfl⟩ := mem_ofs hf
    have h1 := Row.ups (m0 := []) (nw := abks l) (by have := h.get r hr; unfold Rw.ok at this; simpa using this) S.m.c.size
    rw [ow_ofs]
    refine ⟨h1.own, fun x hx => Enc.mono _ (fun k _ hk => ⟨fun e => hk.1 (in_app.2 (in_app.1 e).symm), hk.2⟩) (h1.wf x hx)⟩
theorem St.kr1 (S : St F w0 m0 n L rs os a w) (j : Nat) {f : OF} (hj : nth os j = some f) (l : List Rw) (s : Slots n L' a') (t : Tr [f.o] w (abks l ++ [f.o]) w') (h : RwsOk w.heap.size (Ex F (ow os)) (abks l ++ [f.o]) w' l) (hf : ∀ W, f.p F W w') : St F w0 m0 n L' rs (os ++ ofs w0.heap.size l) a' w' := by
  have hsub : ∀ o, o ∈ [f.o] → o ∈ ow os := fun o ho => by simp at ho; subst ho; exact ow_mem (nth_mem hj)
  have T := (Tr.frame S.M t hsub).comm
  have e : ow (os ++ ofs w0.heap.size l) = ow os ++ abks l := by rw [ow_app, ow_ofs]
  refine ⟨s, S.m.go (by rw [e]; exact T) fun g hg => ?_⟩
  rw [e]
  rcases List.mem_append.1 hg with q | q
  · obtain ⟨i, hi⟩ := idx_of q
    by_cases hij : i = j
    · subst hij; rw [hj] at hi; cases hi
      exact hf _
    · refine g.st T.mv (fun k hk ho => t.ch.block k hk fun hm => ?_) (S.m.o g q)
      have := S.m.sep hi [j] (by simp; omega) ho
      simp only [picks, List.filterMap_cons, ow_get hj, List.filterMap_nil] at this
      exact this hm
  · obtain ⟨r, hr, rfl⟩ := mem_ofs q
    have h1 := Row.ups (nw := abks l) (h.get r hr) S.m.c.size
    exact ⟨h1.own, fun x hx => Enc.mono _ (fun k _ hk => ⟨fun e => hk.1 (in_app.2 (in_app.1 e).symm), hk.2⟩) (h1.wf x hx)⟩
/-! a fact is added; a row is only read from now on; what is still known -/
theorem St.ar (S : St F w0 m0 n L rs os a w) (f : RF) (h : f.p F (In (ow os)) w.heap) : St F w0 m0 n L (rs ++ [f]) os a w :=
  ⟨S.s, S.m.c, S.m.f, fun g hg => (List.mem_append.1 hg).elim (S.m.r g) fun hg => by simp at hg; subst hg; exact h, S.m.o⟩
theorem Sep.pick : ∀ {ms : List BS} (is : List Nat) (_ : Sep ms), is.Nodup → Sep (picks ms is)
  | ms, [], _, _ => trivial
  | ms, i :: is, s, hp => by
    have ih := Sep.pick (ms := ms) is s (List.nodup_cons.1 hp).2
    unfold picks
    cases h : ms[i]? with
    | none => rw [List.filterMap_cons, h]; exact ih
    | some o =>
      rw [List.filterMap_cons, h]
      refine ⟨fun k hk hm => ?_, ih⟩
      refine s.out i is ?_ h hk hm
      cases hc : is.contains i
      · rfl
      · exact absurd (List.contains_iff_mem.1 hc) (List.nodup_cons.1 hp).1
theorem MS.pick (h : MS ms w) (is : List Nat) (hi : is.Nodup) : MS (V.picks ms is) w := ⟨fun k hk => h.lt k (in_picks hk), h.sep.pick is hi⟩
def pickO (os : List OF) : List Nat → List OF
  | [] => []
  | i :: is => match nth os i with
    | some f => f :: pickO os is
    | none => pickO os is
theorem ow_pick (os : List OF) : ∀ is, ow (pickO os is) = picks (ow os) is
  | [] => rfl
  | i :: is => by
    unfold pickO picks
    rw [List.filterMap_cons]
    cases h : nth os i with
    | some f => rw [ow_get h]; simp only; rw [ow, ow_pick os is]; rfl
    | none =>
      have : (ow os)[i]? = none := by rw [ow_map, List.getElem?_map, ← nth_get, h]; rfl
      rw [this]; exact ow_pick os is
theorem mem_pick {os : List OF} {f : OF} : ∀ {is : List Nat}, f ∈ pickO os is → f ∈ os
  | i :: is, h => by
    unfold pickO at h
    cases hi : nth os i with
    | some g => rw [hi] at h; exact (List.mem_cons.1 h).elim (fun e => e ▸ nth_mem hi) fun h => mem_pick h
    | none => rw [hi] at h; exact mem_pick h
/-- of what may be written only this is kept, in this order -/
theorem St.pk (S : St F w0 m0 n L rs os a w) (is : List Nat) {os' : List OF} (hi : is.Nodup := by decide) (e : pickO os is = os' := by rfl) : St F w0 m0 n L rs os' a w := by
  subst e
  have T : Tr (ow os) w (ow (pickO os is)) w := by
    rw [ow_pick]; exact ⟨Ch.refl w, fun k hk => .inl (in_picks hk), S.M.pick is hi⟩
  exact ⟨S.s, S.m.go T fun f hf => f.st T.mv (fun _ _ _ => rfl) (S.m.o f (mem_pick hf))⟩
theorem Mm.sub (M : Mm F w0 m0 rs os w) {rs' : List RF} (h : ∀ f ∈ rs', f ∈ rs) : Mm F w0 m0 rs' os w := ⟨M.c, M.f, fun f hf => M.r f (h f hf), M.o⟩
/-- every slot of L' is told by L -/
def SubL (L : List (Nat × Value)) : List (Nat × Value) → Prop
  | [] => True
  | (i, v) :: r => look i L = some v ∧ SubL L r
theorem SubL.sub : ∀ {L' : List (Nat × Value)}, SubL L L' → Sub L L'
  | [], _ => trivial
  | _ :: _, h => ⟨h.1, h.2.sub⟩
theorem St.re {rs' : List RF} (S : St F w0 m0 n L rs os a w) (hL : Sub L L') (hr : rs.take rs'.length = rs') (ho : os.take os'.length = os') : St F w0 m0 n L' rs' os' a w := by
  have h1 : St F w0 m0 n L rs os' a w := by
    have e : pickO os (List.range os'.length) = os' := by
      have : ∀ (m : Nat), pickO os ((List.range m)) = os.take m := by
        intro m
        have key : ∀ (l : List Nat), pickO os l = l.filterMap (nth os) := by
          intro l
          induction l with
          | nil => rfl
          | cons i l ih => unfold pickO; rw [List.filterMap_cons]; cases nth os i <;> simp [ih]
        rw [key]
        have k2 : ∀ (os : List OF) (m : Nat), (List.range m).filterMap (nth os) = os.take m := by
          intro os
          induction os with
          | nil => intro m; simp [nth]
          | cons x r ih =>
            intro m
            cases m with
            | zero => rfl
            | succ m =>
              rw [List.range_succ_eq_map, List.filterMap_cons]
              simp only [nth, List.filterMap_map, List.take_succ_cons, List.cons.injEq, true_and]
              exact ih m
        exact k2 os m
      rw [this]; exact ho
    exact S.pk _ (hi := List.nodup_range) (e := e)
  exact ⟨h1.s.sub hL, h1.m.sub fun f hf => List.mem_of_mem_take (hr ▸ hf)⟩
theorem rowSplit {os : List OF} {i : Nat} {f : OF} (h : nth os i = some f) : ow os = (ow os).take i ++ f.o :: (ow os).drop (i + 1) := by
  have h1 := ow_get h
  obtain ⟨h2, h3⟩ := List.getElem?_eq_some_iff.1 h1
  rw [← h3, List.getElem_cons_drop, List.take_append_drop]
theorem ow_setx {os : List OF} {i : Nat} {f g : OF} (h : nth os i = some f) : ow (os.set i g) = (ow os).take i ++ g.o :: (ow os).drop (i + 1) := by
  have h1 := ow_get h
  obtain ⟨h2, h3⟩ := List.getElem?_eq_some_iff.1 h1
  have h4 : ow (os.set i g) = (ow os).set i g.o := by rw [ow_map, ow_map, List.map_set]
  rw [h4, List.set_eq_take_append_cons_drop, if_pos h2]
/-- the facts at i and the set that they own are replaced -/
theorem Mm.sw (M : Mm F w0 m0 rs os w) (i : Nat) {f : OF} (hi : nth os i = some f) (f' : OF) (T : Tr (ow os) w (ow (os.set i f')) w') (g : Ch (In [f.o]) w w') (hf : f'.p F (In (ow (os.set i f'))) w') : Mm F w0 m0 rs (os.set i f') w' := by
  refine M.go T fun q hq => ?_
  obtain ⟨j, hj⟩ := idx_of hq
  rw [nth_get, List.getElem?_set] at hj
  split at hj
  · split at hj
    · cases hj; exact hf
    · cases hj
  · rename_i hne
    rw [← nth_get] at hj
    refine q.st T.mv (fun k hk ho => g.block k hk fun hm => ?_) (M.o q (nth_mem hj))
    have := M.sep hj [i] (by simp; omega) ho
    simp only [picks, List.filterMap_cons, ow_get hi, List.filterMap_nil] at this
    exact this hm
/-- a row is only read from now on -/
theorem St.fz {α : Type} {E : Enc α} {t : TypeId} {ad : Option Addr} {cap : Nat} {xs : List α} (S : St F w0 m0 n L rs os a w) (i : Nat) (hi : nth os i = some (rwO E t w0.heap.size ad cap xs)) (hn : 0 < E.n := by first | decide | exact Nat.one_pos) : St F w0 m0 n L (rs ++ [wfF (slE E) ⟨ad, cap, xs⟩]) (os.set i noO) a w := by
  have R := S.row i hi
  have hF := R.notF S.m.f (Nat.le_refl _)
  have T : Tr (ow os) w (ow (os.set i noO)) w := by
    have hM := S.M
    have e1 := rowSplit hi
    have e2 := ow_setx (g := noO) hi
    rw [e2]; rw [e1] at hM
    conv => arg 1; rw [e1]
    exact Tr.swap hM (Ch.refl _) fun k hk => hk.elim
  have hs : ∀ k, In (ow (os.set i noO)) k → In (ow os) k := fun k hk => (T.sub k hk).elim id fun e => absurd (T.ms.lt k hk) (by omega)
  have hD : (slE E).wf (Fr F (ow (os.set i noO))) w.heap ⟨ad, cap, xs⟩ := by
    refine ⟨R.latD hn (fun k hk => ⟨fun hm => ?_, hF k hk⟩) fun x hx => Enc.mono _ (fun k _ h => ⟨fun e => h.1 (hs k e), h.2⟩) (R.wf x hx), R.cap_le⟩
    rw [ow_setx hi] at hm
    have hsep := S.M.sep
    rw [rowSplit hi] at hsep
    refine Sep.mid (pre := []) hk hsep ?_
    rcases in_app.1 hm with q | q | q
    · exact in_app.2 (.inl q)
    · exact q.elim
    · exact in_app.2 (.inr q)
  exact St.ar ⟨S.s, S.m.sw i hi noO T (Ch.refl _) trivial⟩ _ hD
/-- as an argument of a callee that writes nothing of the call's own -/
theorem St.rarg {α : Type} {E : Enc α} {t : TypeId} {ad : Option Addr} {cap : Nat} {xs : List α} (S : St F w0 m0 n L rs os a w) (i : Nat) (hi : nth os i = some (rwO E t w0.heap.size ad cap xs)) (hn : 0 < E.n) (o : List BS) (ho : abk ad ∈ o) : (slE E).wf (Fr (Exc F (ow os) o) []) w.heap ⟨ad, cap, xs⟩ := by
  have R := S.row i hi
  exact R.argx hn (R.notF S.m.f (Nat.le_refl _)) (fun k e => ⟨in_mem ho e, fun e => e⟩) fun _ h => by simp at h
end
end Go.Proofs.Ytobggnpnochnnaa.V
/- Operations over the bundle: each takes one bundle to the next; regions, calls, loops, returns. -/
namespace Go.Proofs.Ytobggnpnochnnaa.V
open Go.RowKit
def Core (P : Program) (ops : Array Oper) (o : Oper) (a : Act) (w : World) (K : Act → World → Prop) (Q : Exit → Act → World → Prop) : Prop :=
  if Region.wanted o (yielded ops a.tmps) then o.wp P a w K Q ∨ (o.asks P a w ∧ LetsOut Q) else K (a.put o.dst undef) w
/-- one operation takes X to Y, writing old blocks of c alone -/
def One (P : Program) (ops : Array Oper) (X : Act → World → Prop) (c : List BS) (o : Oper) (Y : Act → World → Prop) : Prop :=
  ∀ (K : Act → World → Prop) (Q : Exit → Act → World → Prop) a w, X a w → (∀ a' w', Y a' w' → Ch (In c) w w' → K a' w') → Core P ops o a w K Q
def Steps (P : Program) (ops : Array Oper) (X : Act → World → Prop) (l : List Oper) (Y : Act → World → Prop) (l' : List Oper) : Prop :=
  ∀ (Q : Exit → Act → World → Prop) a w, X a w → (∀ a' w', Y a' w' → wpList P ops Q l' a' w') → wpList P ops Q l a w
section
variable {P : Program} {ops : Array Oper} {X Y Z : Act → World → Prop} {c : List BS} {o : Oper} {l l' : List Oper} {a : Act} {w : World} {Q : Exit → Act → World → Prop}
theorem tr (h : One P ops X c o Y) (k : Steps P ops Y l Z l') : Steps P ops X (o :: l) Z l' := fun Q a w hX hZ => by
  unfold wpList
  exact h _ Q a w hX fun a' w' hY _ => k Q a' w' hY hZ
theorem la (h : One P ops X c o Y) : Steps P ops X (o :: l) Y l := fun Q a w hX hY => by
  unfold wpList
  exact h _ Q a w hX fun a' w' hy _ => hY a' w' hy
theorem rg {id : Nat} {l : List Oper} (S : X a w) (h : Steps P l.toArray X l Y []) (k : ∀ a w, Y a w → Q .normal a w) : (Code.region id l.toArray false).wp P Q a w :=
  wp_region_lit (h Q a w S fun a w hY => wpList_nil (k a w hY))
theorem rs {id : Nat} {l : List Oper} {y : Code} (S : X a w) (h : Steps P l.toArray X l Y []) (k : ∀ a w, Y a w → y.wp P Q a w) : (Code.seq (.region id l.toArray false) y).wp P Q a w :=
  wp_seq (rg S h fun a w hY => then_n (k a w hY))
theorem r0 {id : Nat} {l : List Oper} (h : wpList P l.toArray Q l a w) : (Code.region id l.toArray false).wp P Q a w := wp_region_lit h
theorem rs0 {id : Nat} {l : List Oper} {y : Code} (h : wpList P l.toArray (Exit.then (y.wp P Q) Q) l a w) : (Code.seq (.region id l.toArray false) y).wp P Q a w := wp_seq (wp_region_lit h)
theorem sp (S : X a w) (h : Steps P ops X l Y l') (k : ∀ a w, Y a w → wpList P ops Q l' a w) : wpList P ops Q l a w := h Q a w S k
theorem en (S : X a w) (h : Steps P ops X l Y []) (k : ∀ a w, Y a w → Q .normal a w) : wpList P ops Q l a w := h Q a w S k
theorem nn (k : Q .normal a w) : wpList P ops Q [] a w := k
theorem ent {f : Act → World → Prop} (h : f a w) : wpList P ops (Exit.then f Q) [] a w := wpList_nil (then_n h)
theorem ens {f : Act → World → Prop} (S : X a w) (h : Steps P ops X l Y []) (k : ∀ a w, Y a w → f a w) : wpList P ops (Exit.then f Q) l a w := h _ a w S fun a w hY => then_n (k a w hY)
end
section
variable {P : Program} {ops : Array Oper} {F : Nat → Prop} {w0 : World} {m0 : List BS} {n : Nat} {L L' : List (Nat × Value)} {fs : List RF} {os os' : List OF} {o : Oper} {ty : TypeId} {pos : String} {af : Array Edge} {Q : Exit → Act → World → Prop}
/-- an operation that only computes -/
theorem ov {d : Nat} {v : Value} (h : ∀ {a w}, St F w0 m0 n L fs os a w → (execOp a.eval o).run P w = .ok (.value v) w) (hk : o.guard = none ∧ o.dst = some d ∧ d < n := by exact ⟨rfl, rfl, by decide⟩) :
    One P ops (St F w0 m0 n L fs os) [] o (St F w0 m0 n ((d, v) :: L) fs os) := fun K Q a w S k => by
  unfold Core
  rw [if_pos (by simp [Region.wanted, hk.1])]
  exact .inl (op_val (h S) (by rw [hk.2.1]; exact k _ _ ⟨S.s.put hk.2.2, S.m⟩ (Ch.refl _)))
theorem ov0 {v : Value} (h : ∀ {a w}, St F w0 m0 n L fs os a w → (execOp a.eval o).run P w = .ok (.value v) w) (hk : o.guard = none ∧ o.dst = none := by exact ⟨rfl, rfl⟩) :
    One P ops (St F w0 m0 n L fs os) [] o (St F w0 m0 n L fs os) := fun K Q a w S k => by
  unfold Core
  rw [if_pos (by simp [Region.wanted, hk.1])]
  exact .inl (op_val (h S) (by rw [hk.2]; exact k _ _ S (Ch.refl _)))
/-- a guarded operation that only computes: its slot holds something only if the guard does -/
theorem og (gd : Nat) {b : Bool} {gv : Value} (hv : look gd L = some gv) {c : Prop} [Decidable c] (hc : c ↔ gv = .bool b) {e : Nat} {v : Value} (h : ∀ {a w}, St F w0 m0 n L fs os a w → c → (execOp a.eval o).run P w = .ok (.value v) w)
    (hk : ∃ j p, o.guard = some (j, b) ∧ ops[j]? = some p ∧ p.dst = some gd ∧ gd < n ∧ o.dst = some e ∧ e < n := by exact ⟨_, _, rfl, rfl, rfl, by decide, rfl, by decide⟩) :
    One P ops (St F w0 m0 n L fs os) [] o (St F w0 m0 n ((e, if c then v else undef) :: L) fs os) := fun K Q a w S k => by
  obtain ⟨j, p, h1, h2, h3, h4, h5, h6⟩ := hk
  have hw := (want_iff (a := a) (o := o) h1 h2 h3 (by rw [S.s.size]; exact h4) (S.s.get gd _ hv)).trans hc.symm
  unfold Core
  by_cases hcc : c
  · rw [if_pos (hw.2 hcc)]
    refine .inl (op_val (h S hcc) ?_)
    rw [h5]
    exact k _ _ ⟨by rw [if_pos hcc]; exact S.s.put h6, S.m⟩ (Ch.refl _)
  · rw [if_neg (fun e => hcc (hw.1 e)), h5]
    exact k _ _ ⟨by rw [if_neg hcc]; exact S.s.put h6, S.m⟩ (Ch.refl _)
/-- a guarded operation whose guard is known -/
theorem gon (gd : Nat) {b : Bool} {d : Nat} {v : Value} (hv : look gd L = some (.bool b)) (h : ∀ {a w}, St F w0 m0 n L fs os a w → (execOp a.eval o).run P w = .ok (.value v) w)
    (hk : ∃ j p, o.guard = some (j, b) ∧ ops[j]? = some p ∧ p.dst = some gd ∧ gd < n ∧ o.dst = some d ∧ d < n := by exact ⟨_, _, rfl, rfl, rfl, by decide, rfl, by decide⟩) :
    One P ops (St F w0 m0 n L fs os) [] o (St F w0 m0 n ((d, v) :: L) fs os) := fun K Q a w S k => by
  obtain ⟨j, p, h1, h2, h3, h4, h5, h6⟩ := hk
  have hw := (want_iff (a := a) (o := o) h1 h2 h3 (by rw [S.s.size]; exact h4) (S.s.get gd _ hv))
  unfold Core
  rw [if_pos (hw.2 rfl)]
  refine .inl (op_val (h S) ?_)
  rw [h5]
  exact k _ _ ⟨S.s.put h6, S.m⟩ (Ch.refl _)
theorem goff (gd : Nat) {b c : Bool} {d : Nat} (hv : look gd L = some (.bool c))
    (hk : ∃ j p, o.guard = some (j, b) ∧ ops[j]? = some p ∧ p.dst = some gd ∧ gd < n ∧ o.dst = some d ∧ d < n := by exact ⟨_, _, rfl, rfl, rfl, by decide, rfl, by decide⟩) (hbc : c ≠ b := by decide) :
    One P ops (St F w0 m0 n L fs os) [] o (St F w0 m0 n ((d, undef) :: L) fs os) := fun K Q a w S k => by
  obtain ⟨j, p, h1, h2, h3, h4, h5, h6⟩ := hk
  have hw := (want_iff (a := a) (o := o) h1 h2 h3 (by rw [S.s.size]; exact h4) (S.s.get gd _ hv))
  unfold Core
  rw [if_neg (fun e => hbc (by have := hw.1 e; injection this)), h5]
  exact k _ _ ⟨S.s.put h6, S.m⟩ (Ch.refl _)
/-! calls that leave the call's own alone, and whose result is told -/
theorem oc {d : Nat} {f : FuncId} {args : Array Operand} {ats : Array TypeId} {vs : Array Value} {v : Value} (h : ∀ {a w}, St F w0 m0 n L fs os a w → Calls P f vs w fun e w' => e = .returned v ∧ Tr [] w [] w') (hf : Callable P f) (hv : args.toList.map (evS L) = vs.toList.map some := by rfl) (hd : d < n := by decide) :
    One P ops (St F w0 m0 n L fs os) [] ⟨some d, .call ⟨.value (.func f), args, ats⟩, ty, pos, af, none⟩ (St F w0 m0 n ((d, v) :: L) fs os) := fun K Q a w S k => by
  unfold Core
  rw [if_pos (by simp [Region.wanted])]
  exact .inl (op_call (args_eval S.s hv) hf (h S) fun e w' ⟨he, t⟩ => ⟨v, he, k _ _ (S.k0 (S.s.put hd) t) t.ch⟩)
def GA (c : Prop) (a : Act) : List Operand → List Value → Prop
  | [], [] => True
  | x :: xs, v :: vs => (c → a.eval x = v) ∧ GA c a xs vs
  | _, _ => False
theorem GA.get {c : Prop} {a : Act} {xs : Array Operand} {vs : Array Value} (h : GA c a xs.toList vs.toList) (hc : c) : xs.map a.eval = vs := by
  apply Array.ext'
  rw [Array.toList_map]
  have : ∀ (l : List Operand) (u : List Value), GA c a l u → l.map a.eval = u := by
    intro l
    induction l with
    | nil => intro u hu; cases u with
      | nil => rfl
      | cons _ _ => exact hu.elim
    | cons x l ih => intro u hu; cases u with
      | nil => exact hu.elim
      | cons v u => rw [List.map_cons, hu.1 hc, ih u hu.2]
  exact this _ _ h
theorem ocg (gd : Nat) {j : Nat} {b : Bool} {gv : Value} (hv : look gd L = some gv) {c : Prop} [Decidable c] (hc : c ↔ gv = .bool b) {d : Nat} {f : FuncId} {args : Array Operand} {ats : Array TypeId} {vs : Array Value} {v : Value} (h : ∀ {a w}, St F w0 m0 n L fs os a w → c → Calls P f vs w fun e w' => e = .returned v ∧ Tr [] w [] w') (hf : Callable P f) (ha : ∀ {a w}, St F w0 m0 n L fs os a w → GA c a args.toList vs.toList)
    (hk : ∃ p, ops[j]? = some p ∧ p.dst = some gd ∧ gd < n ∧ d < n := by exact ⟨_, rfl, rfl, by decide, by decide⟩) :
    One P ops (St F w0 m0 n L fs os) [] ⟨some d, .call ⟨.value (.func f), args, ats⟩, ty, pos, af, some (j, b)⟩ (St F w0 m0 n ((d, if c then v else undef) :: L) fs os) := fun K Q a w S k => by
  obtain ⟨p, h2, h3, h4, h6⟩ := hk
  have hw := (want_iff (a := a) (o := ⟨some d, .call ⟨.value (.func f), args, ats⟩, ty, pos, af, some (j, b)⟩) rfl h2 h3 (by rw [S.s.size]; exact h4) (S.s.get gd _ hv)).trans hc.symm
  unfold Core
  by_cases hcc : c
  · rw [if_pos (hw.2 hcc)]
    exact .inl (op_call (GA.get (ha S) hcc) hf (h S hcc) fun e w' ⟨he, t⟩ => ⟨v, he, k _ _ (S.k0 (by rw [if_pos hcc]; exact S.s.put h6) t) t.ch⟩)
  · rw [if_neg (fun e => hcc (hw.1 e))]
    exact k _ _ ⟨by rw [if_neg hcc]; exact S.s.put h6, S.m⟩ (Ch.refl _)
/-- a closure that tests an element -/
theorem ocv {α : Type} {E : Enc α} {d : Nat} {x : Operand} {f : FuncId} {caps : Array Value} {args : Array Operand} {ats : Array TypeId} {xs : List α} {p : α → Prop} [DecidablePred p] {vs : Array Value} (T : Tests P E w0 f caps xs p) (hm : m0 = []) (ho : os = []) (i : Nat) (hi : i < xs.length) (hx : evS L x = some (.func (.func f) #[] caps)) (hv : args.toList.map (evS L) = vs.toList.map some) (hvs : vs = #[.agg (E.cells (xs.getD i E.dflt)).toArray]) (hd : d < n := by decide) :
    One P ops (St F w0 m0 n L fs os) [] ⟨some d, .call ⟨.value x, args, ats⟩, ty, pos, af, none⟩ (St F w0 m0 n ((d, .bool (decide (p (xs.getD i E.dflt)))) :: L) fs os) := fun K Q a w S k => by
  subst hm ho hvs
  unfold Core
  rw [if_pos (by simp [Region.wanted])]
  exact .inl (op_callv (S.s.eval hx) (args_eval S.s hv) T.1 (T.2 w S.m.c i hi) fun e w' ⟨he, t⟩ => ⟨_, he, k _ _ (S.k0 (S.s.put hd) t) t.ch⟩)

def szpos (P : Program) (t : TypeId) : Bool := match P.info? t with
  | some i => decide (0 < i.size)
  | none => false
theorem szpos_ex {P : Program} {t : TypeId} (h : szpos P t = true) : ∃ q, (P.info? t).map (·.size) = some (q + 1) := by
  unfold szpos at h
  cases hi : P.info? t with
  | none => rw [hi] at h; cases h
  | some i => rw [hi] at h; exact ⟨i.size - 1, by simp at h ⊢; omega⟩
theorem xf {P : Program} {a : Act} {w : World} {d : Option Tmp} {ty : TypeId} {pos : String} {af : Array Edge} {g : Option (Nat × Bool)} {x : Operand} {s : TypeId} {fs : Array Field} {i b : Nat} {f : Field} (o fo : Nat) (hu : P.underlying s = some (.struct fs)) (hx : a.eval x = .pointer (some ⟨b, o, none⟩)) (hk : fs[i]? = some f ∧ f.offset = fo := by exact ⟨rfl, rfl⟩) (hz : szpos P f.type = true := by kernel_rfl) :
    (execOp a.eval ⟨d, .fieldAddr s x i, ty, pos, af, g⟩).run P w = .ok (.value (.pointer (some ⟨b, o + fo, none⟩))) w := by
  obtain ⟨q, hq⟩ := szpos_ex hz
  exact x_fld o fo hu hk.1 hk.2 hq hx
section
variable {d : Nat} {x y z : Operand} {xt yt : TypeId} {k : IntKind} {m p r : Int} {v : Value}
theorem mv (h : evS L x = some v) (hd : d < n := by decide) : One P ops (St F w0 m0 n L fs os) [] ⟨some d, .move x, ty, pos, af, none⟩ (St F w0 m0 n ((d, v) :: L) fs os) := ov (fun S => x_move (S.e h)) ⟨rfl, rfl, hd⟩
theorem av (h : evS L x = some v) (hd : d < n := by decide) : One P ops (St F w0 m0 n L fs os) [] ⟨some d, .assign x, ty, pos, af, none⟩ (St F w0 m0 n ((d, v) :: L) fs os) := ov (fun S => x_assign (S.e h)) ⟨rfl, rfl, hd⟩
theorem lssi (hx : evS L x = some (.int k m)) (hy : evS L y = some (.int k p)) (hd : d < n := by decide) : One P ops (St F w0 m0 n L fs os) [] ⟨some d, .binOp .lss xt x y yt, ty, pos, af, none⟩ (St F w0 m0 n ((d, .bool (decide (m < p))) :: L) fs os) := ov (fun S => x_lss (S.e hx) (S.e hy)) ⟨rfl, rfl, hd⟩
theorem leqi (hx : evS L x = some (.int k m)) (hy : evS L y = some (.int k p)) (hd : d < n := by decide) : One P ops (St F w0 m0 n L fs os) [] ⟨some d, .binOp .leq xt x y yt, ty, pos, af, none⟩ (St F w0 m0 n ((d, .bool (decide (m ≤ p))) :: L) fs os) := ov (fun S => x_leq (S.e hx) (S.e hy)) ⟨rfl, rfl, hd⟩
theorem gtri (hx : evS L x = some (.int k m)) (hy : evS L y = some (.int k p)) (hd : d < n := by decide) : One P ops (St F w0 m0 n L fs os) [] ⟨some d, .binOp .gtr xt x y yt, ty, pos, af, none⟩ (St F w0 m0 n ((d, .bool (decide (p < m))) :: L) fs os) := ov (fun S => x_gtr (S.e hx) (S.e hy)) ⟨rfl, rfl, hd⟩
theorem geqi (hx : evS L x = some (.int k m)) (hy : evS L y = some (.int k p)) (hd : d < n := by decide) : One P ops (St F w0 m0 n L fs os) [] ⟨some d, .binOp .geq xt x y yt, ty, pos, af, none⟩ (St F w0 m0 n ((d, .bool (decide (p ≤ m))) :: L) fs os) := ov (fun S => x_geq (S.e hx) (S.e hy)) ⟨rfl, rfl, hd⟩
theorem eqli (hx : evS L x = some (.int k m)) (hy : evS L y = some (.int k p)) (hd : d < n := by decide) : One P ops (St F w0 m0 n L fs os) [] ⟨some d, .binOp .eql xt x y yt, ty, pos, af, none⟩ (St F w0 m0 n ((d, .bool (decide (m = p))) :: L) fs os) := ov (fun S => x_eql (S.e hx) (S.e hy)) ⟨rfl, rfl, hd⟩
theorem neqi (hx : evS L x = some (.int k m)) (hy : evS L y = some (.int k p)) (hd : d < n := by decide) : One P ops (St F w0 m0 n L fs os) [] ⟨some d, .binOp .neq xt x y yt, ty, pos, af, none⟩ (St F w0 m0 n ((d, .bool (decide (¬ m = p))) :: L) fs os) := ov (fun S => x_neq (S.e hx) (S.e hy)) ⟨rfl, rfl, hd⟩
theorem addi (r : Int) (hx : evS L x = some (.int k m)) (hy : evS L y = some (.int k p)) (hr : k.wrap (m + p) = r) (hd : d < n := by decide) : One P ops (St F w0 m0 n L fs os) [] ⟨some d, .binOp .add xt x y yt, ty, pos, af, none⟩ (St F w0 m0 n ((d, .int k r) :: L) fs os) := ov (fun S => x_add (S.e hx) (S.e hy) hr) ⟨rfl, rfl, hd⟩
theorem subi (r : Int) (hx : evS L x = some (.int k m)) (hy : evS L y = some (.int k p)) (hr : k.wrap (m - p) = r) (hd : d < n := by decide) : One P ops (St F w0 m0 n L fs os) [] ⟨some d, .binOp .sub xt x y yt, ty, pos, af, none⟩ (St F w0 m0 n ((d, .int k r) :: L) fs os) := ov (fun S => x_sub (S.e hx) (S.e hy) hr) ⟨rfl, rfl, hd⟩
theorem muli (r : Int) (hx : evS L x = some (.int k m)) (hy : evS L y = some (.int k p)) (hr : k.wrap (m * p) = r) (hd : d < n := by decide) : One P ops (St F w0 m0 n L fs os) [] ⟨some d, .binOp .mul xt x y yt, ty, pos, af, none⟩ (St F w0 m0 n ((d, .int k r) :: L) fs os) := ov (fun S => x_mul (S.e hx) (S.e hy) hr) ⟨rfl, rfl, hd⟩
theorem seqi {s t : ByteArray} (hx : evS L x = some (.string s)) (hy : evS L y = some (.string t)) (hd : d < n := by decide) : One P ops (St F w0 m0 n L fs os) [] ⟨some d, .binOp .eql xt x y yt, ty, pos, af, none⟩ (St F w0 m0 n ((d, .bool (decide (s = t))) :: L) fs os) := ov (fun S => x_seql (S.e hx) (S.e hy)) ⟨rfl, rfl, hd⟩
theorem snei {s t : ByteArray} (hx : evS L x = some (.string s)) (hy : evS L y = some (.string t)) (hd : d < n := by decide) : One P ops (St F w0 m0 n L fs os) [] ⟨some d, .binOp .neq xt x y yt, ty, pos, af, none⟩ (St F w0 m0 n ((d, .bool (decide (¬ s = t))) :: L) fs os) := ov (fun S => x_sneq (S.e hx) (S.e hy)) ⟨rfl, rfl, hd⟩
theorem noti {q : Prop} [Decidable q] (hx : evS L x = some (.bool (decide q))) (hd : d < n := by decide) : One P ops (St F w0 m0 n L fs os) [] ⟨some d, .unOp .not xt x, ty, pos, af, none⟩ (St F w0 m0 n ((d, .bool (decide (¬ q))) :: L) fs os) := ov (fun S => x_notp (S.e hx)) ⟨rfl, rfl, hd⟩
theorem andi {q u : Prop} {v : Value} [Decidable q] [Decidable u] (hc : evS L z = some (.bool (decide q))) (hx : evS L x = some (if q then .bool (decide u) else v)) (hy : evS L y = some (.bool false)) (hd : d < n := by decide) : One P ops (St F w0 m0 n L fs os) [] ⟨some d, .pick z x y, ty, pos, af, none⟩ (St F w0 m0 n ((d, .bool (decide (q ∧ u))) :: L) fs os) := ov (fun S => x_and (S.e hc) (fun h => (S.e hx).trans (if_pos h)) (S.e hy)) ⟨rfl, rfl, hd⟩
theorem ori {q u : Prop} {v : Value} [Decidable q] [Decidable u] (hc : evS L z = some (.bool (decide q))) (hx : evS L x = some (.bool true)) (hy : evS L y = some (if ¬ q then .bool (decide u) else v)) (hd : d < n := by decide) : One P ops (St F w0 m0 n L fs os) [] ⟨some d, .pick z x y, ty, pos, af, none⟩ (St F w0 m0 n ((d, .bool (decide (q ∨ u))) :: L) fs os) := ov (fun S => x_or (S.e hc) (S.e hx) (fun h => (S.e hy).trans (if_pos h))) ⟨rfl, rfl, hd⟩
theorem andp {q u : Prop} [Decidable q] [Decidable u] (hc : evS L z = some (.bool (decide q))) (hx : evS L x = some (.bool (decide u))) (hy : evS L y = some (.bool false)) (hd : d < n := by decide) : One P ops (St F w0 m0 n L fs os) [] ⟨some d, .pick z x y, ty, pos, af, none⟩ (St F w0 m0 n ((d, .bool (decide (q ∧ u))) :: L) fs os) := ov (fun S => x_and (S.e hc) (fun _ => S.e hx) (S.e hy)) ⟨rfl, rfl, hd⟩
theorem orp {q u : Prop} [Decidable q] [Decidable u] (hc : evS L z = some (.bool (decide q))) (hx : evS L x = some (.bool true)) (hy : evS L y = some (.bool (decide u))) (hd : d < n := by decide) : One P ops (St F w0 m0 n L fs os) [] ⟨some d, .pick z x y, ty, pos, af, none⟩ (St F w0 m0 n ((d, .bool (decide (q ∨ u))) :: L) fs os) := ov (fun S => x_or (S.e hc) (S.e hx) (fun _ => S.e hy)) ⟨rfl, rfl, hd⟩
theorem leni {t e : TypeId} {s : Option Addr} {q c : Nat} (ht : P.underlying t = some (.slice e)) (hx : evS L x = some (.slice s q c)) (hd : d < n := by decide) : One P ops (St F w0 m0 n L fs os) [] ⟨some d, .call ⟨.builtin .len, #[x], #[t]⟩, ty, pos, af, none⟩ (St F w0 m0 n ((d, .int .i64 (q : Nat)) :: L) fs os) := ov (fun S => x_len ht (S.e hx)) ⟨rfl, rfl, hd⟩
theorem lesi {t : TypeId} {s : ByteArray} (ht : P.underlying t = some .string) (hx : evS L x = some (.string s)) (hd : d < n := by decide) : One P ops (St F w0 m0 n L fs os) [] ⟨some d, .call ⟨.builtin .len, #[x], #[t]⟩, ty, pos, af, none⟩ (St F w0 m0 n ((d, .int .i64 (s.size : Nat)) :: L) fs os) := ov (fun S => x_lens ht (S.e hx)) ⟨rfl, rfl, hd⟩
theorem exi {vs : Array Value} {i : Nat} (hx : evS L x = some (.tuple vs)) (hv : vs[i]? = some v) (hd : d < n := by decide) : One P ops (St F w0 m0 n L fs os) [] ⟨some d, .extract x i, ty, pos, af, none⟩ (St F w0 m0 n ((d, v) :: L) fs os) := ov (fun S => x_extract (S.e hx) hv) ⟨rfl, rfl, hd⟩
/-- the cell of an element of a slice -/
theorem idxi {t e : TypeId} {s : Option Addr} {q c sz : Nat} {kk : IntKind} {i : Int} (ht : P.underlying t = some (.slice e)) (hsz : (P.info? e).map (·.size) = some sz) (hx : evS L x = some (.slice s q c)) (hy : evS L y = some (.int kk i)) (j : Nat) (hj : i = (j : Int)) (hlt : j < q) (hs : s = some ⟨blk s, off s, none⟩) (hd : d < n := by decide) :
    One P ops (St F w0 m0 n L fs os) [] ⟨some d, .indexAddr t x y, ty, pos, af, none⟩ (St F w0 m0 n ((d, .pointer (some ⟨blk s, off s + j * sz, none⟩)) :: L) fs os) := ov (fun S => x_idx ht hsz (S.e hx) (S.e hy) j hj hlt hs) ⟨rfl, rfl, hd⟩
theorem fldi {s : TypeId} {gs : Array Field} {i b : Nat} {f : Field} (of_ fo : Nat) (hx : evS L x = some (.pointer (some ⟨b, of_, none⟩))) (hu : P.underlying s = some (.struct gs)) (hk : gs[i]? = some f ∧ f.offset = fo := by exact ⟨rfl, rfl⟩) (hz : szpos P f.type = true := by kernel_rfl) (hd : d < n := by decide) :
    One P ops (St F w0 m0 n L fs os) [] ⟨some d, .fieldAddr s x i, ty, pos, af, none⟩ (St F w0 m0 n ((d, .pointer (some ⟨b, of_ + fo, none⟩)) :: L) fs os) := by
  obtain ⟨q, hq⟩ := szpos_ex hz
  exact ov (fun S => x_fld of_ fo hu hk.1 hk.2 hq (S.e hx)) ⟨rfl, rfl, hd⟩
/-- a cell of one of the call's own variables is read -/
theorem ldk {t e : TypeId} {b f : Nat} {cs : List Value} (i : Nat) (hs : Scalar P t) (hx : evS L x = some (.pointer (some ⟨b, f, none⟩))) (hb : nth os i = some (blO b cs e)) (hv : cs[f]? = some v) (hd : d < n := by decide) :
    One P ops (St F w0 m0 n L fs os) [] ⟨some d, .load t x, ty, pos, af, none⟩ (St F w0 m0 n ((d, v) :: L) fs os) := ov (fun S => x_load hs (S.e hx) ((S.k i hb).cell hv)) ⟨rfl, rfl, hd⟩
theorem ldkw {t e : TypeId} {b : Nat} {cs : List Value} (i : Nat) (hx : evS L x = some (.pointer (some ⟨b, 0, none⟩))) (hb : nth os i = some (blO b cs e)) (hs : Wide P t cs.length) (hd : d < n := by decide) :
    One P ops (St F w0 m0 n L fs os) [] ⟨some d, .load t x, ty, pos, af, none⟩ (St F w0 m0 n ((d, .agg cs.toArray) :: L) fs os) := ov (fun S => x_loadw cs hs (S.e hx) (fun j v hv => by rw [Nat.zero_add]; exact (S.k i hb).cell hv)) ⟨rfl, rfl, hd⟩
/-- a cell of one of the call's own variables is written -/
theorem stk {t e : TypeId} {b f : Nat} {cs : List Value} {u : Value} (i : Nat) (hx : evS L x = some (.pointer (some ⟨b, f, none⟩))) (hy : evS L y = some v) (hb : nth os i = some (blO b cs e)) (ho : cs[f]? = some u := by rfl) (h1 : v.oneCell' = true := by rfl) (hz : (P.info? t).map (·.size) = some 1 := by kernel_rfl) :
    One P ops (St F w0 m0 n L fs os) [one b] ⟨none, .store t x y, ty, pos, af, none⟩ (St F w0 m0 n L fs (os.set i (blO b (cs.set f v) e))) := fun K Q a w S k => by
  have hB := S.k i hb
  unfold Core
  rw [if_pos (by simp [Region.wanted])]
  exact .inl (op_skip (x_store hz (S.e hx) (S.e hy) h1 hB ho) (k _ _ (S.k1s i hb (blO b (cs.set f v) e) rfl S.s (ch_set w b f v) (hB.set v)) (ch_set w b f v)))
theorem stkw {t e : TypeId} {b : Nat} {cs vs : List Value} (i : Nat) (hx : evS L x = some (.pointer (some ⟨b, 0, none⟩))) (hy : evS L y = some (.agg vs.toArray)) (hb : nth os i = some (blO b cs e)) (hl : cs.length = vs.length := by rfl) (h1 : vs.all (·.oneCell') = true := by rfl) (hz : (P.info? t).map (·.size) = some vs.length := by kernel_rfl) :
    One P ops (St F w0 m0 n L fs os) [one b] ⟨none, .store t x y, ty, pos, af, none⟩ (St F w0 m0 n L fs (os.set i (blO b vs e))) := fun K Q a w S k => by
  have hB := S.k i hb
  unfold Core
  rw [if_pos (by simp [Region.wanted])]
  exact .inl (op_skip (x_storew hz (S.e hx) (S.e hy) h1 hB hl) (k _ _ (S.k1s i hb (blO b vs e) rfl S.s (setRow_ch w b _) (setRow_blk vs hB)) (setRow_ch w b _)))
/-- an element of a row of the call's own is written -/
theorem str {α : Type} {E : Enc α} {et : TypeId} {t : TypeId} {ad : Option Addr} {cap ob bs : Nat} {xs : List α} (i : Nat) (hz : (P.info? t).map (·.size) = some 1) (hx : evS L x = some (.pointer (some ⟨blk ad, ob, none⟩))) (hy : evS L y = some v) (hr : nth os i = some (rwO E et bs ad cap xs)) (m j : Nat) (hm : m < xs.length) (hj : j < E.n) (x' : α) (hw : ∀ {a w}, St F w0 m0 n L fs os a w → E.wf (Fr F (ow os)) w.heap x') (hc : E.cells x' = (E.cells (xs.getD m E.dflt)).set j v) (hob : ob = m * E.n + j) (h1 : v.oneCell' = true) :
    One P ops (St F w0 m0 n L fs os) [abk ad] ⟨none, .store t x y, ty, pos, af, none⟩ (St F w0 m0 n L fs (os.set i (rwO E et bs ad cap (xs.set m x')))) := fun K Q a w S k => by
  have R := S.row i hr
  obtain ⟨h2, h3, cur, h4, h5⟩ := row_set R m j hm hj x' v hc (ow_mem (nth_mem hr)) (hw S) hob
  unfold Core
  rw [if_pos (by simp [Region.wanted])]
  refine .inl (op_skip ?_ (k _ _ (S.k1s i hr (rwO E et bs ad cap (xs.set m x')) rfl S.s h3 ⟨h2.own, h2.wf⟩) h3))
  have hcs : v.cells = #[v] := by cases v <;> simp [Value.oneCell'] at h1 <;> rfl
  cases hi : P.info? t with
  | none => simp [hi] at hz
  | some ie =>
    have h6 : ie.size = 1 := by simpa [hi] using hz
    simp [execOp, Instr.storeAt, S.e hx, S.e hy, Instr.sureAddr, storeVar, hcs, sizeOf, typeInfo, hi, h6, storeCells, addr_add, run_store_cell h1 h4 h5]
end
theorem Blk.all {h : Array Obj} {b : Nat} {cs : List Value} {e : TypeId} (k : Blk h b cs e) : ∀ j v, cs[j]? = some v → hcell h b (0 + j) = some v := fun j v hv => by rw [Nat.zero_add]; exact k.cell hv
theorem BlkR.all {ms : List BS} {h : Array Obj} {b : Nat} {cs : List Value} {e : TypeId} (k : BlkR ms h b cs e) : ∀ j v, cs[j]? = some v → hcell h b (0 + j) = some v := k.k.all
theorem x_ldw {P : Program} {a : Act} {w : World} {d : Option Tmp} {ty : TypeId} {pos : String} {af : Array Edge} {g : Option (Nat × Bool)} {x : Operand} {t : TypeId} {b o : Nat} {cs : List Value} (hx : a.eval x = .pointer (some ⟨b, o, none⟩)) (hc : ∀ j v, cs[j]? = some v → hcell w.heap b (o + j) = some v) (hs : Wide P t cs.length) :
    (execOp a.eval ⟨d, .load t x, ty, pos, af, g⟩).run P w = .ok (.value (.agg cs.toArray)) w := x_loadw cs hs hx hc
theorem x_bs {a : Act} {w : World} {d : Option Tmp} {g : Option (Nat × Bool)} {t e : TypeId} {len : Nat} {parts : Array (Nat × Operand)} {cs : List Value} (S : St F w0 m0 n L fs os a w) (vs : List (Nat × Value)) {z : Value} {sz by_ : Nat} (ht : P.underlying t = some (.slice e)) (hi : (P.info? e).map (fun i => (i.zero, i.size, i.bytes)) = some (some z, sz, by_))
    (hv : parts.toList.map (fun p => (p.1, evS L p.2)) = vs.map (fun p => (p.1, some p.2)) := by rfl) (hsmall : ¬ len * sz > 2 ^ 24 := by decide) (hpos : ¬ len * sz = 0 := by decide) (hf : Instr.fill (fun i => some (i * sz, sz)) ((Array.range (len * sz)).map (z.cells[· % z.cells.size]!)) vs = some cs.toArray := by kernel_rfl) :
    (execOp a.eval ⟨d, .buildSlice t len parts, ty, pos, af, g⟩).run P w = .ok (.value (.slice (some ⟨w.heap.size, 0, none⟩) len len)) (w.alloc (.cells cs.toArray e)) := by
  refine x_bsl vs cs ht hi hsmall hpos ?_ hf
  have : ∀ (l : List (Nat × Operand)) (u : List (Nat × Value)), l.map (fun p => (p.1, evS L p.2)) = u.map (fun p => (p.1, some p.2)) → l.map (fun p => (p.1, a.eval p.2)) = u := by
    intro l
    induction l with
    | nil => intro u hu; cases u <;> simp_all
    | cons x l ih =>
      intro u hu
      cases u with
      | nil => simp at hu
      | cons v u =>
        obtain ⟨v1, v2⟩ := v
        simp only [List.map_cons, List.cons.injEq, Prod.mk.injEq] at hu ⊢
        exact ⟨⟨hu.1.1, S.s.eval hu.1.2⟩, ih u hu.2⟩
  exact this _ _ hv
theorem x_bd {a : Act} {w : World} {d : Option Tmp} {g : Option (Nat × Bool)} {t : TypeId} {parts : Array (Nat × Operand)} (S : St F w0 m0 n L fs os a w) (vs : List (Nat × Value)) (cs : List Value) (hv : parts.toList.map (fun p => (p.1, evS L p.2)) = vs.map (fun p => (p.1, some p.2)) := by rfl) (hb : P.built t vs = some cs.toArray := by kernel_rfl) :
    (execOp a.eval ⟨d, .build t parts, ty, pos, af, g⟩).run P w = .ok (.value (.agg cs.toArray)) w := by
  refine x_build vs cs ?_ hb
  have : ∀ (l : List (Nat × Operand)) (u : List (Nat × Value)), l.map (fun p => (p.1, evS L p.2)) = u.map (fun p => (p.1, some p.2)) → l.map (fun p => (p.1, a.eval p.2)) = u := by
    intro l
    induction l with
    | nil => intro u hu; cases u <;> simp_all
    | cons x l ih =>
      intro u hu
      cases u with
      | nil => simp at hu
      | cons v u =>
        obtain ⟨v1, v2⟩ := v
        simp only [List.map_cons, List.cons.injEq, Prod.mk.injEq] at hu ⊢
        exact ⟨⟨hu.1.1, S.s.eval hu.1.2⟩, ih u hu.2⟩
  exact this _ _ hv
/-! new blocks -/
section
variable {rest : List Oper} {a : Act} {w : World}
theorem nb {d : Nat} (mk : Nat → Value) {cs : List Value} {e : TypeId} (S : St F w0 m0 n L fs os a w) (h : (execOp a.eval o).run P w = .ok (.value (mk w.heap.size)) (w.alloc (.cells cs.toArray e)))
    (next : ∀ a' w' b, St F w0 m0 n ((d, mk b) :: L) fs (os ++ [blO b cs e]) a' w' → wpList P ops Q rest a' w') (hk : o.guard = none ∧ o.dst = some d ∧ d < n := by exact ⟨rfl, rfl, by decide⟩) : wpList P ops Q (o :: rest) a w :=
  seq_val S.s hk.1 hk.2.1 hk.2.2 h fun a' S' => next a' _ _ ⟨S', S.m.n1 (blO w.heap.size cs e) rfl (by simp) (fun k hk => hk) (ch_alloc w _) (Blk.new w cs e)⟩
theorem nbp {d : Nat} {cs : List Value} {e : TypeId} (S : St F w0 m0 n L fs os a w) (h : (execOp a.eval o).run P w = .ok (.value (.pointer (some ⟨w.heap.size, 0, none⟩))) (w.alloc (.cells cs.toArray e)))
    (next : ∀ a' w' b, St F w0 m0 n ((d, .pointer (some ⟨b, 0, none⟩)) :: L) fs (os ++ [blO b cs e]) a' w' → wpList P ops Q rest a' w') (hk : o.guard = none ∧ o.dst = some d ∧ d < n := by exact ⟨rfl, rfl, by decide⟩) : wpList P ops Q (o :: rest) a w := nb (fun b => .pointer (some ⟨b, 0, none⟩)) S h next hk
/-- a literal slice, that is only read -/
theorem nbs {α : Type} {d : Nat} {e : TypeId} {q : Nat} (E : Enc α) (S : St F w0 m0 n L fs os a w) (xs : List α) (h : (execOp a.eval o).run P w = .ok (.value (.slice (some ⟨w.heap.size, 0, none⟩) q q)) (w.alloc (.cells (xs.flatMap E.cells).toArray e)))
    (hw : ∀ x ∈ xs, E.wf (Fr F (ow os)) w.heap x) (next : ∀ a' w' b, St F w0 m0 n ((d, .slice (some ⟨b, 0, none⟩) q q) :: L) (fs ++ [wfF (slE E) ⟨some ⟨b, 0, none⟩, q, xs⟩]) os a' w' → wpList P ops Q rest a' w')
    (hq : xs.length = q ∧ q ≤ maxLen ∧ 0 < q := by exact ⟨rfl, by decide, by decide⟩) (hk : o.guard = none ∧ o.dst = some d ∧ d < n := by exact ⟨rfl, rfl, by decide⟩) : wpList P ops Q (o :: rest) a w :=
  seq_val S.s hk.1 hk.2.1 hk.2.2 h fun a' S' => by
    have g := ch_alloc w (.cells (xs.flatMap E.cells).toArray e)
    have M := S.m.k0 g
    refine next a' _ w.heap.size (St.ar ⟨S', M⟩ _ (sl_of_blk (Blk.new w (xs.flatMap E.cells) e) xs q hq.1 hq.2.1 hq.2.2 rfl (fr_fresh S.m.c S.m.f rfl) fun x hx => E.mv (Tr.of_ch0 S.M g).mv (hw x hx)))
/-- a literal slice, that will be written -/
theorem nbr {α : Type} {d : Nat} {e : TypeId} {q : Nat} (E : Enc α) (S : St F w0 m0 n L fs os a w) (xs : List α) (h : (execOp a.eval o).run P w = .ok (.value (.slice (some ⟨w.heap.size, 0, none⟩) q q)) (w.alloc (.cells (xs.flatMap E.cells).toArray e)))
    (hw : ∀ x ∈ xs, E.wf (Fr F (ow os)) w.heap x) (next : ∀ a' w' b, St F w0 m0 n ((d, .slice (some ⟨b, 0, none⟩) q q) :: L) fs (os ++ [rwO E e w0.heap.size (some ⟨b, 0, none⟩) q xs]) a' w' → wpList P ops Q rest a' w')
    (hq : xs.length = q ∧ q ≤ maxLen := by exact ⟨rfl, by decide⟩) (hk : o.guard = none ∧ o.dst = some d ∧ d < n := by exact ⟨rfl, rfl, by decide⟩) : wpList P ops Q (o :: rest) a w :=
  seq_val S.s hk.1 hk.2.1 hk.2.2 h fun a' S' => by
    obtain ⟨h1, h2⟩ := hq
    generalize hcs : xs.flatMap E.cells = cs
    have g := ch_alloc w (.cells cs.toArray e)
    have S2 := next a' (w.alloc (.cells cs.toArray e)) w.heap.size
    refine S2 ⟨S', S.m.n1 (rwO E e w0.heap.size (some ⟨w.heap.size, 0, none⟩) q xs) (b := w.heap.size) rfl (by simp) (fun k hk => by rw [show (rwO E e w0.heap.size (some ⟨w.heap.size, 0, none⟩) q xs).o = one w.heap.size from abk_one _] at hk; exact hk) g ?_⟩
    have T : Tr (ow os) w (ow os ++ [(rwO E e w0.heap.size (some ⟨w.heap.size, 0, none⟩) q xs).o]) (w.alloc (.cells cs.toArray e)) := by
      have := (Tr.freshRow S.M rfl (by simp) g); exact Tr.comm (x := [_]) this
    have hwf : ∀ x ∈ xs, E.wf (Fr F (ow os ++ [(rwO E e w0.heap.size (some ⟨w.heap.size, 0, none⟩) q xs).o])) (w.alloc (.cells cs.toArray e)).heap x := fun x hx => E.mv T.mv (hw x hx)
    refine ⟨⟨flat_len E.len xs, .inr ⟨w.heap.size, q, cs.toArray, by rw [h1], S.m.c.size, Blk.new w cs e, by omega, h2, ?_, ?_⟩⟩, hwf⟩
    · rw [← hcs, List.size_toArray, flat_len E.len, h1]
    · rw [← flat_len E.len xs, hcs, List.take_length]
/-- a call -/
theorem cl {d : Nat} {f : FuncId} {args : Array Operand} {ats : Array TypeId} {vs : Array Value} {R : Ending → World → Prop} (S : St F w0 m0 n L fs os a w) (hc : Calls P f vs w R) (hf : Callable P f)
    (hR : ∀ e w', R e w' → ∃ v, e = .returned v ∧ ∀ a', Slots n ((d, v) :: L) a' → wpList P ops Q rest a' w') (hv : args.toList.map (evS L) = vs.toList.map some := by rfl) (hd : d < n := by decide) : wpList P ops Q (⟨some d, .call ⟨.value (.func f), args, ats⟩, ty, pos, af, none⟩ :: rest) a w := seq_call S.s hd hv hf hc hR
/-- append to a row of the call's own -/
theorem ap {α : Type} {E : Enc α} {d : Nat} {t ts : TypeId} {ad sa : Option Addr} {cap sc bs : Nat} {xs ys : List α} {D : Nat → Prop} {z : Value} {bytes : Nat} {s x : Operand} (S : St F w0 m0 n L fs os a w) (i : Nat) (hi : nth os i = some (rwO E t bs ad cap xs)) (ht : P.underlying ts = some (.slice t)) (hz : (P.info? t).map (fun i => (i.zero, i.size, i.bytes)) = some (some z, E.n, bytes))
    (hs : evS L s = some (.slice ad xs.length cap)) (hx : evS L x = some (.slice sa ys.length sc)) (hsrc : LAt E D w.heap sa ys) (hsc : sa = none → sc = 0) (hyw : ∀ y ∈ ys, E.wf (Fr F (ow os)) w.heap y) (h63 : xs.length + ys.length ≤ maxLen ∧ (xs.length + ys.length) * bytes ≤ 140737488355328)
    (next : ∀ a' w' ad' cap', St F w0 m0 n ((d, .slice ad' (xs ++ ys).length cap') :: L) fs (os.set i (rwO E t bs ad' cap' (xs ++ ys))) a' w' → wpList P ops Q rest a' w') (hzz : z.cells.size = E.n ∧ 0 < E.n := by exact ⟨rfl, by decide⟩) (hd : d < n := by decide) (hbs : bs ≤ w0.heap.size := by first | exact Nat.le_refl _ | exact Nat.zero_le _ | assumption) :
    wpList P ops Q (⟨some d, .call ⟨.builtin .append, #[s, x], #[ts, ts]⟩, ty, pos, af, none⟩ :: rest) a w := by
  refine seq_op rfl (op_append (E := E) ((ow os).take i) ((ow os).drop (i + 1)) s x ts rfl z bytes ht hz hzz.1 hzz.2 (rowSplit hi) S.M (S.e hs) (S.row i hi) ys sa sc (S.e hx) hsrc hsc hyw h63.1 h63.2 (Nat.le_trans hbs S.m.c.size) fun ad' cap' w' R T g => ?_)
  have e1 := rowSplit hi
  have e2 := ow_setx (g := rwO E t bs ad' cap' (xs ++ ys)) hi
  have T' : Tr (ow os) w (ow (os.set i (rwO E t bs ad' cap' (xs ++ ys)))) w' := by
    rw [e2]
    conv => arg 1; rw [e1]
    exact T
  exact next _ _ ad' cap' ⟨S.s.put hd, S.m.sw i hi _ T' g (by rw [e2]; exact ⟨R.own, R.wf⟩)⟩
/-- make([]T, q) -/
theorem mk {α : Type} {E : Enc α} {d : Nat} {t e : TypeId} {l c : Operand} {z : Value} {bytes : Nat} {kl kc : IntKind} {A B : Int} (S : St F w0 m0 n L fs os a w) (x0 : α) (q : Nat) (ht : P.underlying t = some (.slice e)) (hi : (P.info? e).map (fun i => (i.zero, i.size, i.bytes)) = some (some z, E.n, bytes))
    (hl : evS L l = some (.int kl A)) (hc : evS L c = some (.int kc B)) (hA : A = (q : Int)) (hB : B = (q : Int)) (hb : bytes * q ≤ 281474976710656) (hm : q ≤ maxLen) (hw : ∀ D h, E.wf D h x0)
    (next : ∀ a' w' ad, St F w0 m0 n ((d, .slice ad (List.replicate q x0).length q) :: L) fs (os ++ [rwO E e w0.heap.size ad q (List.replicate q x0)]) a' w' → wpList P ops Q rest a' w') (hzz : E.n = 1 ∧ E.cells x0 = [z] ∧ z.cells = #[z] := by exact ⟨rfl, rfl, rfl⟩) (hd : d < n := by decide) :
    wpList P ops Q (⟨some d, .makeSlice t l c, ty, pos, af, none⟩ :: rest) a w := by
  refine seq_op rfl (op_make (E := E) (F := F) (w0 := w0) l c rfl z bytes ht hi hzz.1 x0 hzz.2.1 hzz.2.2 q (S.e hl) (S.e hc) hA hB hb hm S.M (fun h => hw _ h) S.m.c.size fun ad w' R T g => ?_)
  refine next _ _ ad ⟨by have := S.s.put (v := .slice ad q q) hd; rwa [List.length_replicate], S.m.nu [rwO E e w0.heap.size ad q (List.replicate q x0)] T g fun f hf => ?_⟩
  simp only [List.mem_singleton] at hf; subst hf
  exact ⟨R.own, fun x hx => Enc.mono _ (fun k _ hk => ⟨fun e => hk.1 ((in_app.1 e).elim .inr fun e => .inl (In.one.1 e)), hk.2⟩) (R.wf x hx)⟩
end
theorem Tests.tr {α : Type} {P : Program} {E : Enc α} {w w' : World} {f : FuncId} {caps : Array Value} {xs : List α} {p : α → Prop} [DecidablePred p] (T : Tests P E w f caps xs p) (t : Tr [] w [] w') : Tests P E w' f caps xs p := ⟨T.1, fun w2 t2 => T.2 w2 (t.trans t2)⟩
/-! a row that is nil; a tape that a callee makes; facts are dropped -/
theorem St.nr {α : Type} {a : Act} {w : World} (S : St F w0 m0 n L fs os a w) (E : Enc α) (t : TypeId) : St F w0 m0 n L fs (os ++ [rwO E t w0.heap.size none 0 []]) a w :=
  ⟨S.s, S.m.nu [rwO E t w0.heap.size none 0 []] ((Tr.refl S.M).cons (b := abk none) fun k e => absurd e abk_none) (Ch.refl _) fun f hf => by
    simp only [List.mem_singleton] at hf; subst hf
    exact ⟨⟨by simp, .inl ⟨rfl, rfl⟩⟩, fun x h => by simp at h⟩⟩
theorem St.kt {t : TypeId} {T : Nat} {tl : Sl Int} {a a' : Act} {w w' : World} (S : St F w0 m0 n L fs os a w) (s : Slots n L' a') (T0 : Tr [] w [one T] w') (K : TpB t T tl w') : St F w0 m0 n L' fs (os ++ [tpO t T tl]) a' w' :=
  ⟨s, S.m.nu [tpO t T tl] (Tr.frame (m0 := []) (nw := [one T]) S.M T0 fun _ h => by simp at h) T0.ch fun f hf => by simp only [List.mem_singleton] at hf; subst hf; exact K⟩
theorem St.rt {a : Act} {w : World} (S : St F w0 m0 n L fs os a w) (k : Nat) : St F w0 m0 n L (fs.take k) os a w := ⟨S.s, S.m.sub fun _ h => List.mem_of_mem_take h⟩
/-! entering, conditions, returns -/
theorem subM {L L' : List (Nat × Value)} (h : L'.map (fun p => look p.1 L) = L'.map (fun p => some p.2)) : Sub L L' := by
  induction L' with
  | nil => trivial
  | cons p r ih => obtain ⟨i, v⟩ := p; simp only [List.map_cons, List.cons.injEq] at h; exact ⟨h.1, ih h.2⟩
def RAll (F W : Nat → Prop) (h : Array Obj) : List RF → Prop
  | [] => True
  | f :: r => f.p F W h ∧ RAll F W h r
def OAll (F W : Nat → Prop) (w : World) : List OF → Prop
  | [] => True
  | f :: r => f.p F W w ∧ OAll F W w r
theorem RAll.get {F W : Nat → Prop} {h : Array Obj} : ∀ {l : List RF}, RAll F W h l → ∀ f ∈ l, f.p F W h
  | _ :: _, k, f, hf => (List.mem_cons.1 hf).elim (fun e => e ▸ k.1) fun hf => k.2.get f hf
theorem OAll.get {F W : Nat → Prop} {h : World} : ∀ {l : List OF}, OAll F W h l → ∀ f ∈ l, f.p F W h
  | _ :: _, k, f, hf => (List.mem_cons.1 hf).elim (fun e => e ▸ k.1) fun hf => k.2.get f hf
theorem go {f : FuncId} {fn : Func} {c : Code} {args : Array Value} {R : Ending → World → Prop} (hf : P.funcs[f]? = some fn) (hb : fn.body = some c) (n : Nat) (hn : fn.ntmps = n) (fs : List RF) (os : List OF) (hF : Old F w0) (M : MS (ow os) w0) (hr : RAll F (In (ow os)) w0.heap fs) (ho : OAll F (In (ow os)) w0 os)
    (h : ∀ a, St F w0 (ow os) n (zipL 0 args.toList) fs os a w0 → c.wp P (bodyPost P fn R) a w0) (hsz : args.size ≤ n := by exact Nat.le_of_ble_eq_true rfl) : Calls P f args w0 R :=
  enter hf hb n hn hsz fun a S => h a ⟨S, Tr.refl M, hF, hr.get, ho.get⟩
section
variable {a : Act} {w : World}
theorem cd {c : Operand} {x y : Code} {p : Prop} [Decidable p] (S : St F w0 m0 n L fs os a w) (hc : evS L c = some (.bool (decide p))) (ht : p → x.wp P Q a w) (hf : ¬ p → y.wp P Q a w) : (Code.cond c x y).wp P Q a w := cond_dec S.s hc ht hf
theorem cdt {c : Operand} {x y : Code} (S : St F w0 m0 n L fs os a w) (hc : evS L c = some (.bool true)) (h : x.wp P Q a w) : (Code.cond c x y).wp P Q a w := cond_t S.s hc h
theorem cdf {c : Operand} {x y : Code} (S : St F w0 m0 n L fs os a w) (hc : evS L c = some (.bool false)) (h : y.wp P Q a w) : (Code.cond c x y).wp P Q a w := cond_f S.s hc h
theorem cdb {c : Operand} {x y : Code} {b : Bool} (S : St F w0 m0 n L fs os a w) (hc : evS L c = some (.bool b)) (ht : b = true → x.wp P Q a w) (hf : b = false → y.wp P Q a w) : (Code.cond c x y).wp P Q a w := cond_bool S.s hc ht hf
theorem jn {c : Code} {f : Act → World → Prop} (S : St F w0 m0 n L fs os a w) (L' : Int → List (Nat × Value)) (R : Int → Prop) (h : c.wp P (fun e a' w' => e = .normal ∧ ∃ j, St F w0 m0 n (L' j) fs os a' w' ∧ R j) a w) (k : ∀ j a' w', St F w0 m0 n (L' j) fs os a' w' → R j → f a' w') : c.wp P (Exit.then f Q) a w :=
  wp_mono h fun e a' w' ⟨he, j, hs, hr⟩ => by subst he; exact then_n (k j a' w' hs hr)
theorem St.l (S : St F w0 m0 n L fs os a w) (L' : List (Nat × Value)) (h : Sub L L') : St F w0 m0 n L' fs os a w := ⟨S.s.sub h, S.m⟩
/-- what becomes of a slot's value is told anew -/
theorem St.ext (S : St F w0 m0 n L fs os a w) {d : Nat} {v : Value} (h : a.tmps.getD d undef = v) : St F w0 m0 n ((d, v) :: L) fs os a w := ⟨S.s.ext h, S.m⟩
theorem St.get (S : St F w0 m0 n L fs os a w) (d : Nat) {v : Value} (h : look d L = some v) : a.tmps.getD d undef = v := S.s.get d v h
theorem St.c1 {d : Nat} {v v' : Value} (S : St F w0 m0 n ((d, v) :: L) fs os a w) (h : v = v') : St F w0 m0 n ((d, v') :: L) fs os a w := h ▸ S
end
theorem lp1 {α : Type} {c : Code} {a : Act} {w : World} (L' : α → List (Nat × Value)) (os' : α → List OF) (R : α → Prop) (μ : α → Nat) (S : St F w0 m0 n L fs os a w) (x0 : α) (hL : Sub L (L' x0)) (ho : os' x0 = os) (h0 : R x0)
    (round : ∀ (x0 : α) a w, St F w0 m0 n (L' x0) fs (os' x0) a w → R x0 → c.wp P (Exit.then (fun a' w' => ∃ (y0 : α), St F w0 m0 n (L' y0) fs (os' y0) a' w' ∧ R y0 ∧ μ y0 < μ x0) Q) a w) : (Code.loop c).wp P Q a w := by
  refine wp_loop_ghost (fun m a w => ∃ (y0 : α), St F w0 m0 n (L' y0) fs (os' y0) a w ∧ R y0 ∧ μ y0 = m) (μ x0) ⟨x0, ⟨S.s.sub hL, by rw [ho]; exact S.m⟩, h0, rfl⟩ fun m a w ⟨y0, S, hR, hm⟩ => ?_
  subst hm
  refine wp_mono (round y0 a w S hR) fun e a' w' hq => ?_
  cases e with
  | normal => obtain ⟨x0, h1, h2, h3⟩ := hq; exact ⟨_, h3, x0, h1, h2, rfl⟩
  | exit id => exact hq
  | goto l => exact hq
  | ret => exact hq
  | panic ch => exact hq
  | outgrown => exact hq
theorem lq1 {α : Type} {c : Code} {a : Act} {w : World} (L' : α → List (Nat × Value)) (fs' : α → List RF) (os' : α → List OF) (R : α → Prop) (μ : α → Nat) (S : St F w0 m0 n L fs os a w) (x0 : α) (hL : Sub L (L' x0)) (hf : fs' x0 = fs) (ho : os' x0 = os) (h0 : R x0)
    (round : ∀ (x0 : α) a w, St F w0 m0 n (L' x0) (fs' x0) (os' x0) a w → R x0 → c.wp P (Exit.then (fun a' w' => ∃ (y0 : α), St F w0 m0 n (L' y0) (fs' y0) (os' y0) a' w' ∧ R y0 ∧ μ y0 < μ x0) Q) a w) : (Code.loop c).wp P Q a w := by
  refine wp_loop_ghost (fun m a w => ∃ (y0 : α), St F w0 m0 n (L' y0) (fs' y0) (os' y0) a w ∧ R y0 ∧ μ y0 = m) (μ x0) ⟨x0, ⟨S.s.sub hL, by rw [ho, hf]; exact S.m⟩, h0, rfl⟩ fun m a w ⟨y0, S, hR, hm⟩ => ?_
  subst hm
  refine wp_mono (round y0 a w S hR) fun e a' w' hq => ?_
  cases e with
  | normal => obtain ⟨x0, h1, h2, h3⟩ := hq; exact ⟨_, h3, x0, h1, h2, rfl⟩
  | exit id => exact hq
  | goto l => exact hq
  | ret => exact hq
  | panic ch => exact hq
  | outgrown => exact hq
theorem lp2 {α : Type} {β : Type} {c : Code} {a : Act} {w : World} (L' : α → β → List (Nat × Value)) (os' : α → β → List OF) (R : α → β → Prop) (μ : α → β → Nat) (S : St F w0 m0 n L fs os a w) (x0 : α) (x1 : β) (hL : Sub L (L' x0 x1)) (ho : os' x0 x1 = os) (h0 : R x0 x1)
    (round : ∀ (x0 : α) (x1 : β) a w, St F w0 m0 n (L' x0 x1) fs (os' x0 x1) a w → R x0 x1 → c.wp P (Exit.then (fun a' w' => ∃ (y0 : α) (y1 : β), St F w0 m0 n (L' y0 y1) fs (os' y0 y1) a' w' ∧ R y0 y1 ∧ μ y0 y1 < μ x0 x1) Q) a w) : (Code.loop c).wp P Q a w := by
  refine wp_loop_ghost (fun m a w => ∃ (y0 : α) (y1 : β), St F w0 m0 n (L' y0 y1) fs (os' y0 y1) a w ∧ R y0 y1 ∧ μ y0 y1 = m) (μ x0 x1) ⟨x0, x1, ⟨S.s.sub hL, by rw [ho]; exact S.m⟩, h0, rfl⟩ fun m a w ⟨y0, y1, S, hR, hm⟩ => ?_
  subst hm
  refine wp_mono (round y0 y1 a w S hR) fun e a' w' hq => ?_
  cases e with
  | normal => obtain ⟨x0, x1, h1, h2, h3⟩ := hq; exact ⟨_, h3, x0, x1, h1, h2, rfl⟩
  | exit id => exact hq
  | goto l => exact hq
  | ret => exact hq
  | panic ch => exact hq
  | outgrown => exact hq
theorem lq2 {α : Type} {β : Type} {c : Code} {a : Act} {w : World} (L' : α → β → List (Nat × Value)) (fs' : α → β → List RF) (os' : α → β → List OF) (R : α → β → Prop) (μ : α → β → Nat) (S : St F w0 m0 n L fs os a w) (x0 : α) (x1 : β) (hL : Sub L (L' x0 x1)) (hf : fs' x0 x1 = fs) (ho : os' x0 x1 = os) (h0 : R x0 x1)
    (round : ∀ (x0 : α) (x1 : β) a w, St F w0 m0 n (L' x0 x1) (fs' x0 x1) (os' x0 x1) a w → R x0 x1 → c.wp P (Exit.then (fun a' w' => ∃ (y0 : α) (y1 : β), St F w0 m0 n (L' y0 y1) (fs' y0 y1) (os' y0 y1) a' w' ∧ R y0 y1 ∧ μ y0 y1 < μ x0 x1) Q) a w) : (Code.loop c).wp P Q a w := by
  refine wp_loop_ghost (fun m a w => ∃ (y0 : α) (y1 : β), St F w0 m0 n (L' y0 y1) (fs' y0 y1) (os' y0 y1) a w ∧ R y0 y1 ∧ μ y0 y1 = m) (μ x0 x1) ⟨x0, x1, ⟨S.s.sub hL, by rw [ho, hf]; exact S.m⟩, h0, rfl⟩ fun m a w ⟨y0, y1, S, hR, hm⟩ => ?_
  subst hm
  refine wp_mono (round y0 y1 a w S hR) fun e a' w' hq => ?_
  cases e with
  | normal => obtain ⟨x0, x1, h1, h2, h3⟩ := hq; exact ⟨_, h3, x0, x1, h1, h2, rfl⟩
  | exit id => exact hq
  | goto l => exact hq
  | ret => exact hq
  | panic ch => exact hq
  | outgrown => exact hq
theorem lp3 {α : Type} {β : Type} {γ : Type} {c : Code} {a : Act} {w : World} (L' : α → β → γ → List (Nat × Value)) (os' : α → β → γ → List OF) (R : α → β → γ → Prop) (μ : α → β → γ → Nat) (S : St F w0 m0 n L fs os a w) (x0 : α) (x1 : β) (x2 : γ) (hL : Sub L (L' x0 x1 x2)) (ho : os' x0 x1 x2 = os) (h0 : R x0 x1 x2)
    (round : ∀ (x0 : α) (x1 : β) (x2 : γ) a w, St F w0 m0 n (L' x0 x1 x2) fs (os' x0 x1 x2) a w → R x0 x1 x2 → c.wp P (Exit.then (fun a' w' => ∃ (y0 : α) (y1 : β) (y2 : γ), St F w0 m0 n (L' y0 y1 y2) fs (os' y0 y1 y2) a' w' ∧ R y0 y1 y2 ∧ μ y0 y1 y2 < μ x0 x1 x2) Q) a w) : (Code.loop c).wp P Q a w := by
  refine wp_loop_ghost (fun m a w => ∃ (y0 : α) (y1 : β) (y2 : γ), St F w0 m0 n (L' y0 y1 y2) fs (os' y0 y1 y2) a w ∧ R y0 y1 y2 ∧ μ y0 y1 y2 = m) (μ x0 x1 x2) ⟨x0, x1, x2, ⟨S.s.sub hL, by rw [ho]; exact S.m⟩, h0, rfl⟩ fun m a w ⟨y0, y1, y2, S, hR, hm⟩ => ?_
  subst hm
  refine wp_mono (round y0 y1 y2 a w S hR) fun e a' w' hq => ?_
  cases e with
  | normal => obtain ⟨x0, x1, x2, h1, h2, h3⟩ := hq; exact ⟨_, h3, x0, x1, x2, h1, h2, rfl⟩
  | exit id => exact hq
  | goto l => exact hq
  | ret => exact hq
  | panic ch => exact hq
  | outgrown => exact hq
theorem lq3 {α : Type} {β : Type} {γ : Type} {c : Code} {a : Act} {w : World} (L' : α → β → γ → List (Nat × Value)) (fs' : α → β → γ → List RF) (os' : α → β → γ → List OF) (R : α → β → γ → Prop) (μ : α → β → γ → Nat) (S : St F w0 m0 n L fs os a w) (x0 : α) (x1 : β) (x2 : γ) (hL : Sub L (L' x0 x1 x2)) (hf : fs' x0 x1 x2 = fs) (ho : os' x0 x1 x2 = os) (h0 : R x0 x1 x2)
    (round : ∀ (x0 : α) (x1 : β) (x2 : γ) a w, St F w0 m0 n (L' x0 x1 x2) (fs' x0 x1 x2) (os' x0 x1 x2) a w → R x0 x1 x2 → c.wp P (Exit.then (fun a' w' => ∃ (y0 : α) (y1 : β) (y2 : γ), St F w0 m0 n (L' y0 y1 y2) (fs' y0 y1 y2) (os' y0 y1 y2) a' w' ∧ R y0 y1 y2 ∧ μ y0 y1 y2 < μ x0 x1 x2) Q) a w) : (Code.loop c).wp P Q a w := by
  refine wp_loop_ghost (fun m a w => ∃ (y0 : α) (y1 : β) (y2 : γ), St F w0 m0 n (L' y0 y1 y2) (fs' y0 y1 y2) (os' y0 y1 y2) a w ∧ R y0 y1 y2 ∧ μ y0 y1 y2 = m) (μ x0 x1 x2) ⟨x0, x1, x2, ⟨S.s.sub hL, by rw [ho, hf]; exact S.m⟩, h0, rfl⟩ fun m a w ⟨y0, y1, y2, S, hR, hm⟩ => ?_
  subst hm
  refine wp_mono (round y0 y1 y2 a w S hR) fun e a' w' hq => ?_
  cases e with
  | normal => obtain ⟨x0, x1, x2, h1, h2, h3⟩ := hq; exact ⟨_, h3, x0, x1, x2, h1, h2, rfl⟩
  | exit id => exact hq
  | goto l => exact hq
  | ret => exact hq
  | panic ch => exact hq
  | outgrown => exact hq
theorem lp4 {α : Type} {β : Type} {γ : Type} {δ : Type} {c : Code} {a : Act} {w : World} (L' : α → β → γ → δ → List (Nat × Value)) (os' : α → β → γ → δ → List OF) (R : α → β → γ → δ → Prop) (μ : α → β → γ → δ → Nat) (S : St F w0 m0 n L fs os a w) (x0 : α) (x1 : β) (x2 : γ) (x3 : δ) (hL : Sub L (L' x0 x1 x2 x3)) (ho : os' x0 x1 x2 x3 = os) (h0 : R x0 x1 x2 x3)
    (round : ∀ (x0 : α) (x1 : β) (x2 : γ) (x3 : δ) a w, St F w0 m0 n (L' x0 x1 x2 x3) fs (os' x0 x1 x2 x3) a w → R x0 x1 x2 x3 → c.wp P (Exit.then (fun a' w' => ∃ (y0 : α) (y1 : β) (y2 : γ) (y3 : δ), St F w0 m0 n (L' y0 y1 y2 y3) fs (os' y0 y1 y2 y3) a' w' ∧ R y0 y1 y2 y3 ∧ μ y0 y1 y2 y3 < μ x0 x1 x2 x3) Q) a w) : (Code.loop c).wp P Q a w := by
  refine wp_loop_ghost (fun m a w => ∃ (y0 : α) (y1 : β) (y2 : γ) (y3 : δ), St F w0 m0 n (L' y0 y1 y2 y3) fs (os' y0 y1 y2 y3) a w ∧ R y0 y1 y2 y3 ∧ μ y0 y1 y2 y3 = m) (μ x0 x1 x2 x3) ⟨x0, x1, x2, x3, ⟨S.s.sub hL, by rw [ho]; exact S.m⟩, h0, rfl⟩ fun m a w ⟨y0, y1, y2, y3, S, hR, hm⟩ => ?_
  subst hm
  refine wp_mono (round y0 y1 y2 y3 a w S hR) fun e a' w' hq => ?_
  cases e with
  | normal => obtain ⟨x0, x1, x2, x3, h1, h2, h3⟩ := hq; exact ⟨_, h3, x0, x1, x2, x3, h1, h2, rfl⟩
  | exit id => exact hq
  | goto l => exact hq
  | ret => exact hq
  | panic ch => exact hq
  | outgrown => exact hq
theorem lq4 {α : Type} {β : Type} {γ : Type} {δ : Type} {c : Code} {a : Act} {w : World} (L' : α → β → γ → δ → List (Nat × Value)) (fs' : α → β → γ → δ → List RF) (os' : α → β → γ → δ → List OF) (R : α → β → γ → δ → Prop) (μ : α → β → γ → δ → Nat) (S : St F w0 m0 n L fs os a w) (x0 : α) (x1 : β) (x2 : γ) (x3 : δ) (hL : Sub L (L' x0 x1 x2 x3)) (hf : fs' x0 x1 x2 x3 = fs) (ho : os' x0 x1 x2 x3 = os) (h0 : R x0 x1 x2 x3)
    (round : ∀ (x0 : α) (x1 : β) (x2 : γ) (x3 : δ) a w, St F w0 m0 n (L' x0 x1 x2 x3) (fs' x0 x1 x2 x3) (os' x0 x1 x2 x3) a w → R x0 x1 x2 x3 → c.wp P (Exit.then (fun a' w' => ∃ (y0 : α) (y1 : β) (y2 : γ) (y3 : δ), St F w0 m0 n (L' y0 y1 y2 y3) (fs' y0 y1 y2 y3) (os' y0 y1 y2 y3) a' w' ∧ R y0 y1 y2 y3 ∧ μ y0 y1 y2 y3 < μ x0 x1 x2 x3) Q) a w) : (Code.loop c).wp P Q a w := by
  refine wp_loop_ghost (fun m a w => ∃ (y0 : α) (y1 : β) (y2 : γ) (y3 : δ), St F w0 m0 n (L' y0 y1 y2 y3) (fs' y0 y1 y2 y3) (os' y0 y1 y2 y3) a w ∧ R y0 y1 y2 y3 ∧ μ y0 y1 y2 y3 = m) (μ x0 x1 x2 x3) ⟨x0, x1, x2, x3, ⟨S.s.sub hL, by rw [ho, hf]; exact S.m⟩, h0, rfl⟩ fun m a w ⟨y0, y1, y2, y3, S, hR, hm⟩ => ?_
  subst hm
  refine wp_mono (round y0 y1 y2 y3 a w S hR) fun e a' w' hq => ?_
  cases e with
  | normal => obtain ⟨x0, x1, x2, x3, h1, h2, h3⟩ := hq; exact ⟨_, h3, x0, x1, x2, x3, h1, h2, rfl⟩
  | exit id => exact hq
  | goto l => exact hq
  | ret => exact hq
  | panic ch => exact hq
  | outgrown => exact hq
theorem lp5 {α : Type} {β : Type} {γ : Type} {δ : Type} {ε : Type} {c : Code} {a : Act} {w : World} (L' : α → β → γ → δ → ε → List (Nat × Value)) (os' : α → β → γ → δ → ε → List OF) (R : α → β → γ → δ → ε → Prop) (μ : α → β → γ → δ → ε → Nat) (S : St F w0 m0 n L fs os a w) (x0 : α) (x1 : β) (x2 : γ) (x3 : δ) (x4 : ε) (hL : Sub L (L' x0 x1 x2 x3 x4)) (ho : os' x0 x1 x2 x3 x4 = os) (h0 : R x0 x1 x2 x3 x4)
    (round : ∀ (x0 : α) (x1 : β) (x2 : γ) (x3 : δ) (x4 : ε) a w, St F w0 m0 n (L' x0 x1 x2 x3 x4) fs (os' x0 x1 x2 x3 x4) a w → R x0 x1 x2 x3 x4 → c.wp P (Exit.then (fun a' w' => ∃ (y0 : α) (y1 : β) (y2 : γ) (y3 : δ) (y4 : ε), St F w0 m0 n (L' y0 y1 y2 y3 y4) fs (os' y0 y1 y2 y3 y4) a' w' ∧ R y0 y1 y2 y3 y4 ∧ μ y0 y1 y2 y3 y4 < μ x0 x1 x2 x3 x4) Q) a w) : (Code.loop c).wp P Q a w := by
  refine wp_loop_ghost (fun m a w => ∃ (y0 : α) (y1 : β) (y2 : γ) (y3 : δ) (y4 : ε), St F w0 m0 n (L' y0 y1 y2 y3 y4) fs (os' y0 y1 y2 y3 y4) a w ∧ R y0 y1 y2 y3 y4 ∧ μ y0 y1 y2 y3 y4 = m) (μ x0 x1 x2 x3 x4) ⟨x0, x1, x2, x3, x4, ⟨S.s.sub hL, by rw [ho]; exact S.m⟩, h0, rfl⟩ fun m a w ⟨y0, y1, y2, y3, y4, S, hR, hm⟩ => ?_
  subst hm
  refine wp_mono (round y0 y1 y2 y3 y4 a w S hR) fun e a' w' hq => ?_
  cases e with
  | normal => obtain ⟨x0, x1, x2, x3, x4, h1, h2, h3⟩ := hq; exact ⟨_, h3, x0, x1, x2, x3, x4, h1, h2, rfl⟩
  | exit id => exact hq
  | goto l => exact hq
  | ret => exact hq
  | panic ch => exact hq
  | outgrown => exact hq
theorem lq5 {α : Type} {β : Type} {γ : Type} {δ : Type} {ε : Type} {c : Code} {a : Act} {w : World} (L' : α → β → γ → δ → ε → List (Nat × Value)) (fs' : α → β → γ → δ → ε → List RF) (os' : α → β → γ → δ → ε → List OF) (R : α → β → γ → δ → ε → Prop) (μ : α → β → γ → δ → ε → Nat) (S : St F w0 m0 n L fs os a w) (x0 : α) (x1 : β) (x2 : γ) (x3 : δ) (x4 : ε) (hL : Sub L (L' x0 x1 x2 x3 x4)) (hf : fs' x0 x1 x2 x3 x4 = fs) (ho : os' x0 x1 x2 x3 x4 = os) (h0 : R x0 x1 x2 x3 x4)
    (round : ∀ (x0 : α) (x1 : β) (x2 : γ) (x3 : δ) (x4 : ε) a w, St F w0 m0 n (L' x0 x1 x2 x3 x4) (fs' x0 x1 x2 x3 x4) (os' x0 x1 x2 x3 x4) a w → R x0 x1 x2 x3 x4 → c.wp P (Exit.then (fun a' w' => ∃ (y0 : α) (y1 : β) (y2 : γ) (y3 : δ) (y4 : ε), St F w0 m0 n (L' y0 y1 y2 y3 y4) (fs' y0 y1 y2 y3 y4) (os' y0 y1 y2 y3 y4) a' w' ∧ R y0 y1 y2 y3 y4 ∧ μ y0 y1 y2 y3 y4 < μ x0 x1 x2 x3 x4) Q) a w) : (Code.loop c).wp P Q a w := by
  refine wp_loop_ghost (fun m a w => ∃ (y0 : α) (y1 : β) (y2 : γ) (y3 : δ) (y4 : ε), St F w0 m0 n (L' y0 y1 y2 y3 y4) (fs' y0 y1 y2 y3 y4) (os' y0 y1 y2 y3 y4) a w ∧ R y0 y1 y2 y3 y4 ∧ μ y0 y1 y2 y3 y4 = m) (μ x0 x1 x2 x3 x4) ⟨x0, x1, x2, x3, x4, ⟨S.s.sub hL, by rw [ho, hf]; exact S.m⟩, h0, rfl⟩ fun m a w ⟨y0, y1, y2, y3, y4, S, hR, hm⟩ => ?_
  subst hm
  refine wp_mono (round y0 y1 y2 y3 y4 a w S hR) fun e a' w' hq => ?_
  cases e with
  | normal => obtain ⟨x0, x1, x2, x3, x4, h1, h2, h3⟩ := hq; exact ⟨_, h3, x0, x1, x2, x3, x4, h1, h2, rfl⟩
  | exit id => exact hq
  | goto l => exact hq
  | ret => exact hq
  | panic ch => exact hq
  | outgrown => exact hq
theorem lp6 {α : Type} {β : Type} {γ : Type} {δ : Type} {ε : Type} {ζ : Type} {c : Code} {a : Act} {w : World} (L' : α → β → γ → δ → ε → ζ → List (Nat × Value)) (os' : α → β → γ → δ → ε → ζ → List OF) (R : α → β → γ → δ → ε → ζ → Prop) (μ : α → β → γ → δ → ε → ζ → Nat) (S : St F w0 m0 n L fs os a w) (x0 : α) (x1 : β) (x2 : γ) (x3 : δ) (x4 : ε) (x5 : ζ) (hL : Sub L (L' x0 x1 x2 x3 x4 x5)) (ho : os' x0 x1 x2 x3 x4 x5 = os) (h0 : R x0 x1 x2 x3 x4 x5)
    (round : ∀ (x0 : α) (x1 : β) (x2 : γ) (x3 : δ) (x4 : ε) (x5 : ζ) a w, St F w0 m0 n (L' x0 x1 x2 x3 x4 x5) fs (os' x0 x1 x2 x3 x4 x5) a w → R x0 x1 x2 x3 x4 x5 → c.wp P (Exit.then (fun a' w' => ∃ (y0 : α) (y1 : β) (y2 : γ) (y3 : δ) (y4 : ε) (y5 : ζ), St F w0 m0 n (L' y0 y1 y2 y3 y4 y5) fs (os' y0 y1 y2 y3 y4 y5) a' w' ∧ R y0 y1 y2 y3 y4 y5 ∧ μ y0 y1 y2 y3 y4 y5 < μ x0 x1 x2 x3 x4 x5) Q) a w) : (Code.loop c).wp P Q a w := by
  refine wp_loop_ghost (fun m a w => ∃ (y0 : α) (y1 : β) (y2 : γ) (y3 : δ) (y4 : ε) (y5 : ζ), St F w0 m0 n (L' y0 y1 y2 y3 y4 y5) fs (os' y0 y1 y2 y3 y4 y5) a w ∧ R y0 y1 y2 y3 y4 y5 ∧ μ y0 y1 y2 y3 y4 y5 = m) (μ x0 x1 x2 x3 x4 x5) ⟨x0, x1, x2, x3, x4, x5, ⟨S.s.sub hL, by rw [ho]; exact S.m⟩, h0, rfl⟩ fun m a w ⟨y0, y1, y2, y3, y4, y5, S, hR, hm⟩ => ?_
  subst hm
  refine wp_mono (round y0 y1 y2 y3 y4 y5 a w S hR) fun e a' w' hq => ?_
  cases e with
  | normal => obtain ⟨x0, x1, x2, x3, x4, x5, h1, h2, h3⟩ := hq; exact ⟨_, h3, x0, x1, x2, x3, x4, x5, h1, h2, rfl⟩
  | exit id => exact hq
  | goto l => exact hq
  | ret => exact hq
  | panic ch => exact hq
  | outgrown => exact hq
theorem lq6 {α : Type} {β : Type} {γ : Type} {δ : Type} {ε : Type} {ζ : Type} {c : Code} {a : Act} {w : World} (L' : α → β → γ → δ → ε → ζ → List (Nat × Value)) (fs' : α → β → γ → δ → ε → ζ → List RF) (os' : α → β → γ → δ → ε → ζ → List OF) (R : α → β → γ → δ → ε → ζ → Prop) (μ : α → β → γ → δ → ε → ζ → Nat) (S : St F w0 m0 n L fs os a w) (x0 : α) (x1 : β) (x2 : γ) (x3 : δ) (x4 : ε) (x5 : ζ) (hL : Sub L (L' x0 x1 x2 x3 x4 x5)) (hf : fs' x0 x1 x2 x3 x4 x5 = fs) (ho : os' x0 x1 x2 x3 x4 x5 = os) (h0 : R x0 x1 x2 x3 x4 x5)
    (round : ∀ (x0 : α) (x1 : β) (x2 : γ) (x3 : δ) (x4 : ε) (x5 : ζ) a w, St F w0 m0 n (L' x0 x1 x2 x3 x4 x5) (fs' x0 x1 x2 x3 x4 x5) (os' x0 x1 x2 x3 x4 x5) a w → R x0 x1 x2 x3 x4 x5 → c.wp P (Exit.then (fun a' w' => ∃ (y0 : α) (y1 : β) (y2 : γ) (y3 : δ) (y4 : ε) (y5 : ζ), St F w0 m0 n (L' y0 y1 y2 y3 y4 y5) (fs' y0 y1 y2 y3 y4 y5) (os' y0 y1 y2 y3 y4 y5) a' w' ∧ R y0 y1 y2 y3 y4 y5 ∧ μ y0 y1 y2 y3 y4 y5 < μ x0 x1 x2 x3 x4 x5) Q) a w) : (Code.loop c).wp P Q a w := by
  refine wp_loop_ghost (fun m a w => ∃ (y0 : α) (y1 : β) (y2 : γ) (y3 : δ) (y4 : ε) (y5 : ζ), St F w0 m0 n (L' y0 y1 y2 y3 y4 y5) (fs' y0 y1 y2 y3 y4 y5) (os' y0 y1 y2 y3 y4 y5) a w ∧ R y0 y1 y2 y3 y4 y5 ∧ μ y0 y1 y2 y3 y4 y5 = m) (μ x0 x1 x2 x3 x4 x5) ⟨x0, x1, x2, x3, x4, x5, ⟨S.s.sub hL, by rw [ho, hf]; exact S.m⟩, h0, rfl⟩ fun m a w ⟨y0, y1, y2, y3, y4, y5, S, hR, hm⟩ => ?_
  subst hm
  refine wp_mono (round y0 y1 y2 y3 y4 y5 a w S hR) fun e a' w' hq => ?_
  cases e with
  | normal => obtain ⟨x0, x1, x2, x3, x4, x5, h1, h2, h3⟩ := hq; exact ⟨_, h3, x0, x1, x2, x3, x4, x5, h1, h2, rfl⟩
  | exit id => exact hq
  | goto l => exact hq
  | ret => exact hq
  | panic ch => exact hq
  | outgrown => exact hq
theorem lp7 {α : Type} {β : Type} {γ : Type} {δ : Type} {ε : Type} {ζ : Type} {η : Type} {c : Code} {a : Act} {w : World} (L' : α → β → γ → δ → ε → ζ → η → List (Nat × Value)) (os' : α → β → γ → δ → ε → ζ → η → List OF) (R : α → β → γ → δ → ε → ζ → η → Prop) (μ : α → β → γ → δ → ε → ζ → η → Nat) (S : St F w0 m0 n L fs os a w) (x0 : α) (x1 : β) (x2 : γ) (x3 : δ) (x4 : ε) (x5 : ζ) (x6 : η) (hL : Sub L (L' x0 x1 x2 x3 x4 x5 x6)) (ho : os' x0 x1 x2 x3 x4 x5 x6 = os) (h0 : R x0 x1 x2 x3 x4 x5 x6)
    (round : ∀ (x0 : α) (x1 : β) (x2 : γ) (x3 : δ) (x4 : ε) (x5 : ζ) (x6 : η) a w, St F w0 m0 n (L' x0 x1 x2 x3 x4 x5 x6) fs (os' x0 x1 x2 x3 x4 x5 x6) a w → R x0 x1 x2 x3 x4 x5 x6 → c.wp P (Exit.then (fun a' w' => ∃ (y0 : α) (y1 : β) (y2 : γ) (y3 : δ) (y4 : ε) (y5 : ζ) (y6 : η), St F w0 m0 n (L' y0 y1 y2 y3 y4 y5 y6) fs (os' y0 y1 y2 y3 y4 y5 y6) a' w' ∧ R y0 y1 y2 y3 y4 y5 y6 ∧ μ y0 y1 y2 y3 y4 y5 y6 < μ x0 x1 x2 x3 x4 x5 x6) Q) a w) : (Code.loop c).wp P Q a w := by
  refine wp_loop_ghost (fun m a w => ∃ (y0 : α) (y1 : β) (y2 : γ) (y3 : δ) (y4 : ε) (y5 : ζ) (y6 : η), St F w0 m0 n (L' y0 y1 y2 y3 y4 y5 y6) fs (os' y0 y1 y2 y3 y4 y5 y6) a w ∧ R y0 y1 y2 y3 y4 y5 y6 ∧ μ y0 y1 y2 y3 y4 y5 y6 = m) (μ x0 x1 x2 x3 x4 x5 x6) ⟨x0, x1, x2, x3, x4, x5, x6, ⟨S.s.sub hL, by rw [ho]; exact S.m⟩, h0, rfl⟩ fun m a w ⟨y0, y1, y2, y3, y4, y5, y6, S, hR, hm⟩ => ?_
  subst hm
  refine wp_mono (round y0 y1 y2 y3 y4 y5 y6 a w S hR) fun e a' w' hq => ?_
  cases e with
  | normal => obtain ⟨x0, x1, x2, x3, x4, x5, x6, h1, h2, h3⟩ := hq; exact ⟨_, h3, x0, x1, x2, x3, x4, x5, x6, h1, h2, rfl⟩
  | exit id => exact hq
  | goto l => exact hq
  | ret => exact hq
  | panic ch => exact hq
  | outgrown => exact hq
theorem lq7 {α : Type} {β : Type} {γ : Type} {δ : Type} {ε : Type} {ζ : Type} {η : Type} {c : Code} {a : Act} {w : World} (L' : α → β → γ → δ → ε → ζ → η → List (Nat × Value)) (fs' : α → β → γ → δ → ε → ζ → η → List RF) (os' : α → β → γ → δ → ε → ζ → η → List OF) (R : α → β → γ → δ → ε → ζ → η → Prop) (μ : α → β → γ → δ → ε → ζ → η → Nat) (S : St F w0 m0 n L fs os a w) (x0 : α) (x1 : β) (x2 : γ) (x3 : δ) (x4 : ε) (x5 : ζ) (x6 : η) (hL : Sub L (L' x0 x1 x2 x3 x4 x5 x6)) (hf : fs' x0 x1 x2 x3 x4 x5 x6 = fs) (ho : os' x0 x1 x2 x3 x4 x5 x6 = os) (h0 : R x0 x1 x2 x3 x4 x5 x6)
    (round : ∀ (x0 : α) (x1 : β) (x2 : γ) (x3 : δ) (x4 : ε) (x5 : ζ) (x6 : η) a w, St F w0 m0 n (L' x0 x1 x2 x3 x4 x5 x6) (fs' x0 x1 x2 x3 x4 x5 x6) (os' x0 x1 x2 x3 x4 x5 x6) a w → R x0 x1 x2 x3 x4 x5 x6 → c.wp P (Exit.then (fun a' w' => ∃ (y0 : α) (y1 : β) (y2 : γ) (y3 : δ) (y4 : ε) (y5 : ζ) (y6 : η), St F w0 m0 n (L' y0 y1 y2 y3 y4 y5 y6) (fs' y0 y1 y2 y3 y4 y5 y6) (os' y0 y1 y2 y3 y4 y5 y6) a' w' ∧ R y0 y1 y2 y3 y4 y5 y6 ∧ μ y0 y1 y2 y3 y4 y5 y6 < μ x0 x1 x2 x3 x4 x5 x6) Q) a w) : (Code.loop c).wp P Q a w := by
  refine wp_loop_ghost (fun m a w => ∃ (y0 : α) (y1 : β) (y2 : γ) (y3 : δ) (y4 : ε) (y5 : ζ) (y6 : η), St F w0 m0 n (L' y0 y1 y2 y3 y4 y5 y6) (fs' y0 y1 y2 y3 y4 y5 y6) (os' y0 y1 y2 y3 y4 y5 y6) a w ∧ R y0 y1 y2 y3 y4 y5 y6 ∧ μ y0 y1 y2 y3 y4 y5 y6 = m) (μ x0 x1 x2 x3 x4 x5 x6) ⟨x0, x1, x2, x3, x4, x5, x6, ⟨S.s.sub hL, by rw [ho, hf]; exact S.m⟩, h0, rfl⟩ fun m a w ⟨y0, y1, y2, y3, y4, y5, y6, S, hR, hm⟩ => ?_
  subst hm
  refine wp_mono (round y0 y1 y2 y3 y4 y5 y6 a w S hR) fun e a' w' hq => ?_
  cases e with
  | normal => obtain ⟨x0, x1, x2, x3, x4, x5, x6, h1, h2, h3⟩ := hq; exact ⟨_, h3, x0, x1, x2, x3, x4, x5, x6, h1, h2, rfl⟩
  | exit id => exact hq
  | goto l => exact hq
  | ret => exact hq
  | panic ch => exact hq
  | outgrown => exact hq
theorem lp8 {α : Type} {β : Type} {γ : Type} {δ : Type} {ε : Type} {ζ : Type} {η : Type} {θ : Type} {c : Code} {a : Act} {w : World} (L' : α → β → γ → δ → ε → ζ → η → θ → List (Nat × Value)) (os' : α → β → γ → δ → ε → ζ → η → θ → List OF) (R : α → β → γ → δ → ε → ζ → η → θ → Prop) (μ : α → β → γ → δ → ε → ζ → η → θ → Nat) (S : St F w0 m0 n L fs os a w) (x0 : α) (x1 : β) (x2 : γ) (x3 : δ) (x4 : ε) (x5 : ζ) (x6 : η) (x7 : θ) (hL : Sub L (L' x0 x1 x2 x3 x4 x5 x6 x7)) (ho : os' x0 x1 x2 x3 x4 x5 x6 x7 = os) (h0 : R x0 x1 x2 x3 x4 x5 x6 x7)
    (round : ∀ (x0 : α) (x1 : β) (x2 : γ) (x3 : δ) (x4 : ε) (x5 : ζ) (x6 : η) (x7 : θ) a w, St F w0 m0 n (L' x0 x1 x2 x3 x4 x5 x6 x7) fs (os' x0 x1 x2 x3 x4 x5 x6 x7) a w → R x0 x1 x2 x3 x4 x5 x6 x7 → c.wp P (Exit.then (fun a' w' => ∃ (y0 : α) (y1 : β) (y2 : γ) (y3 : δ) (y4 : ε) (y5 : ζ) (y6 : η) (y7 : θ), St F w0 m0 n (L' y0 y1 y2 y3 y4 y5 y6 y7) fs (os' y0 y1 y2 y3 y4 y5 y6 y7) a' w' ∧ R y0 y1 y2 y3 y4 y5 y6 y7 ∧ μ y0 y1 y2 y3 y4 y5 y6 y7 < μ x0 x1 x2 x3 x4 x5 x6 x7) Q) a w) : (Code.loop c).wp P Q a w := by
  refine wp_loop_ghost (fun m a w => ∃ (y0 : α) (y1 : β) (y2 : γ) (y3 : δ) (y4 : ε) (y5 : ζ) (y6 : η) (y7 : θ), St F w0 m0 n (L' y0 y1 y2 y3 y4 y5 y6 y7) fs (os' y0 y1 y2 y3 y4 y5 y6 y7) a w ∧ R y0 y1 y2 y3 y4 y5 y6 y7 ∧ μ y0 y1 y2 y3 y4 y5 y6 y7 = m) (μ x0 x1 x2 x3 x4 x5 x6 x7) ⟨x0, x1, x2, x3, x4, x5, x6, x7, ⟨S.s.sub hL, by rw [ho]; exact S.m⟩, h0, rfl⟩ fun m a w ⟨y0, y1, y2, y3, y4, y5, y6, y7, S, hR, hm⟩ => ?_
  subst hm
  refine wp_mono (round y0 y1 y2 y3 y4 y5 y6 y7 a w S hR) fun e a' w' hq => ?_
  cases e with
  | normal => obtain ⟨x0, x1, x2, x3, x4, x5, x6, x7, h1, h2, h3⟩ := hq; exact ⟨_, h3, x0, x1, x2, x3, x4, x5, x6, x7, h1, h2, rfl⟩
  | exit id => exact hq
  | goto l => exact hq
  | ret => exact hq
  | panic ch => exact hq
  | outgrown => exact hq
theorem lq8 {α : Type} {β : Type} {γ : Type} {δ : Type} {ε : Type} {ζ : Type} {η : Type} {θ : Type} {c : Code} {a : Act} {w : World} (L' : α → β → γ → δ → ε → ζ → η → θ → List (Nat × Value)) (fs' : α → β → γ → δ → ε → ζ → η → θ → List RF) (os' : α → β → γ → δ → ε → ζ → η → θ → List OF) (R : α → β → γ → δ → ε → ζ → η → θ → Prop) (μ : α → β → γ → δ → ε → ζ → η → θ → Nat) (S : St F w0 m0 n L fs os a w) (x0 : α) (x1 : β) (x2 : γ) (x3 : δ) (x4 : ε) (x5 : ζ) (x6 : η) (x7 : θ) (hL : Sub L (L' x0 x1 x2 x3 x4 x5 x6 x7)) (hf : fs' x0 x1 x2 x3 x4 x5 x6 x7 = fs) (ho : os' x0 x1 x2 x3 x4 x5 x6 x7 = os) (h0 : R x0 x1 x2 x3 x4 x5 x6 x7)
    (round : ∀ (x0 : α) (x1 : β) (x2 : γ) (x3 : δ) (x4 : ε) (x5 : ζ) (x6 : η) (x7 : θ) a w, St F w0 m0 n (L' x0 x1 x2 x3 x4 x5 x6 x7) (fs' x0 x1 x2 x3 x4 x5 x6 x7) (os' x0 x1 x2 x3 x4 x5 x6 x7) a w → R x0 x1 x2 x3 x4 x5 x6 x7 → c.wp P (Exit.then (fun a' w' => ∃ (y0 : α) (y1 : β) (y2 : γ) (y3 : δ) (y4 : ε) (y5 : ζ) (y6 : η) (y7 : θ), St F w0 m0 n (L' y0 y1 y2 y3 y4 y5 y6 y7) (fs' y0 y1 y2 y3 y4 y5 y6 y7) (os' y0 y1 y2 y3 y4 y5 y6 y7) a' w' ∧ R y0 y1 y2 y3 y4 y5 y6 y7 ∧ μ y0 y1 y2 y3 y4 y5 y6 y7 < μ x0 x1 x2 x3 x4 x5 x6 x7) Q) a w) : (Code.loop c).wp P Q a w := by
  refine wp_loop_ghost (fun m a w => ∃ (y0 : α) (y1 : β) (y2 : γ) (y3 : δ) (y4 : ε) (y5 : ζ) (y6 : η) (y7 : θ), St F w0 m0 n (L' y0 y1 y2 y3 y4 y5 y6 y7) (fs' y0 y1 y2 y3 y4 y5 y6 y7) (os' y0 y1 y2 y3 y4 y5 y6 y7) a w ∧ R y0 y1 y2 y3 y4 y5 y6 y7 ∧ μ y0 y1 y2 y3 y4 y5 y6 y7 = m) (μ x0 x1 x2 x3 x4 x5 x6 x7) ⟨x0, x1, x2, x3, x4, x5, x6, x7, ⟨S.s.sub hL, by rw [ho, hf]; exact S.m⟩, h0, rfl⟩ fun m a w ⟨y0, y1, y2, y3, y4, y5, y6, y7, S, hR, hm⟩ => ?_
  subst hm
  refine wp_mono (round y0 y1 y2 y3 y4 y5 y6 y7 a w S hR) fun e a' w' hq => ?_
  cases e with
  | normal => obtain ⟨x0, x1, x2, x3, x4, x5, x6, x7, h1, h2, h3⟩ := hq; exact ⟨_, h3, x0, x1, x2, x3, x4, x5, x6, x7, h1, h2, rfl⟩
  | exit id => exact hq
  | goto l => exact hq
  | ret => exact hq
  | panic ch => exact hq
  | outgrown => exact hq
theorem lp9 {α : Type} {β : Type} {γ : Type} {δ : Type} {ε : Type} {ζ : Type} {η : Type} {θ : Type} {ι : Type} {c : Code} {a : Act} {w : World} (L' : α → β → γ → δ → ε → ζ → η → θ → ι → List (Nat × Value)) (os' : α → β → γ → δ → ε → ζ → η → θ → ι → List OF) (R : α → β → γ → δ → ε → ζ → η → θ → ι → Prop) (μ : α → β → γ → δ → ε → ζ → η → θ → ι → Nat) (S : St F w0 m0 n L fs os a w) (x0 : α) (x1 : β) (x2 : γ) (x3 : δ) (x4 : ε) (x5 : ζ) (x6 : η) (x7 : θ) (x8 : ι) (hL : Sub L (L' x0 x1 x2 x3 x4 x5 x6 x7 x8)) (ho : os' x0 x1 x2 x3 x4 x5 x6 x7 x8 = os) (h0 : R x0 x1 x2 x3 x4 x5 x6 x7 x8)
    (round : ∀ (x0 : α) (x1 : β) (x2 : γ) (x3 : δ) (x4 : ε) (x5 : ζ) (x6 : η) (x7 : θ) (x8 : ι) a w, St F w0 m0 n (L' x0 x1 x2 x3 x4 x5 x6 x7 x8) fs (os' x0 x1 x2 x3 x4 x5 x6 x7 x8) a w → R x0 x1 x2 x3 x4 x5 x6 x7 x8 → c.wp P (Exit.then (fun a' w' => ∃ (y0 : α) (y1 : β) (y2 : γ) (y3 : δ) (y4 : ε) (y5 : ζ) (y6 : η) (y7 : θ) (y8 : ι), St F w0 m0 n (L' y0 y1 y2 y3 y4 y5 y6 y7 y8) fs (os' y0 y1 y2 y3 y4 y5 y6 y7 y8) a' w' ∧ R y0 y1 y2 y3 y4 y5 y6 y7 y8 ∧ μ y0 y1 y2 y3 y4 y5 y6 y7 y8 < μ x0 x1 x2 x3 x4 x5 x6 x7 x8) Q) a w) : (Code.loop c).wp P Q a w := by
  refine wp_loop_ghost (fun m a w => ∃ (y0 : α) (y1 : β) (y2 : γ) (y3 : δ) (y4 : ε) (y5 : ζ) (y6 : η) (y7 : θ) (y8 : ι), St F w0 m0 n (L' y0 y1 y2 y3 y4 y5 y6 y7 y8) fs (os' y0 y1 y2 y3 y4 y5 y6 y7 y8) a w ∧ R y0 y1 y2 y3 y4 y5 y6 y7 y8 ∧ μ y0 y1 y2 y3 y4 y5 y6 y7 y8 = m) (μ x0 x1 x2 x3 x4 x5 x6 x7 x8) ⟨x0, x1, x2, x3, x4, x5, x6, x7, x8, ⟨S.s.sub hL, by rw [ho]; exact S.m⟩, h0, rfl⟩ fun m a w ⟨y0, y1, y2, y3, y4, y5, y6, y7, y8, S, hR, hm⟩ => ?_
  subst hm
  refine wp_mono (round y0 y1 y2 y3 y4 y5 y6 y7 y8 a w S hR) fun e a' w' hq => ?_
  cases e with
  | normal => obtain ⟨x0, x1, x2, x3, x4, x5, x6, x7, x8, h1, h2, h3⟩ := hq; exact ⟨_, h3, x0, x1, x2, x3, x4, x5, x6, x7, x8, h1, h2, rfl⟩
  | exit id => exact hq
  | goto l => exact hq
  | ret => exact hq
  | panic ch => exact hq
  | outgrown => exact hq
theorem lq9 {α : Type} {β : Type} {γ : Type} {δ : Type} {ε : Type} {ζ : Type} {η : Type} {θ : Type} {ι : Type} {c : Code} {a : Act} {w : World} (L' : α → β → γ → δ → ε → ζ → η → θ → ι → List (Nat × Value)) (fs' : α → β → γ → δ → ε → ζ → η → θ → ι → List RF) (os' : α → β → γ → δ → ε → ζ → η → θ → ι → List OF) (R : α → β → γ → δ → ε → ζ → η → θ → ι → Prop) (μ : α → β → γ → δ → ε → ζ → η → θ → ι → Nat) (S : St F w0 m0 n L fs os a w) (x0 : α) (x1 : β) (x2 : γ) (x3 : δ) (x4 : ε) (x5 : ζ) (x6 : η) (x7 : θ) (x8 : ι) (hL : Sub L (L' x0 x1 x2 x3 x4 x5 x6 x7 x8)) (hf : fs' x0 x1 x2 x3 x4 x5 x6 x7 x8 = fs) (ho : os' x0 x1 x2 x3 x4 x5 x6 x7 x8 = os) (h0 : R x0 x1 x2 x3 x4 x5 x6 x7 x8)
    (round : ∀ (x0 : α) (x1 : β) (x2 : γ) (x3 : δ) (x4 : ε) (x5 : ζ) (x6 : η) (x7 : θ) (x8 : ι) a w, St F w0 m0 n (L' x0 x1 x2 x3 x4 x5 x6 x7 x8) (fs' x0 x1 x2 x3 x4 x5 x6 x7 x8) (os' x0 x1 x2 x3 x4 x5 x6 x7 x8) a w → R x0 x1 x2 x3 x4 x5 x6 x7 x8 → c.wp P (Exit.then (fun a' w' => ∃ (y0 : α) (y1 : β) (y2 : γ) (y3 : δ) (y4 : ε) (y5 : ζ) (y6 : η) (y7 : θ) (y8 : ι), St F w0 m0 n (L' y0 y1 y2 y3 y4 y5 y6 y7 y8) (fs' y0 y1 y2 y3 y4 y5 y6 y7 y8) (os' y0 y1 y2 y3 y4 y5 y6 y7 y8) a' w' ∧ R y0 y1 y2 y3 y4 y5 y6 y7 y8 ∧ μ y0 y1 y2 y3 y4 y5 y6 y7 y8 < μ x0 x1 x2 x3 x4 x5 x6 x7 x8) Q) a w) : (Code.loop c).wp P Q a w := by
  refine wp_loop_ghost (fun m a w => ∃ (y0 : α) (y1 : β) (y2 : γ) (y3 : δ) (y4 : ε) (y5 : ζ) (y6 : η) (y7 : θ) (y8 : ι), St F w0 m0 n (L' y0 y1 y2 y3 y4 y5 y6 y7 y8) (fs' y0 y1 y2 y3 y4 y5 y6 y7 y8) (os' y0 y1 y2 y3 y4 y5 y6 y7 y8) a w ∧ R y0 y1 y2 y3 y4 y5 y6 y7 y8 ∧ μ y0 y1 y2 y3 y4 y5 y6 y7 y8 = m) (μ x0 x1 x2 x3 x4 x5 x6 x7 x8) ⟨x0, x1, x2, x3, x4, x5, x6, x7, x8, ⟨S.s.sub hL, by rw [ho, hf]; exact S.m⟩, h0, rfl⟩ fun m a w ⟨y0, y1, y2, y3, y4, y5, y6, y7, y8, S, hR, hm⟩ => ?_
  subst hm
  refine wp_mono (round y0 y1 y2 y3 y4 y5 y6 y7 y8 a w S hR) fun e a' w' hq => ?_
  cases e with
  | normal => obtain ⟨x0, x1, x2, x3, x4, x5, x6, x7, x8, h1, h2, h3⟩ := hq; exact ⟨_, h3, x0, x1, x2, x3, x4, x5, x6, x7, x8, h1, h2, rfl⟩
  | exit id => exact hq
  | goto l => exact hq
  | ret => exact hq
  | panic ch => exact hq
  | outgrown => exact hq
theorem lp10 {α : Type} {β : Type} {γ : Type} {δ : Type} {ε : Type} {ζ : Type} {η : Type} {θ : Type} {ι : Type} {κ : Type} {c : Code} {a : Act} {w : World} (L' : α → β → γ → δ → ε → ζ → η → θ → ι → κ → List (Nat × Value)) (os' : α → β → γ → δ → ε → ζ → η → θ → ι → κ → List OF) (R : α → β → γ → δ → ε → ζ → η → θ → ι → κ → Prop) (μ : α → β → γ → δ → ε → ζ → η → θ → ι → κ → Nat) (S : St F w0 m0 n L fs os a w) (x0 : α) (x1 : β) (x2 : γ) (x3 : δ) (x4 : ε) (x5 : ζ) (x6 : η) (x7 : θ) (x8 : ι) (x9 : κ) (hL : Sub L (L' x0 x1 x2 x3 x4 x5 x6 x7 x8 x9)) (ho : os' x0 x1 x2 x3 x4 x5 x6 x7 x8 x9 = os) (h0 : R x0 x1 x2 x3 x4 x5 x6 x7 x8 x9)
    (round : ∀ (x0 : α) (x1 : β) (x2 : γ) (x3 : δ) (x4 : ε) (x5 : ζ) (x6 : η) (x7 : θ) (x8 : ι) (x9 : κ) a w, St F w0 m0 n (L' x0 x1 x2 x3 x4 x5 x6 x7 x8 x9) fs (os' x0 x1 x2 x3 x4 x5 x6 x7 x8 x9) a w → R x0 x1 x2 x3 x4 x5 x6 x7 x8 x9 → c.wp P (Exit.then (fun a' w' => ∃ (y0 : α) (y1 : β) (y2 : γ) (y3 : δ) (y4 : ε) (y5 : ζ) (y6 : η) (y7 : θ) (y8 : ι) (y9 : κ), St F w0 m0 n (L' y0 y1 y2 y3 y4 y5 y6 y7 y8 y9) fs (os' y0 y1 y2 y3 y4 y5 y6 y7 y8 y9) a' w' ∧ R y0 y1 y2 y3 y4 y5 y6 y7 y8 y9 ∧ μ y0 y1 y2 y3 y4 y5 y6 y7 y8 y9 < μ x0 x1 x2 x3 x4 x5 x6 x7 x8 x9) Q) a w) : (Code.loop c).wp P Q a w := by
  refine wp_loop_ghost (fun m a w => ∃ (y0 : α) (y1 : β) (y2 : γ) (y3 : δ) (y4 : ε) (y5 : ζ) (y6 : η) (y7 : θ) (y8 : ι) (y9 : κ), St F w0 m0 n (L' y0 y1 y2 y3 y4 y5 y6 y7 y8 y9) fs (os' y0 y1 y2 y3 y4 y5 y6 y7 y8 y9) a w ∧ R y0 y1 y2 y3 y4 y5 y6 y7 y8 y9 ∧ μ y0 y1 y2 y3 y4 y5 y6 y7 y8 y9 = m) (μ x0 x1 x2 x3 x4 x5 x6 x7 x8 x9) ⟨x0, x1, x2, x3, x4, x5, x6, x7, x8, x9, ⟨S.s.sub hL, by rw [ho]; exact S.m⟩, h0, rfl⟩ fun m a w ⟨y0, y1, y2, y3, y4, y5, y6, y7, y8, y9, S, hR, hm⟩ => ?_
  subst hm
  refine wp_mono (round y0 y1 y2 y3 y4 y5 y6 y7 y8 y9 a w S hR) fun e a' w' hq => ?_
  cases e with
  | normal => obtain ⟨x0, x1, x2, x3, x4, x5, x6, x7, x8, x9, h1, h2, h3⟩ := hq; exact ⟨_, h3, x0, x1, x2, x3, x4, x5, x6, x7, x8, x9, h1, h2, rfl⟩
  | exit id => exact hq
  | goto l => exact hq
  | ret => exact hq
  | panic ch => exact hq
  | outgrown => exact hq
theorem lq10 {α : Type} {β : Type} {γ : Type} {δ : Type} {ε : Type} {ζ : Type} {η : Type} {θ : Type} {ι : Type} {κ : Type} {c : Code} {a : Act} {w : World} (L' : α → β → γ → δ → ε → ζ → η → θ → ι → κ → List (Nat × Value)) (fs' : α → β → γ → δ → ε → ζ → η → θ → ι → κ → List RF) (os' : α → β → γ → δ → ε → ζ → η → θ → ι → κ → List OF) (R : α → β → γ → δ → ε → ζ → η → θ → ι → κ → Prop) (μ : α → β → γ → δ → ε → ζ → η → θ → ι → κ → Nat) (S : St F w0 m0 n L fs os a w) (x0 : α) (x1 : β) (x2 : γ) (x3 : δ) (x4 : ε) (x5 : ζ) (x6 : η) (x7 : θ) (x8 : ι) (x9 : κ) (hL : Sub L (L' x0 x1 x2 x3 x4 x5 x6 x7 x8 x9)) (hf : fs' x0 x1 x2 x3 x4 x5 x6 x7 x8 x9 = fs) (ho : os' x0 x1 x2 x3 x4 x5 x6 x7 x8 x9 = os) (h0 : R x0 x1 x2 x3 x4 x5 x6 x7 x8 x9)
    (round : ∀ (x0 : α) (x1 : β) (x2 : γ) (x3 : δ) (x4 : ε) (x5 : ζ) (x6 : η) (x7 : θ) (x8 : ι) (x9 : κ) a w, St F w0 m0 n (L' x0 x1 x2 x3 x4 x5 x6 x7 x8 x9) (fs' x0 x1 x2 x3 x4 x5 x6 x7 x8 x9) (os' x0 x1 x2 x3 x4 x5 x6 x7 x8 x9) a w → R x0 x1 x2 x3 x4 x5 x6 x7 x8 x9 → c.wp P (Exit.then (fun a' w' => ∃ (y0 : α) (y1 : β) (y2 : γ) (y3 : δ) (y4 : ε) (y5 : ζ) (y6 : η) (y7 : θ) (y8 : ι) (y9 : κ), St F w0 m0 n (L' y0 y1 y2 y3 y4 y5 y6 y7 y8 y9) (fs' y0 y1 y2 y3 y4 y5 y6 y7 y8 y9) (os' y0 y1 y2 y3 y4 y5 y6 y7 y8 y9) a' w' ∧ R y0 y1 y2 y3 y4 y5 y6 y7 y8 y9 ∧ μ y0 y1 y2 y3 y4 y5 y6 y7 y8 y9 < μ x0 x1 x2 x3 x4 x5 x6 x7 x8 x9) Q) a w) : (Code.loop c).wp P Q a w := by
  refine wp_loop_ghost (fun m a w => ∃ (y0 : α) (y1 : β) (y2 : γ) (y3 : δ) (y4 : ε) (y5 : ζ) (y6 : η) (y7 : θ) (y8 : ι) (y9 : κ), St F w0 m0 n (L' y0 y1 y2 y3 y4 y5 y6 y7 y8 y9) (fs' y0 y1 y2 y3 y4 y5 y6 y7 y8 y9) (os' y0 y1 y2 y3 y4 y5 y6 y7 y8 y9) a w ∧ R y0 y1 y2 y3 y4 y5 y6 y7 y8 y9 ∧ μ y0 y1 y2 y3 y4 y5 y6 y7 y8 y9 = m) (μ x0 x1 x2 x3 x4 x5 x6 x7 x8 x9) ⟨x0, x1, x2, x3, x4, x5, x6, x7, x8, x9, ⟨S.s.sub hL, by rw [ho, hf]; exact S.m⟩, h0, rfl⟩ fun m a w ⟨y0, y1, y2, y3, y4, y5, y6, y7, y8, y9, S, hR, hm⟩ => ?_
  subst hm
  refine wp_mono (round y0 y1 y2 y3 y4 y5 y6 y7 y8 y9 a w S hR) fun e a' w' hq => ?_
  cases e with
  | normal => obtain ⟨x0, x1, x2, x3, x4, x5, x6, x7, x8, x9, h1, h2, h3⟩ := hq; exact ⟨_, h3, x0, x1, x2, x3, x4, x5, x6, x7, x8, x9, h1, h2, rfl⟩
  | exit id => exact hq
  | goto l => exact hq
  | ret => exact hq
  | panic ch => exact hq
  | outgrown => exact hq
end
end Go.Proofs.Ytobggnpnochnnaa.V
/- Regions that draw their order, over the bundle. -/
namespace Go.Proofs.Ytobggnpnochnnaa.V
open Go.RowKit
/-- what is told of a head's slot: its value, or a property that stays true -/
inductive Td (M : Nat → Prop)
  | is (x : Value)
  | of (q : Value → World → Prop) (st : ∀ v w w', Ch M w w' → q v w → q v w')
def Td.q {M : Nat → Prop} : Td M → StP M
  | .is x => isV M x
  | .of q st => ⟨q, st⟩
def tq {M : Nat → Prop} : List (Nat × Td M) → List (Nat × StP M)
  | [] => []
  | (i, t) :: r => (i, t.q) :: tq r
def lookT {M : Nat → Prop} (t : Nat) : List (Nat × Td M) → Option (Td M)
  | [] => none
  | (i, v) :: r => bif Nat.beq i t then some v else lookT t r
theorem look_tq {M : Nat → Prop} {t : Nat} {q : Td M} {v : Value} {w : World} : ∀ {E : List (Nat × Td M)}, lookT t E = some q → (lookE (tq E) t v w ↔ q.q.p v w)
  | [], h => by cases h
  | (i, u) :: r, h => by
    unfold tq lookE
    unfold lookT at h
    cases hb : Nat.beq i t
    · rw [hb] at h; exact look_tq (E := r) h
    · rw [hb] at h; cases h; exact Iff.rfl
theorem look_tqn {M : Nat → Prop} {t : Nat} {v : Value} {w : World} : ∀ {E : List (Nat × Td M)}, lookT t E = none → lookE (tq E) t v w
  | [], _ => trivial
  | (i, u) :: r, h => by
    unfold tq lookE
    unfold lookT at h
    cases hb : Nat.beq i t
    · rw [hb] at h; exact look_tqn (E := r) h
    · rw [hb] at h; cases h
def vals {M : Nat → Prop} (E : List (Nat × Td M)) : List Nat → List (Nat × Value)
  | [] => []
  | d :: r => match lookT d E with
    | some (.is x) => (d, x) :: vals E r
    | _ => vals E r
def pdeps {M : Nat → Prop} (E : List (Nat × Td M)) (a : Act) (w : World) : List Nat → Prop
  | [] => True
  | d :: r => match lookT d E with
    | some (.of p _) => p (a.tmps.getD d undef) w ∧ pdeps E a w r
    | _ => pdeps E a w r
def cat (x y : List (Nat × Value)) : List (Nat × Value) := match x with
  | [] => y
  | p :: r => p :: cat r y
theorem deps_open {M : Nat → Prop} {E : List (Nat × Td M)} {a : Act} {w : World} {n : Nat} {L : List (Nat × Value)} (s : Slots n L a) : ∀ (D : List Nat), deps (tq E) a w D → Slots n (cat (vals E D) L) a ∧ pdeps E a w D
  | [], _ => ⟨s, trivial⟩
  | d :: r, h => by
    obtain ⟨h1, h2⟩ := deps_open s r h.2
    unfold vals pdeps
    cases hl : lookT d E with
    | none => exact ⟨h1, h2⟩
    | some q =>
      cases q with
      | is x => exact ⟨h1.ext ((look_tq hl).1 h.1), h2⟩
      | of p st => exact ⟨h1, (look_tq hl).1 h.1, h2⟩
theorem Core.put {P : Program} {ops : Array Oper} {o : Oper} {a : Act} {w : World} {K : Act → World → Prop} {Q : Exit → Act → World → Prop} (h : Core P ops o a w K Q) : Core P ops o a w (fun a' w' => K a' w' ∧ ∃ v, a'.tmps = (a.put o.dst v).tmps) Q := by
  unfold Core at *
  by_cases hw : Region.wanted o (yielded ops a.tmps) = true
  · rw [if_pos hw] at h ⊢; exact h.imp Oper.wp_put id
  · rw [if_neg hw] at h ⊢; exact ⟨h, undef, rfl⟩
theorem Core.mono {P : Program} {ops : Array Oper} {o : Oper} {a : Act} {w : World} {K K' : Act → World → Prop} {Q : Exit → Act → World → Prop} (h : Core P ops o a w K Q) (hk : ∀ a w, K a w → K' a w) : Core P ops o a w K' Q := by
  unfold Core at *
  by_cases hw : Region.wanted o (yielded ops a.tmps) = true
  · rw [if_pos hw] at h ⊢; exact h.imp (Oper.wp_mono hk) id
  · rw [if_neg hw] at h ⊢; exact hk _ _ h
theorem core_op {P : Program} {ops : Array Oper} {i : Nat} {o : Oper} {a : Act} {w : World} {K : Act → World → Prop} {Q : Exit → Act → World → Prop} (ho : ops[i]? = some o) (h : Core P ops o a w K Q) : wpOp P ops Q i K a w := by
  unfold wpOp
  rw [ho]
  exact h
section
variable {P : Program} {ops : Array Oper} {F : Nat → Prop} {w0 W : World} {m0 chg : List BS} {n i : Nat} {L : List (Nat × Value)} {fs : List RF} {os : List OF} {o : Oper} {ty : TypeId} {pos : String} {af : Array Edge} {Q : Exit → Act → World → Prop} {E : List (Nat × Td (In chg))} {D : List Nat}
/-- what one head owes -/
def HD (P : Program) (ops : Array Oper) (Q : Exit → Act → World → Prop) (F : Nat → Prop) (w0 W : World) (m0 : List BS) (n : Nat) (L : List (Nat × Value)) (fs : List RF) (os : List OF) {chg : List BS} (E : List (Nat × Td (In chg))) (i : Nat) (o : Oper) (D : List Nat) : Prop :=
  ∀ a w, St F w0 m0 n (cat (vals E D) L) fs os a w → Ch (In chg) W w → pdeps E a w D → wpOp P ops Q i (Done o (tq E) (Mm F w0 m0 fs os) n a w) a w
def HS (P : Program) (ops : Array Oper) (Q : Exit → Act → World → Prop) (F : Nat → Prop) (w0 W : World) (m0 : List BS) (n : Nat) (L : List (Nat × Value)) (fs : List RF) (os : List OF) {chg : List BS} (E : List (Nat × Td (In chg))) : Nat → List Oper → List (List Nat) → Prop
  | i, o :: r, D :: Ds => HD P ops Q F w0 W m0 n L fs os E i o D ∧ HS P ops Q F w0 W m0 n L fs os E (i + 1) r Ds
  | _, _, _ => True
theorem HS.steps : ∀ (l : List Oper) (Ds : List (List Nat)) (i : Nat), HS P ops Q F w0 W m0 n L fs os E i l Ds → steps P ops Q n L W (tq E) (Mm F w0 m0 fs os) i l Ds
  | [], _, _, _ => by cases ‹List (List Nat)› <;> trivial
  | _ :: _, [], _, _ => trivial
  | o :: r, D :: Ds, i, h => ⟨fun a w hc hm s hd => by
      obtain ⟨h1, h2⟩ := deps_open s D hd
      exact h.1 a w ⟨h1, hm⟩ hc h2, HS.steps r Ds (i + 1) h.2⟩
theorem Mm.drew {w : World} (M : Mm F w0 m0 fs os w) : Mm F w0 m0 fs os { w with drawn := w.drawn + 1 } := M.k0 (Ch.refl w).drew
theorem dr {id : Nat} {a : Act} {w : World} {l : List Oper} (S : St F w0 m0 n L fs os a w) (N : Nat) (chg : List BS) (E : List (Nat × Td (In chg))) (Ds : List (List Nat)) (outs : List Nat) (tail : List Oper) (step : HS P l.toArray Q F w0 w m0 n L fs os E 0 (l.take N) Ds)
    (fin : ∀ a w', St F w0 m0 n (cat (vals E outs) L) fs os a w' → Ch (In chg) w w' → pdeps E a w' outs → wpList P l.toArray Q tail a w')
    (htl : tail = l.drop N := by rfl) (hm : P.follows .mixedOrders = true := by exact mixed) (hok : (headOk l.toArray N && depsOk l.toArray N 0 Ds && keysOk l.toArray N L && outsOk l.toArray N outs && tailOk l.toArray N) = true := by kernel_rfl) (hlen : Ds.length = N := by rfl) : (Code.region id l.toArray true).wp P Q a w :=
  wp_heads S.s N (tq E) (Mm F w0 m0 fs os) Ds outs tail htl hm hok hlen S.m.drew (HS.steps _ _ _ step) fun a w' hc hm s hd => by
    obtain ⟨h1, h2⟩ := deps_open s outs hd
    exact fin a w' ⟨h1, hm⟩ hc h2
theorem one_done {c : List BS} {d : Nat} {v : Value} {L' : List (Nat × Value)} {a : Act} {w : World} (S : St F w0 m0 n L' fs os a w) (h : One P ops (St F w0 m0 n L' fs os) c o (St F w0 m0 n ((d, v) :: L') fs os)) (hd : o.dst = some d) (hn : d < n) (he : lookE (tq E) d v w ∧ (∀ w', lookE (tq E) d v w → lookE (tq E) d v w')) (hc : ∀ k, In c k → In chg k) : Core P ops o a w (Done o (tq E) (Mm F w0 m0 fs os) n a w) Q := by
  refine Core.mono (Core.put (h _ Q a w S fun a' w' Y g => (⟨Y, g⟩ : St F w0 m0 n ((d, v) :: L') fs os a' w' ∧ Ch (In c) w w'))) ?_
  rintro a' w' ⟨⟨Y, g⟩, u, hu⟩
  have h1 : a'.tmps.getD d undef = v := Y.s.get d v (by rw [look_cons, if_pos rfl])
  have h2 : (a.put o.dst u).tmps.getD d undef = u := by rw [hd, getD_put a d d u (by rw [S.s.size]; exact hn), if_pos rfl]
  rw [hu, h2] at h1
  subst h1
  have h3 : a' = a.put o.dst u := by
    have e1 := Y.s.defers
    have e2 : (a.put o.dst u).defers = [] := by rw [← S.s.defers]; cases o.dst <;> rfl
    cases a'
    cases hp : a.put o.dst u
    rw [hp] at hu e2
    simp_all
  exact ⟨⟨u, h3, fun e he' => by rw [hd] at he'; cases he'; exact ⟨hn, he.2 w' he.1⟩⟩, g.mono hc, Y.m⟩
/-- a head that only computes -/
theorem qd {c : List BS} {d : Nat} {v : Value} (h : One P ops (St F w0 m0 n (cat (vals E D) L) fs os) c o (St F w0 m0 n ((d, v) :: cat (vals E D) L) fs os)) (hk : ops[i]? = some o ∧ o.dst = some d ∧ d < n := by exact ⟨rfl, rfl, by decide⟩) (he : lookT d E = some (.is v) := by rfl) (hc : ∀ k, In c k → In chg k := by intro k h; first | exact h.elim | exact h) : HD P ops Q F w0 W m0 n L fs os E i o D :=
  fun a w S _ _ => core_op hk.1 (one_done S h hk.2.1 hk.2.2 ⟨(look_tq he).2 rfl, fun w' _ => (look_tq he).2 rfl⟩ hc)
theorem qd0 (h : One P ops (St F w0 m0 n (cat (vals E D) L) fs os) [] o (St F w0 m0 n (cat (vals E D) L) fs os)) (hk : ops[i]? = some o ∧ o.dst = none := by exact ⟨rfl, rfl⟩) : HD P ops Q F w0 W m0 n L fs os E i o D := fun a w S _ _ => by
  refine core_op hk.1 (Core.mono (Core.put (h _ Q a w S fun a' w' Y g => (⟨Y, g⟩ : St F w0 m0 n (cat (vals E D) L) fs os a' w' ∧ Ch (In []) w w'))) ?_)
  rintro a' w' ⟨⟨Y, g⟩, u, hu⟩
  rw [hk.2] at hu
  have h3 : a' = a.put o.dst u := by
    rw [hk.2]
    have e1 := Y.s.defers
    have e2 := S.s.defers
    cases a'; cases a; simp_all [Act.put]
  exact ⟨⟨u, h3, fun e he' => by rw [hk.2] at he'; cases he'⟩, g.mono fun k h => h.elim, Y.m⟩
section
variable {a : Act} {w : World} {L' : List (Nat × Value)} {rs' : List RF}
/-- a head whose value is told by a property -/
theorem hvl (d : Nat) {v : Value} (S : St F w0 m0 n L' rs' os a w) (M : Mm F w0 m0 fs os w) (h : (execOp a.eval o).run P w = .ok (.value v) w) (ht : lookE (tq E) d v w) (hk : ops[i]? = some o ∧ o.guard = none ∧ o.dst = some d ∧ d < n := by exact ⟨rfl, rfl, rfl, by decide⟩) : wpOp P ops Q i (Done o (tq E) (Mm F w0 m0 fs os) n a w) a w :=
  head_op hk.1 hk.2.1 (op_val h (Done.same hk.2.2.1 hk.2.2.2 ht M))
theorem hng (d : Nat) (gd : Nat) {b : Bool} {gv : Value} (S : St F w0 m0 n L' rs' os a w) (M : Mm F w0 m0 fs os w) (hv : look gd L' = some gv) (hw : ¬ gv = .bool b) (ht : lookE (tq E) d undef w)
    (hk : ∃ j p, ops[i]? = some o ∧ o.guard = some (j, b) ∧ ops[j]? = some p ∧ p.dst = some gd ∧ gd < n ∧ o.dst = some d ∧ d < n := by exact ⟨_, _, rfl, rfl, rfl, rfl, by decide, rfl, by decide⟩) : wpOp P ops Q i (Done o (tq E) (Mm F w0 m0 fs os) n a w) a w := by
  obtain ⟨j, p, h1, h2, h3, h4, h5, h6, h7⟩ := hk
  exact head_no h1 h2 h3 h4 (by rw [S.s.size]; exact h5) (S.s.get gd _ hv) hw (Done.same h6 h7 ht M)
theorem hvg (d : Nat) {v : Value} (gd : Nat) {b : Bool} {gv : Value} (S : St F w0 m0 n L' rs' os a w) (M : Mm F w0 m0 fs os w) (hv : look gd L' = some gv) (hw : gv = .bool b) (h : (execOp a.eval o).run P w = .ok (.value v) w) (ht : lookE (tq E) d v w)
    (hk : ∃ j p, ops[i]? = some o ∧ o.guard = some (j, b) ∧ ops[j]? = some p ∧ p.dst = some gd ∧ gd < n ∧ o.dst = some d ∧ d < n := by exact ⟨_, _, rfl, rfl, rfl, rfl, by decide, rfl, by decide⟩) : wpOp P ops Q i (Done o (tq E) (Mm F w0 m0 fs os) n a w) a w := by
  obtain ⟨j, p, h1, h2, h3, h4, h5, h6, h7⟩ := hk
  exact head_yes h1 h2 h3 h4 (by rw [S.s.size]; exact h5) (S.s.get gd _ hv) hw (op_val h (Done.same h6 h7 ht M))
theorem hcl {d : Nat} {f : FuncId} {args : Array Operand} {ats : Array TypeId} {vs : Array Value} {R : Ending → World → Prop} (S : St F w0 m0 n L' rs' os a w) (hc : Calls P f vs w R) (hf : Callable P f)
    (hR : ∀ e w', R e w' → ∃ v, e = .returned v ∧ lookE (tq E) d v w' ∧ Ch (In chg) w w' ∧ Mm F w0 m0 fs os w') (hv : args.toList.map (evS L') = vs.toList.map some := by rfl) (hk : ops[i]? = some ⟨some d, .call ⟨.value (.func f), args, ats⟩, ty, pos, af, none⟩ ∧ d < n := by exact ⟨rfl, by decide⟩) :
    wpOp P ops Q i (Done ⟨some d, .call ⟨.value (.func f), args, ats⟩, ty, pos, af, none⟩ (tq E) (Mm F w0 m0 fs os) n a w) a w :=
  head_op hk.1 rfl (op_call (args_eval S.s hv) hf hc fun e w' he => let ⟨v, h1, h2, h3, h4⟩ := hR e w' he; ⟨v, h1, Done.mk' rfl hk.2 h2 h3 h4⟩)
theorem hcg {d : Nat} (gd : Nat) {j : Nat} {b : Bool} {gv : Value} {f : FuncId} {args : Array Operand} {ats : Array TypeId} {vs : Array Value} {R : Ending → World → Prop} (S : St F w0 m0 n L' rs' os a w) (hgv : look gd L' = some gv) (hw : gv = .bool b) (hc : Calls P f vs w R) (hf : Callable P f) (hv0 : GA True a args.toList vs.toList)
    (hR : ∀ e w', R e w' → ∃ v, e = .returned v ∧ lookE (tq E) d v w' ∧ Ch (In chg) w w' ∧ Mm F w0 m0 fs os w') (hk : ∃ p, ops[i]? = some ⟨some d, .call ⟨.value (.func f), args, ats⟩, ty, pos, af, some (j, b)⟩ ∧ ops[j]? = some p ∧ p.dst = some gd ∧ gd < n ∧ d < n := by exact ⟨_, rfl, rfl, rfl, by decide, by decide⟩) :
    wpOp P ops Q i (Done ⟨some d, .call ⟨.value (.func f), args, ats⟩, ty, pos, af, some (j, b)⟩ (tq E) (Mm F w0 m0 fs os) n a w) a w := by
  obtain ⟨p, h1, h2, h3, h4, h5⟩ := hk
  exact head_yes h1 rfl h2 h3 (by rw [S.s.size]; exact h4) (S.s.get gd _ hgv) hw (op_call (hv0.get trivial) hf hc fun e w' he => let ⟨v, g1, g2, g3, g4⟩ := hR e w' he; ⟨v, g1, Done.mk' rfl h5 g2 g3 g4⟩)
/-- a new block: its number is told -/
theorem hnb (d : Nat) {v : Value} {ob : Obj} (M : Mm F w0 m0 fs os w) (h : (execOp a.eval o).run P w = .ok (.value v) (w.alloc ob)) (ht : Ch (In []) w (w.alloc ob) → lookE (tq E) d v (w.alloc ob)) (hk : ops[i]? = some o ∧ o.guard = none ∧ o.dst = some d ∧ d < n := by exact ⟨rfl, rfl, rfl, by decide⟩) : wpOp P ops Q i (Done o (tq E) (Mm F w0 m0 fs os) n a w) a w :=
  head_op hk.1 hk.2.1 (op_val h (Done.mk' hk.2.2.1 hk.2.2.2 (ht (ch_alloc w ob)) ((ch_alloc w ob).mono fun _ h => h.elim) (M.k0 (ch_alloc w ob))))
end
theorem St.z {a : Act} {w : World} {rs : List RF} {L' : List (Nat × Value)} (_ : St F w0 m0 n L' rs os a w) : ∃ z, z = w.heap.size := ⟨_, rfl⟩
/-! several new blocks: they differ -/
def HDN (A : List Nat) (P : Program) (ops : Array Oper) (Q : Exit → Act → World → Prop) (F : Nat → Prop) (w0 W : World) (m0 : List BS) (n : Nat) (L : List (Nat × Value)) (fs : List RF) (os : List OF) {chg : List BS} (E : List (Nat × Td (In chg))) (i : Nat) (o : Oper) (D : List Nat) : Prop :=
  ∀ a w, St F w0 m0 n (cat (vals E D) L) fs os a w → Ch (In chg) W w → pdeps E a w D → wpOp P ops Q i (DoneN A o (tq E) (Mm F w0 m0 fs os) n a w) a w
def HSN (A : List Nat) (P : Program) (ops : Array Oper) (Q : Exit → Act → World → Prop) (F : Nat → Prop) (w0 W : World) (m0 : List BS) (n : Nat) (L : List (Nat × Value)) (fs : List RF) (os : List OF) {chg : List BS} (E : List (Nat × Td (In chg))) : Nat → List Oper → List (List Nat) → Prop
  | i, o :: r, D :: Ds => HDN A P ops Q F w0 W m0 n L fs os E i o D ∧ HSN A P ops Q F w0 W m0 n L fs os E (i + 1) r Ds
  | _, _, _ => True
theorem HSN.steps {A : List Nat} : ∀ (l : List Oper) (Ds : List (List Nat)) (i : Nat), HSN A P ops Q F w0 W m0 n L fs os E i l Ds → stepsN A P ops Q n L W (tq E) (Mm F w0 m0 fs os) i l Ds
  | [], _, _, _ => by cases ‹List (List Nat)› <;> trivial
  | _ :: _, [], _, _ => trivial
  | o :: r, D :: Ds, i, h => ⟨fun a w hc hm s hd => by
      obtain ⟨h1, h2⟩ := deps_open s D hd
      exact h.1 a w ⟨h1, hm⟩ hc h2, HSN.steps r Ds (i + 1) h.2⟩
theorem qdn {A : List Nat} (h : HD P ops Q F w0 W m0 n L fs os E i o D) (hA : ∀ d, o.dst = some d → d ∉ A := by intro d h; cases h; decide) : HDN A P ops Q F w0 W m0 n L fs os E i o D :=
  fun a w S G p => wpOp_mono (fun a' w' ⟨⟨v, h1, h2⟩, h3, h4⟩ => ⟨⟨v, h1, fun d hd => ⟨(h2 d hd).1, (h2 d hd).2, fun hm => absurd hm (hA d hd)⟩⟩, h3, h4⟩) (h a w S G p)
theorem hnb2 {A : List Nat} (d : Nat) {v : Value} {ob : Obj} {a : Act} {w : World} (M : Mm F w0 m0 fs os w) (h : (execOp a.eval o).run P w = .ok (.value v) (w.alloc ob)) (hv : blkOf v = some w.heap.size) (ht : Ch (In []) w (w.alloc ob) → lookE (tq E) d v (w.alloc ob)) (hk : ops[i]? = some o ∧ o.guard = none ∧ o.dst = some d ∧ d < n := by exact ⟨rfl, rfl, rfl, by decide⟩) : wpOp P ops Q i (DoneN A o (tq E) (Mm F w0 m0 fs os) n a w) a w :=
  head_op hk.1 hk.2.1 (op_val h ⟨⟨v, rfl, fun e he => by rw [hk.2.2.1] at he; cases he; exact ⟨hk.2.2.2, ht (ch_alloc w ob), fun _ => ⟨_, hv, Nat.le_refl _⟩⟩⟩, (ch_alloc w ob).mono fun _ h => h.elim, M.k0 (ch_alloc w ob)⟩)
theorem dr2 {id : Nat} {a : Act} {w : World} {l : List Oper} (S : St F w0 m0 n L fs os a w) (N : Nat) (A : List Nat) (chg : List BS) (E : List (Nat × Td (In chg))) (Ds : List (List Nat)) (outs : List Nat) (tail : List Oper) (hA : ∀ d ∈ A, ∀ u w, lookE (tq E) d u w → ∃ x, blkOf u = some x ∧ x < w.heap.size) (step : HSN A P l.toArray Q F w0 w m0 n L fs os E 0 (l.take N) Ds)
    (fin : ∀ a w', St F w0 m0 n (cat (vals E outs) L) fs os a w' → Ch (In chg) w w' → pdeps E a w' outs → (∀ d e, (A.contains d && A.contains e && d != e) = true → blkOf (a.tmps.getD d undef) ≠ blkOf (a.tmps.getD e undef)) → wpList P l.toArray Q tail a w')
    (htl : tail = l.drop N := by rfl) (hm : P.follows .mixedOrders = true := by exact mixed) (hok : (headOk l.toArray N && depsOk l.toArray N 0 Ds && keysOk l.toArray N L && outsOk l.toArray N outs && tailOk l.toArray N) = true := by kernel_rfl) (hlen : Ds.length = N := by rfl) (hAh : A.all (isHead l.toArray N) = true := by kernel_rfl) : (Code.region id l.toArray true).wp P Q a w :=
  wp_heads2 S.s N (tq E) (Mm F w0 m0 fs os) Ds outs A hA tail htl hm hok hlen S.m.drew (HSN.steps _ _ _ step) fun a w' hc hm s hd hp => by
    obtain ⟨h1, h2⟩ := deps_open s outs hd
    refine fin a w' ⟨h1, hm⟩ hc h2 fun d e hde => ?_
    simp only [Bool.and_eq_true, bne_iff_ne, List.contains_iff_mem] at hde
    have hh := List.all_eq_true.1 hAh
    exact hp d e (hh d hde.1.1) (hh e hde.1.2) hde.1.1 hde.1.2 hde.2
/-- new blocks of a region become the call's own -/
theorem St.own {a a0 : Act} {w W : World} {L0 : List (Nat × Value)} (S0 : St F w0 m0 n L0 fs os a0 W) (S : St F w0 m0 n L fs os a w) (js : List Nat) (G : Ch (In (picks (ow os) js)) W w) (hj : ∀ j f, j ∈ js → nth os j = some f → ∀ V1 V2, f.p F V1 w → f.p F V2 w) (nw : List OF) (hsep : Sep (ow nw)) (hn : ∀ k, In (ow nw) k → W.heap.size ≤ k ∧ k < w.heap.size) (hp : ∀ f ∈ nw, ∀ V, f.p F V w) : St F w0 m0 n L fs (os ++ nw) a w := by
  have hin : ∀ k, In (ow nw) k → ¬ In (ow os) k := fun k h1 h2 => by have := hn k h1; have := S0.M.lt k h2; omega
  have hMS : ∀ (x : List BS), Sep x → (∀ k, In x k → W.heap.size ≤ k ∧ k < w.heap.size) → (∀ k, In x k → ¬ In (ow os) k) → MS (x ++ ow os) w := by
    intro x
    induction x with
    | nil => intro _ _ _; exact S.M
    | cons o r ih =>
      intro s h1 h2
      exact (ih s.2 (fun k hk => h1 k (.inr hk)) (fun k hk => h2 k (.inr hk))).cons fun k hk => ⟨(h1 k (.inl hk)).2, fun hm => (in_app.1 hm).elim (s.1 k hk) (h2 k (.inl hk))⟩
  have M := hMS (ow nw) hsep hn hin
  have T : Tr (ow os) W (ow os ++ ow nw) w := Tr.comm ⟨G.mono fun k hk => in_picks hk, fun k hk => (in_app.1 hk).elim (fun h => .inr (hn k h).1) .inl, M⟩
  have T0 : Tr m0 w0 (ow os ++ ow nw) w := Tr.comm ⟨S.m.c.ch, fun k hk => (in_app.1 hk).elim (fun h => .inr (Nat.le_trans S0.m.c.size (hn k h).1)) (S.m.c.sub k), M⟩
  refine ⟨S.s, by rw [ow_app]; exact T0, S.m.f, fun f hf => by rw [ow_app]; exact f.st T.mv (S0.m.r f hf), fun f hf => ?_⟩
  rw [ow_app]
  rcases List.mem_append.1 hf with h | h
  · obtain ⟨i, hi⟩ := idx_of h
    by_cases hc : js.contains i = true
    · exact hj i f (List.contains_iff_mem.1 hc) hi _ _ (S.m.o f h)
    · exact f.st T.mv (fun k hk ho => G.block k hk fun hm => S0.m.sep hi js (by simpa using hc) ho hm) (S0.m.o f h)
  · exact hp f h _
theorem Row.own_wf {α : Type} {En : Enc α} {t : TypeId} {base cap : Nat} {w : World} {ad : Option Addr} {V : Nat → Prop} (r : Row En t base F [] w ad cap []) : (rwO En t base ad cap []).p F V w := ⟨r.own, fun x h => by simp at h⟩
/-- x.f = append(x.f, ..): the address is made beside the append, in either order -/
theorem lz {α : Type} {id : Nat} {a : Act} {w : World} {l : List Oper} {d : Nat} {t ts : TypeId} {ad : Option Addr} {cap : Nat} {xs : List α} {z : Value} {bytes : Nat} {s x : Operand} (En : Enc α) (γ : Type) (S : St F w0 m0 n L fs os a w) (N m : Nat) (chg : List BS) (E : List (Nat × Td (In chg))) (Ds : List (List Nat)) (outs : List Nat) (Z : List (Nat × Value)) (rest : List Oper) (j : Nat) (hj : nth os j = some (rwO En t w0.heap.size ad cap xs))
    (V : γ → List (Nat × Value)) (R : γ → Prop) (ys : γ → List α) (step : HS P l.toArray Q F w0 w m0 n L fs os E 0 (l.take N) Ds) (lzy : lzs P n L (l.drop (N + 1)) Z)
    (main : ∀ a w', St F w0 m0 n (cat (vals E outs) L) fs os a w' → Ch (In chg) w w' → pdeps E a w' outs → ∃ (g : γ) (sa : Option Addr) (sc : Nat) (D : Nat → Prop), Slots n (cat (V g) L) a ∧ R g ∧ evS (cat (V g) L) s = some (.slice ad xs.length cap) ∧ evS (cat (V g) L) x = some (.slice sa (ys g).length sc) ∧ LAt En D w'.heap sa (ys g) ∧ (sa = none → sc = 0) ∧ (∀ y ∈ ys g, En.wf (Fr F (ow os)) w'.heap y) ∧ (xs.length + (ys g).length ≤ maxLen ∧ (xs.length + (ys g).length) * bytes ≤ 140737488355328))
    (fin : ∀ g ad' cap' a w, St F w0 m0 n ((d, .slice ad' (xs ++ ys g).length cap') :: cat Z (cat (V g) L)) fs (os.set j (rwO En t w0.heap.size ad' cap' (xs ++ ys g))) a w → R g → wpList P l.toArray Q rest a w)
    (ht : P.underlying ts = some (.slice t)) (hz : (P.info? t).map (fun i => (i.zero, i.size, i.bytes)) = some (some z, En.n, bytes)) (hzz : z.cells.size = En.n ∧ 0 < En.n := by exact ⟨rfl, by decide⟩) (ht1 : l[N]? = some ⟨some d, .call ⟨.builtin .append, #[s, x], #[ts, ts]⟩, ty, pos, af, none⟩ := by rfl) (hrest : rest = l.drop (N + m + 1) := by rfl) (hm : P.follows .mixedOrders = true := by exact mixed)
    (hok : (headOk l.toArray N && depsOk l.toArray N 0 Ds && keysOk l.toArray N L && outsOk l.toArray N outs && lazyOk l.toArray N m L Z) = true := by kernel_rfl) (hlen : Ds.length = N := by rfl) (hZ : Z.length = m := by rfl) (hV : ∀ g, (V g).map (·.1) = outs := by intro _; rfl) (hzo : Z.all (fun z => z.1 != d && !outs.contains z.1) = true := by kernel_rfl) (hzl : Z.all (fun z => L.all fun p => p.1 != z.1) = true := by kernel_rfl) (hdn : d < n := by decide) (hdo : outs.contains d = false := by kernel_rfl) : (Code.region id l.toArray true).wp P Q a w := by
  have hcat : ∀ (V L : List (Nat × Value)), cat V L = V ++ L := by
    intro V L
    induction V with
    | nil => rfl
    | cons p r ih => rw [cat, ih]; rfl
  have e1 := rowSplit hj
  refine wp_lazy S.s N m (tq E) (Mm F w0 m0 fs os) Ds outs Z _ rest (fun a w => ∃ g ad' cap', St F w0 m0 n ((d, .slice ad' (xs ++ ys g).length cap') :: cat (V g) L) fs (os.set j (rwO En t w0.heap.size ad' cap' (xs ++ ys g))) a w ∧ R g) ht1 rfl hrest hm hok hlen hZ S.m.drew (HS.steps _ _ _ step) lzy ?_ ?_ ?_ ?_
  · intro a w' hc hM s hd
    obtain ⟨h1, h2⟩ := deps_open s outs hd
    obtain ⟨g, sa, sc, D, k1, k2, k3, k4, k5, k6, k7, k8⟩ := main a w' ⟨h1, hM⟩ hc h2
    refine op_append (E := En) ((ow os).take j) ((ow os).drop (j + 1)) _ _ ts rfl z bytes ht hz hzz.1 hzz.2 (rowSplit hj) hM.c.ms (k1.eval k3) (St.row ⟨k1, hM⟩ j hj) (ys g) sa sc (k1.eval k4) k5 k6 k7 k8.1 k8.2 hM.c.size fun ad' cap' w2 Rw T gg => ?_
    have e2 := ow_setx (g := rwO En t w0.heap.size ad' cap' (xs ++ ys g)) hj
    have T' : Tr (ow os) w' (ow (os.set j (rwO En t w0.heap.size ad' cap' (xs ++ ys g)))) w2 := by
      rw [e2]; conv => arg 1; rw [e1]
      exact T
    exact ⟨g, ad', cap', ⟨k1.put hdn, hM.sw j hj _ T' gg (by rw [e2]; exact ⟨Rw.own, Rw.wf⟩)⟩, k2⟩
  · rintro a w d' v ⟨k, zz, hz', rfl⟩ ⟨g, ad', cap', S', hR⟩
    refine ⟨g, ad', cap', ⟨S'.s.put_ne ?_, S'.m⟩, hR⟩
    have hmem := List.mem_of_getElem? hz'
    have q1 := List.all_eq_true.1 hzo _ hmem
    simp only [Bool.and_eq_true, bne_iff_ne, Bool.not_eq_true'] at q1
    have q2 := List.all_eq_true.1 hzl _ hmem
    rw [look_cons, if_neg (fun e => q1.1 e.symm), hcat]
    have : ∀ (A : List (Nat × Value)), (∀ p ∈ A, p.1 ≠ zz.1) → look zz.1 A = none := by
      intro A
      induction A with
      | nil => intro _; rfl
      | cons p r ih =>
        intro h; obtain ⟨i, v⟩ := p
        rw [look_cons, if_neg (h _ List.mem_cons_self)]
        exact ih fun p hp => h p (List.mem_cons_of_mem _ hp)
    apply this
    intro p hp
    rcases List.mem_append.1 hp with hp | hp
    · intro e
      have : p.1 ∈ outs := by rw [← hV g]; exact List.mem_map_of_mem hp
      rw [e] at this
      have q3 := q1.2
      rw [List.contains_iff_mem.2 this] at q3; cases q3
    · have := List.all_eq_true.1 q2 p hp
      simpa using this
  · rintro a w ⟨g, ad', cap', S', _⟩
    have h1 : Slots n (cat (V g) L) a := ⟨S'.s.size, S'.s.defers, fun i v hv => S'.s.get i v (by
      rw [look_cons]
      by_cases e : d = i
      · subst e
        rw [hcat] at hv
        exfalso
        have hok' := hok
        simp only [Bool.and_eq_true] at hok'
        have hkeys := hok'.2
        simp only [lazyOk, Bool.and_eq_true] at hkeys
        have hLk := hkeys.1.1.1.2
        have hm := look_mem hv
        rcases List.mem_append.1 hm with hm | hm
        · have : d ∈ outs := by rw [← hV g]; exact List.mem_map_of_mem (f := (·.1)) hm
          rw [List.contains_iff_mem.2 this] at hdo; cases hdo
        · have q := List.all_eq_true.1 hLk _ hm
          have q2 := List.all_eq_true.1 q N (List.mem_range.2 (by omega))
          rw [show l.toArray[N]? = l[N]? from by simp, ht1] at q2
          simp at q2
      · rw [if_neg e]; exact hv)⟩
    refine ⟨h1.size, h1.defers, fun i v hv => h1.get i v ?_⟩
    rw [hcat]
    have : ∀ (A : List (Nat × Value)), (∀ p ∈ A, p.1 ≠ i) → look i (A ++ L) = look i L := by
      intro A
      induction A with
      | nil => intro _; rfl
      | cons p r ih =>
        intro h; obtain ⟨i', v'⟩ := p
        rw [List.cons_append, look_cons, if_neg (h _ List.mem_cons_self)]
        exact ih fun p hp => h p (List.mem_cons_of_mem _ hp)
    rw [this _ ?_]; exact hv
    intro p hp e
    have hin : i ∈ outs := by rw [← hV g, ← e]; exact List.mem_map_of_mem hp
    have hok' := hok
    simp only [Bool.and_eq_true] at hok'
    have hk := List.all_eq_true.1 hok'.1.1.2 _ (look_mem hv)
    have ho := List.all_eq_true.1 hok'.1.2 _ hin
    simp only [Bool.not_eq_true'] at hk
    rw [ho] at hk; cases hk
  · rintro a w ⟨g, ad', cap', S', hR⟩ sz
    refine fin g ad' cap' a w ⟨?_, S'.m⟩ hR
    rw [hcat Z]
    have h1 := Slots.both S'.s sz
    refine ⟨h1.size, h1.defers, fun i v hv => h1.get i v ?_⟩
    rw [← hv, look_cons]
    by_cases e : d = i
    · subst e
      rw [if_pos rfl]
      have : ∀ (A B : List (Nat × Value)), (∀ p ∈ A, p.1 ≠ d) → look d (A ++ (d, .slice ad' (xs ++ ys g).length cap') :: B) = some (.slice ad' (xs ++ ys g).length cap') := by
        intro A B
        induction A with
        | nil => intro _; rw [List.nil_append, look_cons, if_pos rfl]
        | cons p r ih =>
          intro h; obtain ⟨i', v'⟩ := p
          rw [List.cons_append, look_cons, if_neg (h _ List.mem_cons_self)]
          exact ih fun p hp => h p (List.mem_cons_of_mem _ hp)
      exact this Z _ fun p hp => by
        have q1 := List.all_eq_true.1 hzo _ hp
        simp only [Bool.and_eq_true, bne_iff_ne] at q1
        exact q1.1
    · rw [if_neg e]
      have : ∀ (A B : List (Nat × Value)) (u : Value), look i (A ++ (d, u) :: B) = look i (A ++ B) := by
        intro A B u
        induction A with
        | nil => rw [List.nil_append, look_cons, if_neg e]; rfl
        | cons p r ih => obtain ⟨i', v'⟩ := p; rw [List.cons_append, List.cons_append, look_cons, look_cons, ih]
      exact this Z _ _
end
end Go.Proofs.Ytobggnpnochnnaa.V
/- A call in a region that draws its order, with operations behind it that may run before it. -/
namespace Go.Proofs.Ytobggnpnochnnaa.V
open Go.RowKit
def pickZ (Z : List (Nat × Value)) (D : List Nat) : List (Nat × Value) := D.filterMap fun k => Z[k]?
section
variable {P : Program} {F : Nat → Prop} {w0 : World} {m0 chg : List BS} {n : Nat} {L : List (Nat × Value)} {rs : List RF} {os ks : List OF} {Q : Exit → Act → World → Prop}
def LZ (P : Program) (n N : Nat) (L : List (Nat × Value)) (F : Nat → Prop) (w0 : World) (m0 : List BS) (rs : List RF) (ks : List OF) (Z : List (Nat × Value)) : List Oper → List (Nat × Value) → List (List Nat) → Prop
  | o :: r, z :: zs, D :: Ds => ((z.1 < n ∧ (D.all fun k => o.after.any fun e => Region.binds .any e && e.on == N + 1 + k) = true) ∧ ∀ fs a w, St F w0 m0 n (pickZ Z D ++ L) rs (ks ++ fs) a w → (execOp a.eval o).run P w = .ok (.value z.2) w) ∧ LZ P n N L F w0 m0 rs ks Z r zs Ds
  | _, _, _ => True
theorem LZ.get {N : Nat} {Z : List (Nat × Value)} : ∀ (r : List Oper) (zs : List (Nat × Value)) (Ds : List (List Nat)) (k : Nat), k < zs.length → zs.length ≤ r.length → Ds.length = zs.length → LZ P n N L F w0 m0 rs ks Z r zs Ds → ∃ o z D, r[k]? = some o ∧ zs[k]? = some z ∧ (z.1 < n ∧ (D.all fun k => o.after.any fun e => Region.binds .any e && e.on == N + 1 + k) = true) ∧ ∀ fs a w, St F w0 m0 n (pickZ Z D ++ L) rs (ks ++ fs) a w → (execOp a.eval o).run P w = .ok (.value z.2) w
  | [], zs, _, _, h, hl, _, _ => by simp at hl; subst hl; simp at h
  | o :: r, [], _, _, h, _, _, _ => by simp at h
  | o :: r, z :: zs, [], _, _, _, hD, _ => by simp at hD
  | o :: r, z :: zs, D :: Ds, 0, _, _, _, h => ⟨o, z, D, rfl, rfl, h.1.1, h.1.2⟩
  | o :: r, z :: zs, D :: Ds, k + 1, hk, hl, hD, h => by
    obtain ⟨o', z', D', h1, h2, h3⟩ := LZ.get r zs Ds k (by simpa using hk) (by simpa using hl) (by simpa using hD) h.2
    exact ⟨o', z', D', by simpa using h1, by simpa using h2, h3⟩
theorem clw {a : Act} {w : World} {K : Act → World → Prop} {d : Nat} {f : FuncId} {args : Array Operand} {ats : Array TypeId} {vs : Array Value} {R : Ending → World → Prop} {ty : TypeId} {pos : String} {af : Array Edge} (S : St F w0 m0 n L rs os a w) (hc : Calls P f vs w R) (hf : Callable P f)
    (hR : ∀ e w', R e w' → ∃ v, e = .returned v ∧ ∀ a', Slots n ((d, v) :: L) a' → K a' w') (hv : args.toList.map (evS L) = vs.toList.map some := by rfl) (hd : d < n := by decide) : Oper.wp P ⟨some d, .call ⟨.value (.func f), args, ats⟩, ty, pos, af, none⟩ a w K Q :=
  op_call (args_eval S.s hv) hf hc fun e w' he => let ⟨v, h1, h2⟩ := hR e w' he; ⟨v, h1, h2 _ (S.s.put hd)⟩
theorem look_map {i : Nat} : ∀ {L : List (Nat × Value)}, ¬ i ∈ L.map (·.1) → look i L = none
  | [], _ => rfl
  | (j, v) :: r, h => by
    rw [look_cons, if_neg (fun e => h (by simp [e])), look_map fun hm => h (by simp only [List.map_cons, List.mem_cons]; exact .inr hm)]
theorem St.put_ne {d : Nat} {a : Act} {w : World} {v : Value} (S : St F w0 m0 n L rs os a w) (hd : look d L = none) : St F w0 m0 n L rs os (a.put (some d) v) w := ⟨S.s.put_ne hd, S.m⟩
/-- a call (or another operation that may not be moved), heads before it, and operations in any order beside all of them, whose values do not depend on the call -/
theorem lzc {γ : Type} {id : Nat} {a : Act} {w : World} {l : List Oper} {t1 : Oper} (S : St F w0 m0 n L rs os a w) (N m : Nat) (chg : List BS) (E : List (Nat × Td (In chg))) (Ds : List (List Nat)) (outs : List Nat) (Z : List (Nat × Value)) (ZD : List (List Nat)) (d : Nat) (rest : List Oper) (ks fs0 : List OF) (v : γ → Value) (fs1 : γ → List OF) (R : γ → Prop)
    (step : HS P l.toArray Q F w0 w m0 n L rs os E 0 (l.take N) Ds) (lzy : LZ P n N L F w0 m0 rs ks Z (l.drop (N + 1)) Z ZD)
    (main : ∀ a w', St F w0 m0 n (cat (vals E outs) L) rs os a w' → Ch (In chg) w w' → pdeps E a w' outs → ∀ K : Act → World → Prop, (∀ g a w, St F w0 m0 n ((d, v g) :: L) rs (ks ++ fs1 g) a w → R g → K a w) → t1.wp P a w' K Q)
    (fin : ∀ g a w, St F w0 m0 n (Z ++ (d, v g) :: L) rs (ks ++ fs1 g) a w → R g → wpList P l.toArray Q rest a w)
    (hos : os = ks ++ fs0 := by rfl) (ht1 : l[N]? = some t1 := by rfl) (hg1 : t1.guard = none ∧ t1.dst = some d := by exact ⟨rfl, rfl⟩) (hrest : rest = l.drop (N + m + 1) := by rfl) (hm : P.follows .mixedOrders = true := by exact mixed)
    (hok : (headOk l.toArray N && depsOk l.toArray N 0 Ds && keysOk l.toArray N L && outsOk l.toArray N outs && lazyOk l.toArray N m L Z) = true := by kernel_rfl) (hlen : Ds.length = N := by rfl) (hZ : Z.length = m := by rfl) (hZD : ZD.length = m := by rfl) (hzk : Z.all (fun z => z.1 != d && (look z.1 L).isNone) = true := by kernel_rfl) : (Code.region id l.toArray true).wp P Q a w := by
  have hzn : ∀ z ∈ Z, ∀ g, look z.1 ((d, v g) :: L) = none := fun z hz g => by
    have := List.all_eq_true.1 hzk z hz
    simp only [Bool.and_eq_true, bne_iff_ne, Option.isNone_iff_eq_none] at this
    rw [look_cons, if_neg (fun e => this.1 e.symm)]; exact this.2
  have hsz : N + m + 1 < l.length := by
    have h := hok
    simp only [Bool.and_eq_true, lazyOk, decide_eq_true_eq] at h
    simpa using h.2.1.1.1.1.1.1.1.1
  have hL : ∀ g a, Slots n ((d, v g) :: L) a → Slots n L a := fun g a s => ⟨s.size, s.defers, fun i u hu => s.get i u (by
    rw [look_cons]
    by_cases e : d = i
    · subst e
      exfalso
      have h := hok
      simp only [Bool.and_eq_true, lazyOk] at h
      have q := List.all_eq_true.1 h.2.1.1.1.2 _ (look_mem hu)
      have q2 := List.all_eq_true.1 q N (List.mem_range.2 (by omega))
      rw [show l.toArray[N]? = some t1 from by simpa using ht1] at q2
      simp [hg1.2] at q2
    · rw [if_neg e]; exact hu)⟩
  refine wp_lazyI (LW := fun w => ∃ fs, Mm F w0 m0 rs (ks ++ fs) w) S.s N m (tq E) (Mm F w0 m0 rs os) Ds outs Z t1 rest (fun a w => ∃ g, St F w0 m0 n ((d, v g) :: L) rs (ks ++ fs1 g) a w ∧ R g) ht1 hg1.1 hrest hm hok hlen hZ S.m.drew (HS.steps _ _ _ step) (fun k hk => ?_) (fun w M => ⟨fs0, hos ▸ M⟩) (fun a w ⟨g, S', _⟩ => ⟨_, S'.m⟩) ?_ ?_ (fun a w ⟨g, S', _⟩ => hL g a S'.s) ?_
  · obtain ⟨o, z, D, e1, e2, ⟨e3, e4⟩, e5⟩ := LZ.get (P := P) (l.drop (N + 1)) Z ZD k (by omega) (by simp; omega) (by omega) lzy
    rw [List.getElem?_drop] at e1
    refine ⟨o, z, D, e1, e2, e3, fun k' hk' => ?_, fun a w s ⟨fs, M⟩ hD => e5 fs a w ⟨s.both ⟨s.size, s.defers, fun i u h => ?_⟩, M⟩⟩
    · have := List.all_eq_true.1 e4 k' hk'
      obtain ⟨e, he, hb⟩ := Array.any_eq_true'.1 this
      simp only [Bool.and_eq_true, beq_iff_eq] at hb
      exact ⟨e, he, hb.1, hb.2⟩
    · obtain ⟨k', hk', hz'⟩ := List.mem_filterMap.1 (look_mem h)
      exact hD k' hk' _ hz'
  · intro a w' hc hM s hd
    obtain ⟨h1, h2⟩ := deps_open s outs hd
    exact main a w' ⟨h1, hM⟩ hc h2 _ fun g a w S' hR => ⟨g, S', hR⟩
  · rintro a w d' v' ⟨k, z, hz, rfl⟩ ⟨g, S', hR⟩
    exact ⟨g, S'.put_ne (hzn z (List.mem_of_getElem? hz) g), hR⟩
  · rintro a w ⟨g, S', hR⟩ sZ
    exact fin g a w ⟨S'.s.both sZ, S'.m⟩ hR
end
end Go.Proofs.Ytobggnpnochnnaa.V
