/- CmpM For LabM BriM AllM GenM SanM in one text -/
import Derived.Test.YtfanmniaolncbaaGrpF
import Derived.LaidEqlPtr
import Derived.Laws.Pointers
set_option linter.unusedVariables false
set_option linter.unusedSimpArgs false
/- Connected components, plain: the least index of a class; forests of members; rounds of propagated labels. -/
namespace Go.Proofs.Ytfanmniaolncbaa.V
open Go.RowKit
/-- connected by steps of R in either direction -/
inductive Conn (R : Nat → Nat → Prop) : Nat → Nat → Prop
  | refl (a : Nat) : Conn R a a
  | step {a b c : Nat} (h : Conn R a b) (r : R b c ∨ R c b) : Conn R a c
section
variable {R R' : Nat → Nat → Prop} {a b c : Nat}
theorem Conn.trans (h : Conn R a b) (k : Conn R b c) : Conn R a c := by
  induction k with
  | refl => exact h
  | step _ r ih => exact .step ih r
theorem Conn.one (h : R a b) : Conn R a b := .step (.refl a) (.inl h)
theorem Conn.symm (h : Conn R a b) : Conn R b a := by
  induction h with
  | refl => exact .refl _
  | step _ r ih => exact Conn.trans (.step (.refl _) r.symm) ih
theorem Conn.mono (hR : ∀ a b, R a b → R' a b) (h : Conn R a b) : Conn R' a b := by
  induction h with
  | refl => exact .refl _
  | step _ r ih => exact .step ih (r.imp (hR _ _) (hR _ _))
theorem Conn.congr (hR : ∀ a b, R a b ↔ R' a b) : Conn R a b ↔ Conn R' a b := ⟨Conn.mono fun a b => (hR a b).1, Conn.mono fun a b => (hR a b).2⟩
/-- what R connects, R' connects -/
theorem Conn.join (hR : ∀ a b, R a b → Conn R' a b) (h : Conn R a b) : Conn R' a b := by
  induction h with
  | refl => exact .refl _
  | step _ r ih => exact ih.trans (r.elim (hR _ _) fun r => (hR _ _ r).symm)
/-- a property that no step leaves -/
theorem Conn.stay {p : Nat → Prop} (hp : ∀ a b, R a b → (p a ↔ p b)) (h : Conn R a b) : p a ↔ p b := by
  induction h with
  | refl => exact Iff.rfl
  | step _ r ih => exact ih.trans (r.elim (hp _ _) fun r => (hp _ _ r).symm)
theorem lab_ex (R : Nat → Nat → Prop) (x : Nat) : ∃ y, Conn R x y ∧ ∀ z, Conn R x z → y ≤ z := exists_least ⟨x, Conn.refl (R := R) x⟩
/-- the least of a class -/
noncomputable def lab (R : Nat → Nat → Prop) (x : Nat) : Nat := (lab_ex R x).choose
theorem lab_conn (R : Nat → Nat → Prop) (x : Nat) : Conn R x (lab R x) := (lab_ex R x).choose_spec.1
theorem lab_le {x z : Nat} (h : Conn R x z) : lab R x ≤ z := (lab_ex R x).choose_spec.2 z h
theorem lab_eq {x y : Nat} : lab R x = lab R y ↔ Conn R x y := by
  constructor
  · intro h
    exact (lab_conn R x).trans (by rw [h]; exact (lab_conn R y).symm)
  · intro h
    exact Nat.le_antisymm (lab_le (h.trans (lab_conn R y))) (lab_le (h.symm.trans (lab_conn R x)))
theorem lab_lab (R : Nat → Nat → Prop) (x : Nat) : lab R (lab R x) = lab R x := lab_eq.2 (lab_conn R x).symm
end
/-! forests: parent pointers that go down -/
def Down (ps : List (Option Nat)) : Prop := ∀ (i j : Nat), ps[i]? = some (some j) → j < i
def rootF (ps : List (Option Nat)) : Nat → Nat → Nat
  | 0, i => i
  | f + 1, i => match ps[i]? with
    | some (some j) => rootF ps f j
    | _ => i
def rootOf (ps : List (Option Nat)) (i : Nat) : Nat := rootF ps i i
theorem rootF_enough {ps : List (Option Nat)} (hd : Down ps) : ∀ (f i : Nat), i ≤ f → rootF ps f i = rootF ps i i := by
  have key : ∀ (n f g i : Nat), i ≤ n → i ≤ f → i ≤ g → rootF ps f i = rootF ps g i := by
    intro n
    induction n with
    | zero =>
      intro f g i hn hf hg
      have hi : ps[i]? = none ∨ ps[i]? = some none := by
        rcases h : ps[i]? with _ | (_ | j)
        · exact .inl rfl
        · exact .inr rfl
        · have := hd i j h; omega
      have one : ∀ f, rootF ps f i = i := fun f => by cases f <;> rcases hi with h | h <;> simp [rootF, h]
      rw [one, one]
    | succ n ih =>
      intro f g i hn hf hg
      rcases h : ps[i]? with _ | (_ | j)
      · cases f <;> cases g <;> simp [rootF, h]
      · cases f <;> cases g <;> simp [rootF, h]
      · have hj := hd i j h
        cases f with
        | zero => omega
        | succ f => cases g with
          | zero => omega
          | succ g => simp only [rootF, h]; exact ih f g j (by omega) (by omega) (by omega)
  exact fun f i h => key i f i i (Nat.le_refl _) h (Nat.le_refl _)
section
variable {ps : List (Option Nat)} {i j k : Nat}
theorem root_up (hd : Down ps) (h : ps[i]? = some (some j)) : rootOf ps i = rootOf ps j := by
  have hj := hd i j h
  unfold rootOf
  obtain ⟨f, rfl⟩ : ∃ f, i = f + 1 := ⟨i - 1, by omega⟩
  conv => lhs; simp only [rootF, h]
  exact rootF_enough hd f j (by omega)
theorem root_top (h : ps[i]? = some none) : rootOf ps i = i := by
  unfold rootOf; cases i <;> simp [rootF, h]
end
/-- links below k but the skipped one, that are usable -/
def linkR (t : Topo) (f : Fail) (s : Int) (k : Nat) (a b : Nat) : Prop := ∃ i, i < k ∧ ¬ ((i : Nat) : Int) = s ∧ usableR t f i ∧ (lnk t i).a = (a : Int) ∧ (lnk t i).b = (b : Int)
/-- the component of a device, -1 if it is not alive -/
noncomputable def cv (t : Topo) (f : Fail) (s : Int) (j : Nat) : Int := if ((j : Nat) : Int) ∈ f.devs.xs then -1 else ((lab (linkR t f s t.links.xs.length) j : Nat) : Int)
noncomputable def compsOf (t : Topo) (f : Fail) (s : Int) : List Int := (List.range t.devs.xs.length).map (cv t f s)
theorem comps_len (t : Topo) (f : Fail) (s : Int) : (compsOf t f s).length = t.devs.xs.length := by unfold compsOf; simp
theorem comps_at {t : Topo} {f : Fail} {s : Int} {j : Nat} (h : j < t.devs.xs.length) : (compsOf t f s).getD j 0 = cv t f s j := by
  unfold compsOf
  rw [List.getD_eq_getElem?_getD, List.getElem?_map, List.getElem?_range h]; rfl
theorem comps_is {t : Topo} {f : Fail} {s : Int} {l : List Int} (hl : l.length = t.devs.xs.length) (h : ∀ j, j < t.devs.xs.length → l.getD j 0 = cv t f s j) : compsOf t f s = l :=
  list_ext 0 ((comps_len t f s).trans hl.symm) fun i hi => by rw [comps_len] at hi; rw [comps_at hi, h i hi]
end Go.Proofs.Ytfanmniaolncbaa.V
/- A forest of members in memory: n blocks from B on, each a parent pointer and a number. -/
namespace Go.Proofs.Ytfanmniaolncbaa.V
open Go.RowKit
def ptrOf (B : Nat) (q : Option Nat) : Value := .pointer (q.map fun j => ⟨B + j, 0, none⟩)
def span (B n : Nat) : BS := fun k => B ≤ k ∧ k < B + n
structure Forest (e : TypeId) (h : Array Obj) (B n : Nat) (ps : List (Option Nat)) : Prop where
  len : ps.length = n
  blk : ∀ i, i < n → Blk h (B + i) [ptrOf B (ps.getD i none), .int .i64 ((i : Nat) : Int)] e
  down : Down ps
section
variable {e : TypeId} {B n i j : Nat} {ps : List (Option Nat)} {w w' : World}
theorem Forest.tr {chg : List BS} (k : Forest e w.heap B n ps) (g : Ch (In chg) w w') (h : ∀ b, span B n b → ¬ In chg b) : Forest e w'.heap B n ps :=
  ⟨k.len, fun i hi => (k.blk i hi).tr g (h _ ⟨by omega, by omega⟩), k.down⟩
theorem Forest.tr0 (k : Forest e w.heap B n ps) (g : Ch (In []) w w') : Forest e w'.heap B n ps := k.tr g fun _ _ h => h
theorem Forest.c0 {h : Array Obj} (k : Forest e h B n ps) (hi : i < n) : hcell h (B + i) (0 + 0) = some (ptrOf B (ps.getD i none)) := (k.blk i hi).cell rfl
theorem Forest.c1 {h : Array Obj} (k : Forest e h B n ps) (hi : i < n) : hcell h (B + i) (0 + 1) = some (.int .i64 ((i : Nat) : Int)) := (k.blk i hi).cell rfl
theorem Forest.get {h : Array Obj} (k : Forest e h B n ps) (hi : i < n) : ps[i]? = some (ps.getD i none) := by
  rw [List.getD_eq_getElem?_getD, List.getElem?_eq_getElem (by rw [k.len]; exact hi)]; rfl
theorem Forest.lt {h : Array Obj} (k : Forest e h B n ps) (hi : i < n) (hq : ¬ ps.getD i none = none) : (ps.getD i none).getD 0 < i := by
  have h1 := k.get hi
  cases hc : ps.getD i none with
  | none => exact absurd hc hq
  | some j => rw [hc] at h1; exact k.down i j h1
theorem Forest.root {h : Array Obj} (k : Forest e h B n ps) (hi : i < n) (hq : ¬ ps.getD i none = none) : rootOf ps i = rootOf ps ((ps.getD i none).getD 0) := by
  have h1 := k.get hi
  cases hc : ps.getD i none with
  | none => exact absurd hc hq
  | some j => rw [hc] at h1; exact root_up k.down h1
theorem Forest.top {h : Array Obj} (k : Forest e h B n ps) (hi : i < n) (hq : ps.getD i none = none) : rootOf ps i = i := root_top (by rw [k.get hi, hq])
/-- a parent pointer is set -/
theorem Forest.set (k : Forest e w.heap B n ps) (hi : i < n) (q : Option Nat) (hd : Down (ps.set i q)) : Forest e (w.setCell ⟨B + i, 0 + 0, none⟩ (ptrOf B q)).heap B n (ps.set i q) := by
  refine ⟨by rw [List.length_set]; exact k.len, fun j hj => ?_, hd⟩
  by_cases h : i = j
  · subst h
    rw [List.getD_eq_getElem?_getD, List.getElem?_set_self (by rw [k.len]; exact hi)]
    exact (k.blk i hi).set _
  · rw [List.getD_eq_getElem?_getD, List.getElem?_set_ne h, ← List.getD_eq_getElem?_getD]
    exact (k.blk j hj).tr (ch_set w _ _ _) fun hh => hh.elim (fun hh => h (by unfold one at hh; omega)) id
theorem Forest.new (w : World) (B : Nat) (e : TypeId) : Forest e w.heap B 0 [] := ⟨rfl, fun i hi => absurd hi (Nat.not_lt_zero _), fun i j h => by simp at h⟩
end
/-- entries put together -/
theorem Sep.both {o o2 : BS} {post : List BS} {u : BS} (hu : ∀ k, u k ↔ o k ∨ o2 k) : ∀ {pre : List BS}, Sep (o :: (pre ++ o2 :: post)) → Sep (pre ++ u :: post)
  | [], s => ⟨fun k hk h => ((hu k).1 hk).elim (fun e => s.1 k e (.inr h)) fun e => s.2.1 k e h, s.2.2⟩
  | p :: pre, s => by
    refine ⟨fun k hk h => ?_, Sep.both hu (pre := pre) ⟨fun k hk h => s.1 k hk (.inr h), s.2.2⟩⟩
    rcases in_app.1 h with h | h | h
    · exact s.2.1 k hk (in_app.2 (.inl h))
    · exact ((hu k).1 h).elim (fun e => s.1 k e (.inl hk)) fun e => s.2.1 k hk (in_app.2 (.inr (.inl e)))
    · exact s.2.1 k hk (in_app.2 (.inr (.inr h)))
theorem Tr.both {o o2 u : BS} {pre post : List BS} {w : World} (hu : ∀ k, u k ↔ o k ∨ o2 k) (h : MS (o :: (pre ++ o2 :: post)) w) : Tr (o :: (pre ++ o2 :: post)) w (pre ++ u :: post) w := by
  have hin : ∀ k, In (pre ++ u :: post) k → In (o :: (pre ++ o2 :: post)) k := fun k hk => by
    rcases in_app.1 hk with h | h | h
    · exact .inr (in_app.2 (.inl h))
    · exact ((hu k).1 h).imp id fun h => in_app.2 (.inr (.inl h))
    · exact .inr (in_app.2 (.inr (.inr h)))
  exact ⟨Ch.refl w, fun k hk => .inl (hin k hk), fun k hk => h.lt k (hin k hk), Sep.both hu h.sep⟩
section
variable {P : Program} {a : Act} {w : World} {d : Option Tmp} {ty : TypeId} {pos : String} {af : Array Edge} {g : Option (Nat × Bool)} {B : Nat} {q : Option Nat}
end
end Go.Proofs.Ytfanmniaolncbaa.V
/- Labels that are propagated in rounds: after as many rounds as there are devices each device bears the least of its component. -/
namespace Go.Proofs.Ytfanmniaolncbaa.V
open Go.RowKit
open Classical in
noncomputable def card : Nat → (Nat → Prop) → Nat
  | 0, _ => 0
  | n + 1, P => card n P + (if P n then 1 else 0)
theorem card_mono {P Q : Nat → Prop} : ∀ {n : Nat}, (∀ d, d < n → P d → Q d) → card n P ≤ card n Q
  | 0, _ => Nat.le_refl _
  | n + 1, h => by
    have h1 := card_mono (n := n) fun d hd => h d (by omega)
    have h2 := h n (Nat.lt_succ_self n)
    unfold card
    by_cases hp : P n
    · rw [if_pos hp, if_pos (h2 hp)]; omega
    · rw [if_neg hp]; omega
theorem card_lt {P Q : Nat → Prop} : ∀ {n : Nat}, (∀ d, d < n → P d → Q d) → (∃ d, d < n ∧ Q d ∧ ¬ P d) → card n P < card n Q
  | 0, _, ⟨_, h, _⟩ => absurd h (Nat.not_lt_zero _)
  | n + 1, h, ⟨d, hd, hq, hp⟩ => by
    have h2 := h n (Nat.lt_succ_self n)
    unfold card
    rcases Nat.lt_succ_iff_lt_or_eq.1 hd with g | rfl
    · have h1 := card_lt (n := n) (fun d hd => h d (by omega)) ⟨d, g, hq, hp⟩
      by_cases hp : P n
      · rw [if_pos hp, if_pos (h2 hp)]; omega
      · rw [if_neg hp]; omega
    · have h1 := card_mono (n := d) fun e he => h e (by omega)
      rw [if_neg hp, if_pos hq]; omega
theorem card_le {P : Nat → Prop} : ∀ {n : Nat}, card n P ≤ n
  | 0 => Nat.le_refl _
  | n + 1 => by
    have := card_le (P := P) (n := n)
    unfold card
    by_cases hp : P n
    · rw [if_pos hp]; omega
    · rw [if_neg hp]; omega
theorem card_full {P : Nat → Prop} : ∀ {n : Nat}, n ≤ card n P → ∀ d, d < n → P d
  | 0, _, _, h => absurd h (Nat.not_lt_zero _)
  | n + 1, h, d, hd => by
    have h1 := card_le (P := P) (n := n)
    unfold card at h
    by_cases hp : P n
    · rw [if_pos hp] at h
      rcases Nat.lt_succ_iff_lt_or_eq.1 hd with g | rfl
      · exact card_full (by omega) d g
      · exact hp
    · rw [if_neg hp] at h; omega
/-- what grows in each round until it stands, has grown fully after n rounds -/
theorem grow_all {n : Nat} {P : Nat → Nat → Prop} (mono : ∀ r d, P r d → P (r + 1) d) (stab : ∀ r, (∀ d, d < n → P (r + 1) d → P r d) → ∀ d, d < n → P (r + 2) d → P (r + 1) d) {d r : Nat} (hd : d < n) (h : P r d) : P n d := by
  have up : ∀ k s d, P s d → P (s + k) d := fun k => by
    induction k with
    | zero => exact fun _ _ h => h
    | succ k ih => exact fun s d h => mono _ _ (ih s d h)
  have key : ∀ r, (∃ s, s < r ∧ ∀ d, d < n → P (s + 1) d → P s d) ∨ r ≤ card n (P r) := by
    intro r
    induction r with
    | zero => exact .inr (Nat.zero_le _)
    | succ r ih =>
      rcases ih with ⟨s, hs, h⟩ | ih
      · exact .inl ⟨s, by omega, h⟩
      · by_cases hs : ∀ d, d < n → P (r + 1) d → P r d
        · exact .inl ⟨r, by omega, hs⟩
        · right
          simp only [Classical.not_forall] at hs
          obtain ⟨d, hd, h1, h2⟩ := hs
          have := card_lt (n := n) (fun d _ => mono r d) ⟨d, hd, h1, h2⟩
          omega
  rcases key n with ⟨s, hs, hst⟩ | hf
  · have st : ∀ k, ∀ d, d < n → P (s + k + 1) d → P (s + k) d := fun k => by
      induction k with
      | zero => exact hst
      | succ k ih => exact stab _ ih
    have back : ∀ k, ∀ d, d < n → P (s + k) d → P s d := fun k => by
      induction k with
      | zero => exact fun _ _ h => h
      | succ k ih => exact fun d hd h => ih d hd (st k d hd h)
    have h1 : P (s + r) d := by rw [Nat.add_comm]; exact up s r d h
    have h2 := back r d hd h1
    have := up (n - s) s d h2
    rwa [show s + (n - s) = n from by omega] at this
  · exact card_full hf d hd
def reach (R : Nat → Nat → Prop) : Nat → Nat → Prop
  | 0, d => lab R d = d
  | r + 1, d => reach R r d ∨ ∃ e, (R d e ∨ R e d) ∧ reach R r e
theorem reach_all {R : Nat → Nat → Prop} {n : Nat} (hR : ∀ a b, R a b → a < n ∧ b < n) {d : Nat} (hd : d < n) : reach R n d := by
  have : ∀ {x : Nat}, Conn R (lab R d) x → ∃ r, reach R r x := fun h => by
    induction h with
    | refl => exact ⟨0, lab_lab R d⟩
    | step _ r ih => obtain ⟨s, hs⟩ := ih; exact ⟨s + 1, .inr ⟨_, r.symm, hs⟩⟩
  obtain ⟨r, hr⟩ := this (lab_conn R d).symm
  refine grow_all (P := reach R) (fun r d h => .inl h) (fun r h d hd hh => ?_) hd hr
  rcases hh with hh | ⟨e, he, hh⟩
  · exact hh
  · exact .inr ⟨e, he, h e (he.elim (fun q => (hR _ _ q).2) fun q => (hR _ _ q).1) hh⟩
/-- the links of a topology that are usable -/
def useR (t : Topo) (f : Fail) (s : Int) : Nat → Nat → Prop := linkR t f s t.links.xs.length
theorem useR_lt {t : Topo} {f : Fail} {s : Int} (h : topV t) {a b : Nat} (r : useR t f s a b) : a < t.devs.xs.length ∧ b < t.devs.xs.length := by
  obtain ⟨i, h1, _, _, h4, h5⟩ := r
  have hl := topV_link h h1
  have e1 : (t.links.xs.getD i lnkE.dflt).a = a := h4
  have e2 : (t.links.xs.getD i lnkE.dflt).b = b := h5
  unfold lnkV at hl
  omega
structure LabI (t : Topo) (f : Fail) (out : List Int) (r k : Nat) : Prop where
  len : out.length = t.devs.xs.length
  dead : ∀ d, d < t.devs.xs.length → ((d : Nat) : Int) ∈ f.devs.xs → out.getD d 0 = -1
  live : ∀ d, d < t.devs.xs.length → ¬ ((d : Nat) : Int) ∈ f.devs.xs → ∃ m : Nat, out.getD d 0 = (m : Int) ∧ Conn (useR t f (-1)) d m
  hit : ∀ d, d < t.devs.xs.length → ¬ ((d : Nat) : Int) ∈ f.devs.xs → reach (useR t f (-1)) r d → out.getD d 0 = ((lab (useR t f (-1)) d : Nat) : Int)
  new : ∀ i, i < k → i < t.links.xs.length → usableR t f (i : Nat) → ∀ a b : Nat, (lnk t (i : Nat)).a = (a : Int) → (lnk t (i : Nat)).b = (b : Int) → reach (useR t f (-1)) r a ∨ reach (useR t f (-1)) r b → out.getD a 0 = ((lab (useR t f (-1)) a : Nat) : Int) ∧ out.getD b 0 = ((lab (useR t f (-1)) b : Nat) : Int)
section
variable {t : Topo} {f : Fail} {out : List Int} {r k : Nat}
theorem LabI.start (hl : out.length = t.devs.xs.length) (hd : ∀ d, d < t.devs.xs.length → ((d : Nat) : Int) ∈ f.devs.xs → out.getD d 0 = -1) (ha : ∀ d, d < t.devs.xs.length → ¬ ((d : Nat) : Int) ∈ f.devs.xs → out.getD d 0 = (d : Int)) : LabI t f out 0 0 :=
  ⟨hl, hd, fun d h1 h2 => ⟨d, ha d h1 h2, .refl d⟩, fun d h1 h2 h3 => by rw [ha d h1 h2]; congr 1; exact h3.symm, fun i hi => absurd hi (Nat.not_lt_zero _)⟩
theorem LabI.skip (I : LabI t f out r k) (hu : ¬ usableR t f (k : Nat)) : LabI t f out r (k + 1) :=
  ⟨I.len, I.dead, I.live, I.hit, fun i hi hil h => by
    rcases Nat.lt_succ_iff_lt_or_eq.1 hi with g | rfl
    · exact I.new i g hil h
    · exact absurd h hu⟩
theorem LabI.next (I : LabI t f out r t.links.xs.length) (hV : topV t) : LabI t f out (r + 1) 0 := by
  refine ⟨I.len, I.dead, I.live, fun d h1 h2 h3 => ?_, fun i hi => absurd hi (Nat.not_lt_zero _)⟩
  rcases h3 with h3 | ⟨e, he, h3⟩
  · exact I.hit d h1 h2 h3
  · rcases he with ⟨i, hi, _, hu, ha, hb⟩ | ⟨i, hi, _, hu, ha, hb⟩
    · exact (I.new i hi hi hu d e ha hb (.inr h3)).1
    · exact (I.new i hi hi hu e d ha hb (.inl h3)).2
theorem LabI.all (I : LabI t f out t.devs.xs.length 0) (hV : topV t) : compsOf t f (-1) = out := by
  refine comps_is I.len fun j hj => ?_
  unfold cv
  by_cases h : ((j : Nat) : Int) ∈ f.devs.xs
  · rw [if_pos h]; exact I.dead j hj h
  · rw [if_neg h]; exact I.hit j hj h (reach_all (fun a b => useR_lt hV) hj)
theorem LabI.link (I : LabI t f out r k) (hV : topV t) (hk : k < t.links.xs.length) (hu : usableR t f (k : Nat)) {a b : Nat} (ha : (lnk t (k : Nat)).a = (a : Int)) (hb : (lnk t (k : Nat)).b = (b : Int)) {v : Int} (hv : v = if out.getD b 0 < out.getD a 0 then out.getD b 0 else out.getD a 0) :
    LabI t f ((out.set a v).set b v) r (k + 1) := by
  have hR : useR t f (-1) a b := ⟨k, hk, by omega, hu, ha, hb⟩
  obtain ⟨han, hbn⟩ := useR_lt hV hR
  have hlab : lab (useR t f (-1)) a = lab (useR t f (-1)) b := lab_eq.2 (.one hR)
  have hda : ¬ ((a : Nat) : Int) ∈ f.devs.xs := by rw [← ha]; exact hu.1.2
  have hdb : ¬ ((b : Nat) : Int) ∈ f.devs.xs := by rw [← hb]; exact hu.2
  obtain ⟨ma, ea, ca⟩ := I.live a han hda
  obtain ⟨mb, eb, cb⟩ := I.live b hbn hdb
  have la := lab_le ca
  have lb := lab_le cb
  have hvm : (v = ma ∨ v = mb) ∧ (v ≤ ma ∧ v ≤ mb) := by
    rw [hv, ea, eb]; split <;> omega
  have get : ∀ d, d < t.devs.xs.length → ((out.set a v).set b v).getD d 0 = if d = a ∨ d = b then v else out.getD d 0 := fun d hd => by
    simp only [List.getD_eq_getElem?_getD]
    by_cases h1 : b = d
    · subst h1; rw [List.getElem?_set_self (by rw [List.length_set, I.len]; exact hd), if_pos (.inr rfl)]; rfl
    · rw [List.getElem?_set_ne h1]
      by_cases h2 : a = d
      · subst h2; rw [List.getElem?_set_self (by rw [I.len]; exact hd), if_pos (.inl rfl)]; rfl
      · rw [List.getElem?_set_ne h2, if_neg (by omega)]
  have stay : ∀ d, d < t.devs.xs.length → out.getD d 0 = ((lab (useR t f (-1)) d : Nat) : Int) → ((out.set a v).set b v).getD d 0 = ((lab (useR t f (-1)) d : Nat) : Int) := fun d hd h => by
    rw [get d hd]
    by_cases h1 : d = a ∨ d = b
    · rw [if_pos h1]
      rcases h1 with rfl | rfl <;> omega
    · rw [if_neg h1]; exact h
  refine ⟨by simp only [List.length_set]; exact I.len, fun d hd h => ?_, fun d hd h => ?_, fun d hd h1 h2 => stay d hd (I.hit d hd h1 h2), fun i hi hil hui x y hx hy hre => ?_⟩
  · rw [get d hd, if_neg (fun e => e.elim (fun e => hda (e ▸ h)) fun e => hdb (e ▸ h))]; exact I.dead d hd h
  · rw [get d hd]
    by_cases h1 : d = a ∨ d = b
    · rw [if_pos h1]
      have cab : ∀ m : Nat, (m = ma ∨ m = mb) → Conn (useR t f (-1)) a m ∧ Conn (useR t f (-1)) b m := fun m hm => by
        have hab := Conn.one hR
        rcases hm with rfl | rfl
        · exact ⟨ca, hab.symm.trans ca⟩
        · exact ⟨hab.trans cb, cb⟩
      rcases hvm.1 with e | e
      · exact ⟨ma, e, h1.elim (fun h => h ▸ (cab ma (.inl rfl)).1) fun h => h ▸ (cab ma (.inl rfl)).2⟩
      · exact ⟨mb, e, h1.elim (fun h => h ▸ (cab mb (.inr rfl)).1) fun h => h ▸ (cab mb (.inr rfl)).2⟩
    · rw [if_neg h1]; exact I.live d hd h
  · have hxy := useR_lt hV (show useR t f (-1) x y from ⟨i, hil, by omega, hui, hx, hy⟩)
    rcases Nat.lt_succ_iff_lt_or_eq.1 hi with g | rfl
    · obtain ⟨h1, h2⟩ := I.new i g hil hui x y hx hy hre
      exact ⟨stay x hxy.1 h1, stay y hxy.2 h2⟩
    · obtain rfl : x = a := by omega
      obtain rfl : y = b := by omega
      have hv' : v = ((lab (useR t f (-1)) x : Nat) : Int) := by
        rcases hre with h | h
        · have := I.hit x han hda h; omega
        · have := I.hit y hbn hdb h; omega
      rw [get x han, get y hbn, if_pos (.inl rfl), if_pos (.inr rfl)]
      exact ⟨hv', by rw [hv', hlab]⟩
end
theorem usable_iff {t : Topo} {f : Fail} (h : failV t f) {i : Nat} (hi : i < t.links.xs.length) : usableV t f (i : Nat) ↔ usableR t f (i : Nat) := ⟨fun h => h.2, fun hu => ⟨⟨⟨h, by omega⟩, by omega⟩, hu⟩⟩
theorem alive_iff {t : Topo} {f : Fail} (h : failV t f) {i : Nat} (hi : i < t.devs.xs.length) : aliveV t f (i : Nat) ↔ ¬ ((i : Nat) : Int) ∈ f.devs.xs := ⟨fun h => h.2, fun hu => ⟨⟨⟨h, by omega⟩, by omega⟩, hu⟩⟩
/-- components of a state, or nothing if it is not valid -/
noncomputable def compsV (t : Topo) (f : Fail) : List Int := if failV t f then compsOf t f (-1) else []
def connV (t : Topo) (f : Fail) (a b : Int) : Prop := (aliveV t f a ∧ aliveV t f b) ∧ cv t f (-1) a.toNat = cv t f (-1) b.toNat
noncomputable instance (t : Topo) (f : Fail) (a b : Int) : Decidable (connV t f a b) := Classical.propDecidable _
end Go.Proofs.Ytfanmniaolncbaa.V
/- One more link that fails; bridges; lists of failure states. -/
namespace Go.Proofs.Ytfanmniaolncbaa.V
open Go.RowKit
section
variable {t : Topo} {f : Fail} {a b : Int}
theorem aliveV_nat (h : aliveV t f a) : 0 ≤ a ∧ a.toNat < t.devs.xs.length := by
  obtain ⟨⟨⟨_, h1⟩, h2⟩, _⟩ := h; exact ⟨h1, by omega⟩
theorem compsV_len (h : failV t f) : (compsV t f).length = t.devs.xs.length := by unfold compsV; rw [if_pos h]; exact comps_len t f (-1)
theorem compsV_lt (h : aliveV t f a) : a.toNat < (compsV t f).length := by rw [compsV_len h.1.1.1]; exact (aliveV_nat h).2
theorem compsV_at (h : aliveV t f a) : (compsV t f).getD a.toNat 0 = cv t f (-1) a.toNat := by unfold compsV; rw [if_pos h.1.1.1]; exact comps_at (aliveV_nat h).2
theorem compsV_conn : connV t f a b ↔ (aliveV t f a ∧ aliveV t f b) ∧ (compsV t f).getD a.toNat 0 = (compsV t f).getD b.toNat 0 := by
  unfold connV
  constructor
  · rintro ⟨⟨h1, h2⟩, h3⟩; exact ⟨⟨h1, h2⟩, by rw [compsV_at h1, compsV_at h2]; exact h3⟩
  · rintro ⟨⟨h1, h2⟩, h3⟩; exact ⟨⟨h1, h2⟩, by rw [compsV_at h1, compsV_at h2] at h3; exact h3⟩
end
theorem take_snocD {α : Type} (d : α) {l : List α} {k : Nat} (hk : k < l.length) : l.take (k + 1) = l.take k ++ [l.getD k d] := by
  rw [List.take_add_one, List.getD_eq_getElem?_getD, List.getElem?_eq_getElem hk]; rfl
theorem rising_iff {l : List Int} {n : Int} : rising l n ↔ l.Pairwise (· < ·) ∧ ∀ x ∈ l, 0 ≤ x ∧ x < n := by
  constructor
  · intro h
    have asc : ∀ d i, i + d < l.length → 0 < d → l.getD i 0 < l.getD (i + d) 0 := fun d => by
      induction d with
      | zero => intro i _ h; omega
      | succ d ih =>
        intro i hi _
        have h1 := (h (i + (d + 1)) hi).2.2 (by omega)
        rw [show i + (d + 1) - 1 = i + d from by omega] at h1
        rcases Nat.eq_zero_or_pos d with e | e
        · subst e; exact h1
        · have := ih i (by omega) e; omega
    refine ⟨(pw_getD 0 _ _).2 fun i hi j hj => ?_, fun x hx => ?_⟩
    · have := asc (i - j) j (by omega) (by omega)
      rwa [show j + (i - j) = i from by omega] at this
    · obtain ⟨i, hi, rfl⟩ := mem_getD 0 hx
      exact ⟨(h i hi).1, (h i hi).2.1⟩
  · rintro ⟨h1, h2⟩ i hi
    have h3 := (pw_getD 0 _ _).1 h1
    exact ⟨(h2 _ (getD_mem hi)).1, (h2 _ (getD_mem hi)).2, fun h => h3 i hi (i - 1) (by omega)⟩
theorem rising_low {l : List Int} {n : Int} (h : rising l n) : ∀ i, i < l.length → (i : Int) ≤ l.getD i 0 := by
  intro i
  induction i with
  | zero => intro hi; exact (h 0 hi).1
  | succ i ih =>
    intro hi
    have h1 := ih (by omega)
    have h2 := (h (i + 1) hi).2.2 (by omega)
    rw [show i + 1 - 1 = i from by omega] at h2
    omega
theorem rising_len {l : List Int} {n : Nat} (h : rising l n) : l.length ≤ n := by
  rcases Nat.eq_zero_or_pos l.length with e | e
  · omega
  · have h1 := rising_low h (l.length - 1) (by omega)
    have h2 := (h (l.length - 1) (by omega)).2.1
    omega
theorem failV_len {t : Topo} {f : Fail} (h : failV t f) : f.links.xs.length ≤ 24 ∧ f.devs.xs.length ≤ 12 := by
  have h1 := rising_len h.1.2
  have h2 := rising_len h.2
  have hb := h.1.1.1
  unfold topB at hb
  omega
section
variable {t : Topo} {f g : Fail} {i : Nat}
/-- a bridge: usable, and its ends are divided without it -/
def bridge (t : Topo) (f : Fail) (i : Nat) : Prop := usableR t f (i : Nat) ∧ ¬ cv t f (i : Nat) (lnk t (i : Nat)).a.toNat = cv t f (i : Nat) (lnk t (i : Nat)).b.toNat
end
noncomputable instance (t : Topo) (f : Fail) (i : Nat) : Decidable (bridge t f i) := Classical.propDecidable _
end Go.Proofs.Ytfanmniaolncbaa.V
/- The tolerated failure states, as lists of elements. -/
namespace Go.Proofs.Ytfanmniaolncbaa.V
open Go.RowKit
def elems (t : Topo) : Nat := t.devs.xs.length + t.links.xs.length
end Go.Proofs.Ytfanmniaolncbaa.V
/- What the generator makes: plain facts. -/
namespace Go.Proofs.Ytfanmniaolncbaa.V
open Go.RowKit
def hugeT (t : Topo) : Prop := ((6 < t.devs.xs.length ∨ 9 < t.links.xs.length) ∨ 5 < t.edges.xs.length) ∨ 4 < t.pools.xs.length
instance (t : Topo) : Decidable (hugeT t) := inferInstanceAs (Decidable (_ ∨ _))
/-- a failure state whose elements are those of a topology -/
def failR (t : Topo) (f : Fail) : Prop := rising f.links.xs t.links.xs.length ∧ rising f.devs.xs t.devs.xs.length
theorem failR_valid {t : Topo} {f : Fail} (h : failR t f) (hv : topV t) : failV t f := ⟨⟨hv, h.1⟩, h.2⟩
/-- ascending numbers below k -/
def upTo (k : Nat) (l : List Int) : Prop := l.Pairwise (· < ·) ∧ ∀ x ∈ l, 0 ≤ x ∧ x < (k : Int)
theorem upTo_nil : upTo 0 [] := ⟨List.Pairwise.nil, fun x h => by simp at h⟩
theorem upTo_up {k : Nat} {l : List Int} (h : upTo k l) : upTo (k + 1) l := ⟨h.1, fun x hx => by have := h.2 x hx; omega⟩
theorem upTo_snoc {k : Nat} {l : List Int} (h : upTo k l) : upTo (k + 1) (l ++ [((k : Nat) : Int)]) :=
  ⟨List.pairwise_append.2 ⟨h.1, List.pairwise_singleton _ _, fun y hy z hz => by rw [List.mem_singleton.1 hz]; exact (h.2 y hy).2⟩, fun x hx => by
    rcases List.mem_append.1 hx with g | g
    · have := h.2 x g; omega
    · rw [List.mem_singleton.1 g]; omega⟩
theorem upTo_rising {k n : Nat} {l : List Int} (h : upTo k l) (hk : k ≤ n) : rising l n := rising_iff.2 ⟨h.1, fun x hx => by have := h.2 x hx; omega⟩
theorem upTo_len {k : Nat} {l : List Int} (h : upTo k l) : l.length ≤ k := rising_len (upTo_rising h (Nat.le_refl _))
def subnets : List Pfx := [⟨167772160, 24⟩, ⟨167772416, 24⟩, ⟨167772672, 25⟩, ⟨167772800, 26⟩, ⟨2886729728, 16⟩, ⟨3232237321, 32⟩]
def subnet (n : Int) : Pfx := subnets.getD n.toNat ⟨0, 0⟩
theorem getD_all {α : Type} {P : α → Prop} {l : List α} {d : α} (i : Nat) (h : ∀ x ∈ l, P x) (hd : P d) : P (l.getD i d) := by
  rcases Nat.lt_or_ge i l.length with g | g
  · exact h _ (getD_mem g)
  · rw [List.getD_eq_getElem?_getD, List.getElem?_eq_none g]; exact hd
/-- names, decided -/
def vnB (s : ByteArray) : Bool := decide (s.size ≠ 0) && decide (s.size ≤ 24) && decide (s ≠ ⟨#[97, 110, 121]⟩) && decide (97 ≤ bt s 0 ∧ bt s 0 ≤ 122) && s.data.toList.all fun b => decide ((97 ≤ b.toNat ∧ b.toNat ≤ 122) ∨ (48 ≤ b.toNat ∧ b.toNat ≤ 57) ∨ b.toNat = 45 ∨ b.toNat = 95)
theorem vname_of {s : ByteArray} (h : vnB s = true) : vname s := by
  simp only [vnB, Bool.and_eq_true, decide_eq_true_eq, List.all_eq_true] at h
  obtain ⟨⟨⟨⟨h1, h2⟩, h3⟩, h4⟩, h5⟩ := h
  refine ⟨fun e => h1 (by subst e; rfl), h2, h3, h4, fun i hi => ?_⟩
  have hm : s.data.toList.getD i 0 ∈ s.data.toList := getD_mem (by simpa using hi)
  have := h5 _ hm
  unfold okc bt
  omega
def rnames : List ByteArray := [⟨#[114, 49]⟩, ⟨#[114, 50]⟩, ⟨#[114, 51]⟩, ⟨#[114, 52]⟩, ⟨#[114, 53]⟩, ⟨#[114, 54]⟩]
def enames : List ByteArray := [⟨#[101, 49]⟩, ⟨#[101, 50]⟩, ⟨#[101, 51]⟩, ⟨#[101, 52]⟩, ⟨#[101, 53]⟩]
def okDev (j : Nat) (d : Dev) : Prop := d.name = rnames.getD j ⟨#[]⟩ ∧ 0 ≤ d.cap ∧ d.cap ≤ 4096 ∧ (d.cls = ⟨#[]⟩ ∨ vname d.cls)
def okEdg (n j : Nat) (e : Edg) : Prop := e.name = enames.getD j ⟨#[]⟩ ∧ (0 ≤ e.dev ∧ e.dev < n) ∧ vname e.zone ∧ e.pfx = subnet j ∧ e.planned = false
def pool1 : Pfx := ⟨168296448, 22⟩
def pool2 : Pfx := ⟨167772672, 24⟩
def okPools (ps : List Pfx) : Prop := ps = [] ∨ ps = [pool1] ∨ ps = [pool2] ∨ ps = [pool1, pool2]
theorem idx_inj {α β : Type} [DecidableEq β] {f : α → β} {l : List α} {d : α} {N : List β} {e : β} (hN : l.length ≤ N.length) (hl : ∀ j, j < l.length → f (l.getD j d) = N.getD j e) (hd : N.Nodup) (i : Nat) (hi : i < l.length) : idxOf (fun x => decide (f x = f (l.getD i d))) l = (i : Int) := by
  refine idxOf_some (d := d) hi (decide_eq_true rfl) fun j hj => decide_eq_false fun h => ?_
  rw [hl j (by omega), hl i hi] at h
  rw [List.getD_eq_getElem?_getD, List.getD_eq_getElem?_getD, List.getElem?_eq_getElem (by omega), List.getElem?_eq_getElem (by omega)] at h
  exact List.pairwise_iff_getElem.1 hd j i (by omega) (by omega) hj h
theorem rnames_valid : ∀ j, j < 6 → vname (rnames.getD j ⟨#[]⟩) := fun j hj => by
  have : ∀ x ∈ rnames, vname x := by
    intro x hx
    simp only [rnames, List.mem_cons, List.not_mem_nil, or_false] at hx
    rcases hx with rfl | rfl | rfl | rfl | rfl | rfl <;> exact vname_of (by decide)
  exact this _ (getD_mem hj)
theorem enames_valid : ∀ j, j < 5 → vname (enames.getD j ⟨#[]⟩) := fun j hj => by
  have : ∀ x ∈ enames, vname x := by
    intro x hx
    simp only [enames, List.mem_cons, List.not_mem_nil, or_false] at hx
    rcases hx with rfl | rfl | rfl | rfl | rfl <;> exact vname_of (by decide)
  exact this _ (getD_mem hj)
theorem subnets_fine : ∀ j, j < 5 → pfxV (subnet (j : Nat)) ∧ 0 < (subnet (j : Nat)).bits ∧ ∀ i, i < j → ¬ meets (subnet (j : Nat)) (subnet (i : Nat)) := by decide
theorem pools_fine : pfxV pool1 ∧ pfxV pool2 ∧ ¬ meets pool2 pool1 := by decide
theorem gen_valid {t : Topo} {n : Nat} (h1 : 1 ≤ n) (h6 : n ≤ 6) (hd : t.devs.xs.length = n) (hd2 : ∀ j, j < n → okDev j (t.devs.xs.getD j devE.dflt)) (hl : t.links.xs.length ≤ 9) (hl2 : ∀ l ∈ t.links.xs, lnkV n l)
    (he : t.edges.xs.length ≤ 5) (he2 : ∀ j, j < t.edges.xs.length → okEdg n j (t.edges.xs.getD j edgE.dflt)) (hp : okPools t.pools.xs) (ht : 0 ≤ t.tol ∧ t.tol ≤ 2) : topV t := by
  have hpl : t.pools.xs.length ≤ 2 := by rcases hp with h | h | h | h <;> rw [h] <;> decide
  refine ⟨by unfold topB; omega, fun i hi => ⟨?_, ?_⟩, fun i hi => by rw [hd]; exact hl2 _ (getD_mem hi), fun i hi => ⟨?_, ?_⟩, fun i hi j hj => ?_, fun i hi => ⟨?_, fun j hj => ?_⟩⟩
  · obtain ⟨a, b, c, d⟩ := hd2 i (by omega)
    exact ⟨by rw [a]; exact rnames_valid i (by omega), b, c, d⟩
  · exact idx_inj (f := fun d : Dev => d.name) (N := rnames) (e := ⟨#[]⟩) (by show _ ≤ 6; omega) (fun j hj => (hd2 j (by omega)).1) (by decide) i hi
  · obtain ⟨a, b, c, d, e⟩ := he2 i hi
    have := subnets_fine i (by omega)
    exact ⟨by rw [hd]; exact b, ⟨by rw [a]; exact enames_valid i (by omega), c⟩, by rw [d]; exact this.1, by rw [d]; exact this.2.1, .inl (by rw [e]; simp)⟩
  · exact idx_inj (f := fun d : Edg => d.name) (N := enames) (e := ⟨#[]⟩) (by show _ ≤ 5; omega) (fun j hj => (he2 j hj).1) (by decide) i hi
  · rintro ⟨_, hm⟩
    rw [(he2 i hi).2.2.2.1, (he2 j (by omega)).2.2.2.1] at hm
    exact (subnets_fine i (by omega)).2.2 j hj hm
  · rcases hp with h | h | h | h <;> rw [h] at hi ⊢
    · simp at hi
    · obtain rfl : i = 0 := by simpa using hi
      exact pools_fine.1
    · obtain rfl : i = 0 := by simpa using hi
      exact pools_fine.2.1
    · have : i = 0 ∨ i = 1 := by simp at hi; omega
      rcases this with rfl | rfl
      · exact pools_fine.1
      · exact pools_fine.2.1
  · rcases hp with h | h | h | h <;> rw [h] at hi ⊢
    · simp at hi
    · simp at hi; omega
    · simp at hi; omega
    · have : i = 1 ∧ j = 0 := by simp at hi; omega
      obtain ⟨rfl, rfl⟩ := this
      exact pools_fine.2.2
theorem classes_fine (i : Nat) : ([⟨#[]⟩, ⟨#[105, 112, 115]⟩, ⟨#[100, 108, 112]⟩] : List ByteArray).getD i ⟨#[]⟩ = ⟨#[]⟩ ∨ vname (([⟨#[]⟩, ⟨#[105, 112, 115]⟩, ⟨#[100, 108, 112]⟩] : List ByteArray).getD i ⟨#[]⟩) := by
  refine getD_all (P := fun s => s = ⟨#[]⟩ ∨ vname s) i (fun x hx => ?_) (.inl rfl)
  simp only [List.mem_cons, List.not_mem_nil, or_false] at hx
  rcases hx with rfl | rfl | rfl
  · exact .inl rfl
  · exact .inr (vname_of (by decide))
  · exact .inr (vname_of (by decide))
theorem caps_fine (i : Nat) : 0 ≤ ([4096, 400, 60, 20, 5, 0] : List Int).getD i 0 ∧ ([4096, 400, 60, 20, 5, 0] : List Int).getD i 0 ≤ 4096 := getD_all (P := fun x : Int => 0 ≤ x ∧ x ≤ 4096) i (by decide) (by decide)
theorem costs_fine (i : Nat) (h : i < 4) : 1 ≤ ([1, 2, 3, 1000] : List Int).getD i 0 ∧ ([1, 2, 3, 1000] : List Int).getD i 0 ≤ 1000 := by
  have : ∀ x ∈ ([1, 2, 3, 1000] : List Int), 1 ≤ x ∧ x ≤ 1000 := by decide
  exact this _ (getD_mem h)
theorem zones_fine (i : Nat) (h : i < 3) : vname (([⟨#[108, 97, 110]⟩, ⟨#[100, 109, 122]⟩, ⟨#[110, 101, 116]⟩] : List ByteArray).getD i ⟨#[]⟩) := by
  have : ∀ x ∈ ([⟨#[108, 97, 110]⟩, ⟨#[100, 109, 122]⟩, ⟨#[110, 101, 116]⟩] : List ByteArray), vname x := by
    intro x hx
    simp only [List.mem_cons, List.not_mem_nil, or_false] at hx
    rcases hx with rfl | rfl | rfl <;> exact vname_of (by decide)
  exact this _ (getD_mem h)
theorem counts_fine (i : Nat) : 0 ≤ ([2, 3, 4, 1, 5, 0] : List Int).getD i 0 ∧ ([2, 3, 4, 1, 5, 0] : List Int).getD i 0 ≤ 5 := getD_all (P := fun x : Int => 0 ≤ x ∧ x ≤ 5) i (by decide) (by decide)
theorem tols_fine (i : Nat) : 0 ≤ ([0, 1, 0, 1, 2] : List Int).getD i 0 ∧ ([0, 1, 0, 1, 2] : List Int).getD i 0 ≤ 2 := getD_all (P := fun x : Int => 0 ≤ x ∧ x ≤ 2) i (by decide) (by decide)
/-- what holds of a topology that the generator made -/
def genT (t : Topo) : Prop := topV t ∧ t.devs.xs.length ≤ 6 ∧ t.links.xs.length ≤ 9 ∧ t.edges.xs.length ≤ 5 ∧ t.pools.xs.length ≤ 2
theorem snocD {α : Type} {P : Nat → α → Prop} {xs : List α} {x d : α} {k : Nat} (hk : xs.length = k) (h : ∀ j, j < k → P j (xs.getD j d)) (hx : P k x) : ∀ j, j < k + 1 → P j ((xs ++ [x]).getD j d) := fun j hj => by
  rcases Nat.lt_succ_iff_lt_or_eq.1 hj with g | rfl
  · rw [List.getD_eq_getElem?_getD, List.getElem?_append_left (by omega), ← List.getD_eq_getElem?_getD]; exact h j g
  · rw [List.getD_eq_getElem?_getD, List.getElem?_append_right (by omega), hk, Nat.sub_self]; exact hx
theorem all_snoc {α : Type} {P : α → Prop} {xs : List α} {x : α} (h : ∀ y ∈ xs, P y) (hx : P x) : ∀ y ∈ xs ++ [x], P y := fun y hy => by
  rcases List.mem_append.1 hy with g | g
  · exact h y g
  · rw [List.mem_singleton.1 g]; exact hx
theorem lnk_mk {n : Nat} {a b c : Int} (h1 : 0 ≤ a) (h2 : a < b) (h3 : b < n) (h : 1 ≤ c ∧ c ≤ 1000) : lnkV n ⟨a, b, c⟩ := ⟨h1, h2, h3, h.1, h.2⟩
theorem edg_mk {n j : Nat} {nm zn : ByteArray} {dv : Int} {px : Pfx} (h1 : nm = enames.getD j ⟨#[]⟩) (h2 : 0 ≤ dv) (h3 : dv < n) (h4 : vname zn) (h5 : px = subnet (j : Nat)) : okEdg n j ⟨nm, dv, zn, px, false⟩ := ⟨h1, ⟨h2, h3⟩, h4, h5, rfl⟩
end Go.Proofs.Ytfanmniaolncbaa.V
/- The examples of the chapter: three devices connected by three links. -/
namespace Go.Proofs.Ytfanmniaolncbaa.V
open Go.RowKit
def triD : List Dev := [⟨⟨#[97]⟩, 0, false, false, ⟨#[]⟩⟩, ⟨⟨#[98]⟩, 0, false, false, ⟨#[]⟩⟩, ⟨⟨#[99]⟩, 0, false, false, ⟨#[]⟩⟩]
def triL : List Lnk := [⟨0, 1, 1⟩, ⟨1, 2, 1⟩, ⟨0, 2, 1⟩]
structure isTri (t : Topo) : Prop where
  d : t.devs.xs = triD
  l : t.links.xs = triL
  e : t.edges.xs = []
  p : t.pools.xs = []
  tol : t.tol = 1
section
variable {t : Topo} {f : Fail}
theorem tri_use (hf : f.devs.xs = []) (i : Int) : usableR t f i ↔ ¬ i ∈ f.links.xs := by
  unfold usableR; rw [hf]; simp
end
section
variable {t : Topo} {f : Fail} (h : isTri t)
include h
end
end Go.Proofs.Ytfanmniaolncbaa.V
