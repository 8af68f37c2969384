/- Next links and paths, plain. -/
import Derived.Test.YtfanmniaolncbaaPathM
import Derived.Test.YtfanmniaolncbaaGrpE
set_option linter.unusedVariables false
set_option linter.unusedSimpArgs false
namespace Go.Proofs.Ytfanmniaolncbaa.V
open Go.RowKit
open Classical in
/-- the first i < n with p, or -1 -/
noncomputable def firstI (p : Nat → Prop) : Nat → Int
  | 0 => -1
  | n + 1 => if 0 ≤ firstI p n then firstI p n else if p n then (n : Int) else -1
theorem firstI_none {p : Nat → Prop} : ∀ {n : Nat}, (∀ j, j < n → ¬ p j) → firstI p n = -1
  | 0, _ => rfl
  | n + 1, h => by
    have := firstI_none (p := p) (n := n) fun j hj => h j (by omega)
    rw [firstI, this, if_neg (by omega), if_neg (h n (by omega))]
theorem firstI_at {p : Nat → Prop} {k : Nat} : ∀ {n : Nat}, k < n → p k → (∀ j, j < k → ¬ p j) → firstI p n = (k : Int)
  | n + 1, hk, h, hn => by
    by_cases e : k = n
    · subst e
      rw [firstI, firstI_none hn, if_neg (by omega), if_pos h]
    · have := firstI_at (p := p) (n := n) (by omega) h hn
      rw [firstI, this, if_pos (by omega)]
theorem firstI_spec (p : Nat → Prop) (n : Nat) : firstI p n = -1 ∧ (∀ j, j < n → ¬ p j) ∨ ∃ k : Nat, k < n ∧ firstI p n = (k : Int) ∧ p k ∧ ∀ j, j < k → ¬ p j := by
  by_cases h : ∃ k, k < n ∧ p k
  · obtain ⟨k, ⟨h1, h2⟩, h3⟩ := exists_least h
    have h4 : ∀ j, j < k → ¬ p j := fun j hj hp => by have := h3 j ⟨by omega, hp⟩; omega
    exact .inr ⟨k, h1, firstI_at h1 h2 h4, h2, h4⟩
  · have h1 : ∀ j, j < n → ¬ p j := fun j hj hp => h ⟨j, hj, hp⟩
    exact .inl ⟨firstI_none h1, h1⟩
/-- link i leads from a nearer to z, as near as can be -/
def goes (t : Topo) (f : Fail) (z a i : Nat) : Prop := ∃ b, hop t f i a b ∧ 0 ≤ dOf t f z b ∧ dOf t f z b + cst t i = dOf t f z a
noncomputable def nextI (t : Topo) (f : Fail) (z a : Nat) : Int := firstI (goes t f z a) t.links.xs.length
def K2 (t : Topo) (f : Fail) (a z : Int) : Prop := (failV t f ∧ (0 ≤ a ∧ a < t.devs.xs.length)) ∧ 0 ≤ z ∧ z < t.devs.xs.length
open Classical in
noncomputable def nextV (t : Topo) (f : Fail) (a z : Int) : Int := if K2 t f a z then nextI t f z.toNat a.toNat else -1
noncomputable def pathD (t : Topo) (f : Fail) (z : Nat) : Nat → Nat → List Int
  | 0, a => [(a : Int)]
  | k + 1, a => if 0 ≤ nextI t f z a then (a : Int) :: pathD t f z k (otherOf (lnk t (nextI t f z a)) a).toNat else [(a : Int)]
noncomputable def linkD (t : Topo) (f : Fail) (z : Nat) : Nat → Nat → List Int
  | 0, _ => []
  | k + 1, a => if 0 ≤ nextI t f z a then nextI t f z a :: linkD t f z k (otherOf (lnk t (nextI t f z a)) a).toNat else []
noncomputable def pathL (t : Topo) (f : Fail) (z a : Nat) : List Int := pathD t f z (dOf t f z a).toNat a
noncomputable def linkL (t : Topo) (f : Fail) (z a : Nat) : List Int := linkD t f z (dOf t f z a).toNat a
open Classical in
noncomputable def pathV (t : Topo) (f : Fail) (a z : Int) : List Int := if K2 t f a z ∧ 0 ≤ dOf t f z.toNat a.toNat then pathL t f z.toNat a.toNat else []
open Classical in
noncomputable def linkV (t : Topo) (f : Fail) (a z : Int) : List Int := if K2 t f a z ∧ 0 ≤ dOf t f z.toNat a.toNat then linkL t f z.toNat a.toNat else []
section
variable {t : Topo} {f : Fail} {z : Nat}
theorem hop_other (hV : topV t) {i a b : Nat} (h : hop t f i a b) : otherOf (lnk t (i : Nat)) a = b ∧ otherTo (lnk t (i : Nat)) a = b := by
  have := hop_facts hV h
  obtain ⟨_, _, h3⟩ := h
  unfold otherOf otherTo
  constructor <;> (split <;> (try split) <;> omega)
theorem next_cases (hV : topV t) (a : Nat) : (dOf t f z a ≤ 0 ∧ nextI t f z a = -1) ∨ ∃ i b : Nat, nextI t f z a = (i : Int) ∧ i < t.links.xs.length ∧ hop t f i a b ∧ 0 ≤ dOf t f z b ∧ dOf t f z b + cst t i = dOf t f z a ∧ ∀ j, j < i → ¬ goes t f z a j := by
  rcases firstI_spec (goes t f z a) t.links.xs.length with ⟨h1, h2⟩ | ⟨k, h1, h2, ⟨b, h3, h4, h5⟩, h6⟩
  · refine .inl ⟨?_, h1⟩
    apply Classical.byContradiction
    intro h
    have hz : a ≠ z := by
      rintro rfl
      obtain ⟨_, _, w, _⟩ := dOf_pos (t := t) (f := f) (z := a) (d := a) (by omega)
      have := dOf_self w.goal.1 w.goal.2
      omega
    obtain ⟨i, b, g1, g2, g3⟩ := dOf_first (t := t) (f := f) (z := z) (d := a) (by omega) hz
    exact h2 i g1.1 ⟨b, g1, g2, g3.symm⟩
  · exact .inr ⟨k, b, h2, h1, h3, h4, h5, h6⟩
theorem pathD_eq (hV : topV t) : ∀ (k k' a : Nat), dOf t f z a ≤ k → dOf t f z a ≤ k' → pathD t f z k a = pathD t f z k' a ∧ linkD t f z k a = linkD t f z k' a
  | 0, k', a, h, _ => by
    rcases next_cases (f := f) (z := z) hV a with ⟨_, h2⟩ | ⟨i, b, _, _, g1, g2, g3, _⟩
    · cases k' with
      | zero => exact ⟨rfl, rfl⟩
      | succ k' => simp only [pathD, linkD]; rw [h2, if_neg (by omega), if_neg (by omega)]; exact ⟨rfl, rfl⟩
    · have := hop_facts hV g1; omega
  | k + 1, 0, a, _, h => by
    rcases next_cases (f := f) (z := z) hV a with ⟨_, h2⟩ | ⟨i, b, _, _, g1, g2, g3, _⟩
    · simp only [pathD, linkD]; rw [h2, if_neg (by omega), if_neg (by omega)]; exact ⟨rfl, rfl⟩
    · have := hop_facts hV g1; omega
  | k + 1, k' + 1, a, h, h' => by
    rcases next_cases (f := f) (z := z) hV a with ⟨_, h2⟩ | ⟨i, b, h2, _, g1, g2, g3, _⟩
    · simp only [pathD, linkD]; rw [h2]; simp
    · have := hop_facts hV g1
      have ih := pathD_eq hV k k' b (by omega) (by omega)
      simp only [pathD, linkD]
      rw [h2, (hop_other hV g1).1, Int.toNat_natCast, if_pos (by omega), if_pos (by omega), if_pos (by omega), if_pos (by omega), ih.1, ih.2]
      exact ⟨rfl, rfl⟩
theorem path_stop (hV : topV t) {a : Nat} (h : dOf t f z a ≤ 0) : pathL t f z a = [(a : Int)] ∧ linkL t f z a = [] := by
  have e : (dOf t f z a).toNat = 0 := by omega
  unfold pathL linkL
  rw [e]; exact ⟨rfl, rfl⟩
theorem path_go (hV : topV t) {a b i : Nat} (hn : nextI t f z a = (i : Int)) (hh : hop t f i a b) (hb : 0 ≤ dOf t f z b) (hd : dOf t f z b + cst t i = dOf t f z a) : pathL t f z a = (a : Int) :: pathL t f z b ∧ linkL t f z a = (i : Int) :: linkL t f z b := by
  have := hop_facts hV hh
  obtain ⟨k, hk⟩ : ∃ k, (dOf t f z a).toNat = k + 1 := ⟨(dOf t f z a).toNat - 1, by omega⟩
  have ih := pathD_eq (t := t) (f := f) (z := z) hV k (dOf t f z b).toNat b (by omega) (by omega)
  have ho := (hop_other hV hh).1
  unfold pathL linkL
  rw [hk, ← ih.1, ← ih.2]
  simp only [pathD, linkD]
  rw [hn, ho, Int.toNat_natCast, if_pos (by omega), if_pos (by omega)]
  exact ⟨rfl, rfl⟩
/-- the links that lead to z, one after the other -/
inductive Trail (t : Topo) (f : Fail) (z : Nat) : Nat → List Int → List Int → Prop
  | stop : dOf t f z z = 0 → Trail t f z z [(z : Int)] []
  | go {a b i : Nat} {P L : List Int} : nextI t f z a = (i : Int) → hop t f i a b → 0 ≤ dOf t f z b → dOf t f z b + cst t i = dOf t f z a → Trail t f z b P L → Trail t f z a ((a : Int) :: P) ((i : Int) :: L)
theorem trail_of (hV : topV t) : ∀ (n a : Nat), dOf t f z a = (n : Int) → Trail t f z a (pathL t f z a) (linkL t f z a)
  | n, a, h => by
    rcases next_cases (f := f) (z := z) hV a with ⟨h1, h2⟩ | ⟨i, b, h2, _, g1, g2, g3, _⟩
    · have hz : a = z := dOf_zero (t := t) (f := f) (z := z) hV (by omega)
      subst hz
      obtain ⟨e1, e2⟩ := path_stop (f := f) (z := a) hV h1
      rw [e1, e2]
      exact .stop (by omega)
    · have := hop_facts hV g1
      obtain ⟨e1, e2⟩ := path_go hV h2 g1 g2 g3
      rw [e1, e2]
      exact .go h2 g1 g2 g3 (trail_of hV (n - cst t i) b (by omega))
  termination_by n => n
  decreasing_by omega
theorem Trail.len {a : Nat} {P L : List Int} (T : Trail t f z a P L) : P.length = L.length + 1 := by
  induction T with
  | stop => rfl
  | go _ _ _ _ _ ih => simp [ih]
theorem Trail.head {a : Nat} {P L : List Int} (T : Trail t f z a P L) : P.getD 0 0 = (a : Int) := by cases T <;> rfl
theorem Trail.last {a : Nat} {P L : List Int} (T : Trail t f z a P L) : P.getD L.length 0 = (z : Int) := by
  induction T with
  | stop => rfl
  | go _ _ _ _ _ ih => simpa using ih
theorem Trail.pos {a : Nat} {P L : List Int} (T : Trail t f z a P L) : 0 ≤ dOf t f z a := by
  cases T with
  | stop h => omega
  | go _ _ h k _ => omega
/-- what lies at each place -/
theorem Trail.at {a : Nat} {P L : List Int} (T : Trail t f z a P L) : ∀ i, i < L.length → ∃ x y k : Nat, P.getD i 0 = (x : Int) ∧ P.getD (i + 1) 0 = (y : Int) ∧ L.getD i 0 = (k : Int) ∧ nextI t f z x = (k : Int) ∧ hop t f k x y ∧ 0 ≤ dOf t f z y ∧ dOf t f z y + cst t k = dOf t f z x := by
  induction T with
  | stop => intro i h; simp at h
  | @go a b k P L h1 h2 h3 h4 T ih =>
    intro i hi
    cases i with
    | zero => exact ⟨a, b, k, rfl, by simpa using T.head, rfl, h1, h2, h3, h4⟩
    | succ i =>
      obtain ⟨x, y, m, g⟩ := ih i (by simpa using hi)
      exact ⟨x, y, m, by simpa using g⟩
/-- distances fall along the way -/
theorem Trail.falls (hV : topV t) {a : Nat} {P L : List Int} (T : Trail t f z a P L) : ∀ i j, j ≤ i → i ≤ L.length → dOf t f z (P.getD i 0).toNat + (i - j : Nat) ≤ dOf t f z (P.getD j 0).toNat := by
  intro i
  induction i with
  | zero => intro j hj _; obtain rfl : j = 0 := by omega
            simp
  | succ i ih =>
    intro j hj hi
    by_cases e : j = i + 1
    · subst e; simp
    · have h1 := ih j (by omega) (by omega)
      obtain ⟨x, y, k, g1, g2, g3, g4, g5, g6, g7⟩ := T.at i (by omega)
      have := hop_facts hV g5
      rw [g1, Int.toNat_natCast] at h1
      rw [g2, Int.toNat_natCast]
      omega
theorem Trail.apart (hV : topV t) {a : Nat} {P L : List Int} (T : Trail t f z a P L) {i j : Nat} (hj : j < i) (hi : i ≤ L.length) : P.getD j 0 ≠ P.getD i 0 := fun e => by
  have := T.falls hV i j (by omega) hi
  rw [e] at this
  omega
theorem Trail.sub {a : Nat} {P L : List Int} (T : Trail t f z a P L) : ∀ i, i ≤ L.length → ∃ x : Nat, P.getD i 0 = (x : Int) ∧ Trail t f z x (P.drop i) (L.drop i) := by
  induction T with
  | stop h => intro i hi; obtain rfl : i = 0 := by simpa using hi
              exact ⟨z, rfl, .stop h⟩
  | @go a b k P L h1 h2 h3 h4 T ih =>
    intro i hi
    cases i with
    | zero => exact ⟨a, rfl, .go h1 h2 h3 h4 T⟩
    | succ i =>
      obtain ⟨x, g1, g2⟩ := ih i (by simpa using hi)
      exact ⟨x, by simpa using g1, g2⟩
theorem Trail.is (hV : topV t) {a : Nat} {P L : List Int} (T : Trail t f z a P L) : P = pathL t f z a ∧ L = linkL t f z a := by
  induction T with
  | stop h => obtain ⟨e1, e2⟩ := path_stop (f := f) (z := z) (a := z) hV (by omega)
              rw [e1, e2]; exact ⟨rfl, rfl⟩
  | go h1 h2 h3 h4 T ih =>
    obtain ⟨e1, e2⟩ := path_go hV h1 h2 h3 h4
    rw [e1, e2, ← ih.1, ← ih.2]; exact ⟨rfl, rfl⟩
/-! ### distances and being connected -/
theorem Way.trans {y d c c' : Nat} (h : Way t f z d c) (k : Way t f y z c') : Way t f y d (c + c') := by
  induction h with
  | stay _ _ => rw [Nat.zero_add]; exact k
  | @step i a b c hh _ ih => rw [show c + cst t i + c' = c + c' + cst t i from by omega]; exact .step hh ih
theorem way_conn' {d c : Nat} (w : Way t f z d c) : Conn (linkR t f (-1) t.links.xs.length) d z := by
  induction w with
  | stay => exact .refl _
  | @step i a b c hh _ ih =>
    obtain ⟨h0, hu, hab⟩ := hh
    exact (Conn.step (.refl a) (hab.imp (fun h => ⟨i, h0, by omega, hu, h.1, h.2⟩) fun h => ⟨i, h0, by omega, hu, h.1, h.2⟩)).trans ih
theorem way_conn {d : Nat} (h : 0 ≤ dOf t f z d) : Conn (linkR t f (-1) t.links.xs.length) d z := let ⟨_, _, w, _⟩ := dOf_pos h; way_conn' w
theorem conn_way {d : Nat} (hz : z < t.devs.xs.length) (ha : ¬ ((z : Nat) : Int) ∈ f.devs.xs) (h : Conn (linkR t f (-1) t.links.xs.length) d z) : 0 ≤ dOf t f z d := by
  replace h := h.symm
  have : ∃ c, Way t f z d c := by
    induction h with
    | refl => exact ⟨0, .stay hz ha⟩
    | step _ r ih =>
      obtain ⟨c, w⟩ := ih
      rcases r with ⟨i, h0, _, hu, h1, h2⟩ | ⟨i, h0, _, hu, h1, h2⟩
      · exact ⟨_, .step ⟨h0, hu, .inr ⟨h1, h2⟩⟩ w⟩
      · exact ⟨_, .step ⟨h0, hu, .inl ⟨h1, h2⟩⟩ w⟩
  obtain ⟨c, w⟩ := this
  exact (dOf_way w).1
theorem conn_iff (hV : topV t) (hF : failV t f) {a b : Int} : connV t f a b ↔ K2 t f a b ∧ 0 ≤ dOf t f b.toNat a.toNat := by
  have al : ∀ {x : Int}, 0 ≤ x → x < t.devs.xs.length → (aliveV t f x ↔ ¬ x ∈ f.devs.xs) := fun {x} h0 h1 => by
    have := alive_iff hF (i := x.toNat) (by omega)
    rwa [show ((x.toNat : Nat) : Int) = x from by omega] at this
  have nm : ∀ {x : Int}, 0 ≤ x → ((x.toNat : Nat) : Int) = x := fun h => by omega
  constructor
  · rintro ⟨⟨h1, h2⟩, h3⟩
    obtain ⟨⟨⟨_, a0⟩, a1⟩, a2⟩ := h1
    obtain ⟨⟨⟨_, b0⟩, b1⟩, b2⟩ := h2
    refine ⟨⟨⟨hF, a0, a1⟩, b0, b1⟩, conn_way (by omega) (by rw [nm b0]; exact b2) ?_⟩
    unfold cv at h3
    rw [nm a0, nm b0, if_neg a2, if_neg b2] at h3
    exact lab_eq.1 (by omega)
  · rintro ⟨⟨⟨_, a0, a1⟩, b0, b1⟩, h⟩
    have a2 := dOf_alive hV h
    obtain ⟨_, _, w, _⟩ := dOf_pos h
    have b2 := w.goal.2
    rw [nm a0] at a2
    rw [nm b0] at b2
    refine ⟨⟨(al a0 a1).2 a2, (al b0 b1).2 b2⟩, ?_⟩
    unfold cv
    rw [nm a0, nm b0, if_neg a2, if_neg b2, lab_eq.2 (way_conn h)]
end
/-! ### next links over a list of distances, as the walks compute them -/
def goesD (t : Topo) (f : Fail) (ds : List Int) (a i : Nat) : Prop := ∃ b, hop t f i a b ∧ 0 ≤ ds.getD b 0 ∧ ds.getD b 0 + cst t i = ds.getD a 0
noncomputable def nextDs (t : Topo) (f : Fail) (ds : List Int) (a : Nat) : Int := firstI (goesD t f ds a) t.links.xs.length
noncomputable def devDs (t : Topo) (f : Fail) (ds : List Int) (a : Int) : Int := if 0 ≤ nextDs t f ds a.toNat then otherTo (lnk t (nextDs t f ds a.toNat)) a else a
theorem firstI_congr {p q : Nat → Prop} : ∀ {n : Nat}, (∀ i, i < n → (p i ↔ q i)) → firstI p n = firstI q n
  | 0, _ => rfl
  | n + 1, h => by
    have ih := firstI_congr (p := p) (q := q) (n := n) fun i hi => h i (by omega)
    rw [firstI, firstI, ih]
    have := h n (by omega)
    by_cases e : q n
    · rw [if_pos e, if_pos (this.2 e)]
    · rw [if_neg e, if_neg fun k => e (this.1 k)]
section
variable {t : Topo} {f : Fail} {z : Nat} {ds : List Int}
theorem nextDs_eq (hV : topV t) (a : Nat) : nextDs t f (distsOf t f z) a = nextI t f z a := firstI_congr fun i _ => by
  constructor
  · rintro ⟨b, h1, h2, h3⟩
    have := hop_facts hV h1
    rw [dists_at this.2.1] at h2 h3
    rw [dists_at this.1] at h3
    exact ⟨b, h1, h2, h3⟩
  · rintro ⟨b, h1, h2, h3⟩
    have := hop_facts hV h1
    refine ⟨b, h1, ?_, ?_⟩
    · rw [dists_at this.2.1]; exact h2
    · rw [dists_at this.2.1, dists_at this.1]; exact h3
theorem goesD_to (hV : topV t) {k : Nat} (hk : k < t.links.xs.length) {a : Int} (ha : 0 ≤ a) : goesD t f ds a.toNat k ↔ ((((t.links.xs.getD k lnkE.dflt).a = a ∨ (t.links.xs.getD k lnkE.dflt).b = a) ∧ usableR t f (k : Nat)) ∧ 0 ≤ ds.getD (otherTo (t.links.xs.getD k lnkE.dflt) a).toNat 0) ∧ (t.links.xs.getD k lnkE.dflt).cost + ds.getD (otherTo (t.links.xs.getD k lnkE.dflt) a).toNat 0 = ds.getD a.toNat 0 := by
  have hl := topV_link hV hk
  have e : t.links.xs.getD k lnkE.dflt = lnk t (k : Nat) := rfl
  rw [e] at hl ⊢
  have hn : ((a.toNat : Nat) : Int) = a := by omega
  constructor
  · rintro ⟨b, h1, h2, h3⟩
    have h4 := hop_facts hV h1
    have h5 := (hop_other hV h1).2
    rw [hn] at h5
    obtain ⟨_, h6, h7⟩ := h1
    rw [hn] at h7
    rw [h5, Int.toNat_natCast]
    exact ⟨⟨⟨h7.imp (·.1) (·.2), h6⟩, h2⟩, by omega⟩
  · rintro ⟨⟨⟨h1, h2⟩, h3⟩, h4⟩
    have hl2 := hl
    unfold lnkV at hl2
    have h5 : 0 ≤ otherTo (lnk t (k : Nat)) a ∧ ((lnk t (k : Nat)).a = a ∧ (lnk t (k : Nat)).b = otherTo (lnk t (k : Nat)) a ∨ (lnk t (k : Nat)).a = otherTo (lnk t (k : Nat)) a ∧ (lnk t (k : Nat)).b = a) := by
      unfold otherTo; split <;> (try split) <;> omega
    have hh : hop t f k a.toNat (otherTo (lnk t (k : Nat)) a).toNat := ⟨hk, h2, by rw [hn, show (((otherTo (lnk t (k : Nat)) a).toNat : Nat) : Int) = otherTo (lnk t (k : Nat)) a from by omega]; exact h5.2⟩
    have h6 := hop_facts hV hh
    exact ⟨_, hh, h3, by omega⟩
theorem goesD_of (hV : topV t) {k : Nat} (hk : k < t.links.xs.length) {a : Int} (ha : 0 ≤ a) : goesD t f ds a.toNat k ↔ ((usableR t f (k : Nat) ∧ 0 ≤ otherOf (t.links.xs.getD k lnkE.dflt) a) ∧ 0 ≤ ds.getD (otherOf (t.links.xs.getD k lnkE.dflt) a).toNat 0) ∧ ds.getD (otherOf (t.links.xs.getD k lnkE.dflt) a).toNat 0 + (t.links.xs.getD k lnkE.dflt).cost = ds.getD a.toNat 0 := by
  rw [goesD_to hV hk ha]
  have hl := topV_link hV hk
  have e : t.links.xs.getD k lnkE.dflt = lnk t (k : Nat) := rfl
  rw [e] at hl ⊢
  unfold lnkV at hl
  have h5 : ((lnk t (k : Nat)).a = a ∨ (lnk t (k : Nat)).b = a) ∧ otherTo (lnk t (k : Nat)) a = otherOf (lnk t (k : Nat)) a ∧ 0 ≤ otherOf (lnk t (k : Nat)) a ∨ ¬ ((lnk t (k : Nat)).a = a ∨ (lnk t (k : Nat)).b = a) ∧ ¬ 0 ≤ otherOf (lnk t (k : Nat)) a := by
    unfold otherTo otherOf; split <;> (try split) <;> omega
  rcases h5 with ⟨h1, h2, h3⟩ | ⟨h1, h2⟩
  · rw [h2]
    constructor
    · rintro ⟨⟨⟨_, g1⟩, g2⟩, g3⟩; exact ⟨⟨⟨g1, h3⟩, g2⟩, by omega⟩
    · rintro ⟨⟨⟨g1, _⟩, g2⟩, g3⟩; exact ⟨⟨⟨h1, g1⟩, g2⟩, by omega⟩
  · constructor
    · rintro ⟨⟨⟨g, _⟩, _⟩, _⟩; exact absurd g h1
    · rintro ⟨⟨⟨_, g⟩, _⟩, _⟩; exact absurd g h2
theorem nextDs_no (hV : topV t) {a : Nat} (h : ds.getD a 0 ≤ 0) : nextDs t f ds a = -1 := firstI_none fun j _ ⟨b, h1, h2, h3⟩ => by
  have := hop_facts hV h1
  omega
theorem other_bd {n : Nat} {l : Lnk} {d : Int} (hl : lnkV n l) : 0 ≤ otherTo l d ∧ otherTo l d < n := by
  unfold lnkV at hl; unfold otherTo; split <;> (try split) <;> omega
theorem known1 {d : Int} : ((∀ j, j < [d].length → 0 ≤ [d].getD j intE.dflt ∧ [d].getD j intE.dflt < (t.devs.xs.length : Int)) ∧ failV t f) ↔ ((failV t f ∧ 0 ≤ d) ∧ d < t.devs.xs.length) :=
  ⟨fun h => ⟨⟨h.2, (h.1 0 (by simp)).1⟩, (h.1 0 (by simp)).2⟩, fun h => ⟨fun j hj => by simp at hj; subst hj; exact ⟨h.1.2, h.2⟩, h.1.1⟩⟩
theorem known2 {a d : Int} : ((∀ j, j < [a, d].length → 0 ≤ [a, d].getD j intE.dflt ∧ [a, d].getD j intE.dflt < (t.devs.xs.length : Int)) ∧ failV t f) ↔ K2 t f a d :=
  ⟨fun h => ⟨⟨h.2, h.1 0 (by simp)⟩, h.1 1 (by simp)⟩, fun h => ⟨fun j hj => by
    match j, hj with
    | 0, _ => exact h.1.2
    | 1, _ => exact h.2, h.1.1⟩⟩
theorem distV_of {a d : Int} (h : K2 t f a d) : distV t f d = distsOf t f d.toNat := by unfold distV; exact if_pos ⟨⟨h.1.1, h.2.1⟩, h.2.2⟩
theorem dists_le (hV : topV t) (d : Nat) : (distsOf t f z).getD d 0 ≤ 12000 := by
  rcases Nat.lt_or_ge d t.devs.xs.length with h | h
  · rw [dists_at h]; exact dOf_le hV d
  · rw [List.getD_eq_getElem?_getD, List.getElem?_eq_none (by rw [dists_len]; exact h)]; show (0 : Int) ≤ 12000; omega
theorem next_self (hV : topV t) : nextI t f z z = -1 := by
  rcases next_cases (f := f) (z := z) hV z with ⟨_, h⟩ | ⟨i, b, _, _, h3, h4, h5, _⟩
  · exact h
  · have := hop_facts hV h3
    obtain ⟨_, _, w, _⟩ := dOf_pos h4
    have := dOf_self w.goal.1 w.goal.2
    omega
theorem pv_cases (t : Topo) (f : Fail) (a z : Int) : (¬ (K2 t f a z ∧ 0 ≤ dOf t f z.toNat a.toNat) ∧ pathV t f a z = [] ∧ linkV t f a z = []) ∨ (K2 t f a z ∧ 0 ≤ dOf t f z.toNat a.toNat ∧ Trail t f z.toNat a.toNat (pathV t f a z) (linkV t f a z)) := by
  by_cases h : K2 t f a z ∧ 0 ≤ dOf t f z.toNat a.toNat
  · refine .inr ⟨h.1, h.2, ?_⟩
    unfold pathV linkV
    rw [if_pos h, if_pos h]
    exact trail_of h.1.1.1.1.1 _ _ (Int.toNat_of_nonneg h.2).symm
  · refine .inl ⟨h, ?_, ?_⟩
    · unfold pathV; exact if_neg h
    · unfold linkV; exact if_neg h
theorem path_small (t : Topo) (f : Fail) (a z : Int) : (pathV t f a z).length ≤ 12001 := by
  rcases pv_cases t f a z with ⟨_, h, _⟩ | ⟨hK, _, T⟩
  · rw [h]; simp
  · have hV : topV t := hK.1.1.1.1
    have h1 := T.falls hV _ 0 (Nat.zero_le _) (Nat.le_refl _)
    rw [T.last, T.head, Int.toNat_natCast, Int.toNat_natCast] at h1
    have h2 := dOf_le (f := f) (z := z.toNat) hV a.toNat
    have h3 : 0 ≤ dOf t f z.toNat z.toNat := by
      obtain ⟨_, _, w, _⟩ := dOf_pos T.pos
      rw [dOf_self w.goal.1 w.goal.2]; exact Int.le_refl 0
    have := T.len
    omega
theorem next_at {a z : Int} {P L : List Int} (hK : K2 t f a z) (T : Trail t f z.toNat a.toNat P L) {i : Nat} (hi : i < L.length) : nextV t f (P.getD i 0) z = L.getD i 0 := by
  have hV : topV t := hK.1.1.1.1
  obtain ⟨x, y, k, g1, g2, g3, g4, g5, _⟩ := T.at i hi
  have := hop_facts hV g5
  unfold nextV
  rw [g1, g3, if_pos ⟨⟨hK.1.1, by omega, by omega⟩, hK.2⟩, Int.toNat_natCast, g4]
theorem other_bd2 {n : Nat} {l : Lnk} {d : Int} (hl : lnkV n l) : -1 ≤ otherOf l d ∧ otherOf l d < n := by
  unfold lnkV at hl; unfold otherOf; split <;> (try split) <;> omega
theorem link_small (t : Topo) (f : Fail) (a z : Int) : (linkV t f a z).length ≤ 12001 := by
  have h1 := path_small t f a z
  rcases pv_cases t f a z with ⟨_, _, h⟩ | ⟨_, _, T⟩
  · rw [h]; simp
  · have := T.len; omega
theorem next_bd (t : Topo) (f : Fail) (a z : Int) : -1 ≤ nextV t f a z ∧ nextV t f a z < 24 := by
  unfold nextV
  split
  · rename_i hK
    have hV : topV t := hK.1.1.1.1
    have hB : topB t := hV.1
    unfold topB at hB
    rcases next_cases (f := f) (z := z.toNat) hV a.toNat with ⟨_, h⟩ | ⟨i, b, h, h2, _⟩ <;> omega
  · omega
end
end Go.Proofs.Ytfanmniaolncbaa.V
