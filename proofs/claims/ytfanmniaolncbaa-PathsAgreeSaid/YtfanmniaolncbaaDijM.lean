/- Dijkstra's algorithm, plain: what is settled is final; the entries. -/
import Derived.Test.YtfanmniaolncbaaPathM
import Derived.Test.YtfanmniaolncbaaTD3
set_option linter.unusedVariables false
set_option linter.unusedSimpArgs false
namespace Go.Proofs.Ytfanmniaolncbaa.V
open Go.RowKit
open Classical in
/-- the usable ones of the first k links -/
noncomputable def usl (t : Topo) (f : Fail) : Nat → List Lnk
  | 0 => []
  | k + 1 => if usableR t f (k : Nat) then usl t f k ++ [lnk t (k : Nat)] else usl t f k
theorem usl_yes {t : Topo} {f : Fail} {k : Nat} (h : usableR t f (k : Nat)) : usl t f (k + 1) = usl t f k ++ [lnk t (k : Nat)] := by rw [usl, if_pos h]
theorem usl_no {t : Topo} {f : Fail} {k : Nat} (h : ¬ usableR t f (k : Nat)) : usl t f (k + 1) = usl t f k := by rw [usl, if_neg h]
theorem usl_len {t : Topo} {f : Fail} {k : Nat} : (usl t f k).length ≤ k := by
  induction k with
  | zero => exact Nat.le_refl _
  | succ k ih => by_cases h : usableR t f (k : Nat)
                 · rw [usl_yes h, List.length_append]; simp; omega
                 · rw [usl_no h]; omega
theorem mem_usl {t : Topo} {f : Fail} {k : Nat} {l : Lnk} : l ∈ usl t f k ↔ ∃ i : Nat, i < k ∧ usableR t f (i : Nat) ∧ lnk t (i : Nat) = l := by
  induction k with
  | zero => simp [usl]
  | succ k ih =>
    by_cases h : usableR t f (k : Nat)
    · rw [usl_yes h, List.mem_append, ih]
      constructor
      · rintro (⟨i, h1, h2, h3⟩ | h1)
        · exact ⟨i, by omega, h2, h3⟩
        · simp at h1; exact ⟨k, by omega, h, h1.symm⟩
      · rintro ⟨i, h1, h2, h3⟩
        rcases Nat.lt_succ_iff_lt_or_eq.1 h1 with g | rfl
        · exact .inl ⟨i, g, h2, h3⟩
        · exact .inr (by simp [h3])
    · rw [usl_no h, ih]
      constructor
      · rintro ⟨i, h1, h2, h3⟩; exact ⟨i, by omega, h2, h3⟩
      · rintro ⟨i, h1, h2, h3⟩
        rcases Nat.lt_succ_iff_lt_or_eq.1 h1 with g | rfl
        · exact ⟨i, g, h2, h3⟩
        · exact absurd h2 h
/-- the link joins s and a -/
def joins (l : Lnk) (s a : Int) : Prop := l.a = s ∧ l.b = a ∨ l.b = s ∧ l.a = a
section
variable {t : Topo} {f : Fail} {z : Nat} {out : List Int} {h h' : List Vis} {s j : Nat}
/-- how many are not settled -/
noncomputable def un (t : Topo) (out : List Int) : Nat := card t.devs.xs.length fun d => out.getD d 0 < 0
/-- what holds of settled devices and entries; for s only the first j usable links have been followed -/
structure DjJ (t : Topo) (f : Fail) (z : Nat) (out : List Int) (h : List Vis) (s j : Nat) : Prop where
  len : out.length = t.devs.xs.length
  set : ∀ d, d < t.devs.xs.length → out.getD d 0 = -1 ∨ 0 ≤ dOf t f z d ∧ out.getD d 0 = dOf t f z d
  ent : ∀ v ∈ h, ∃ d c : Nat, v.dev = (d : Int) ∧ v.dist = (c : Int) ∧ Way t f z d c ∧ c ≤ 13000
  fro : ∀ (a b : Nat), b ≠ s → 0 ≤ out.getD b 0 → b < t.devs.xs.length → ∀ l ∈ usl t f t.links.xs.length, joins l b a → out.getD a 0 < 0 → ∃ v ∈ h, v.dev = (a : Int) ∧ v.dist ≤ dOf t f z b + l.cost
  frs : ∀ (a q : Nat), q < j → joins ((usl t f t.links.xs.length).getD q lnkE.dflt) s a → q < (usl t f t.links.xs.length).length → out.getD a 0 < 0 → ∃ v ∈ h, v.dev = (a : Int) ∧ v.dist ≤ dOf t f z s + ((usl t f t.links.xs.length).getD q lnkE.dflt).cost
  src : out.getD z 0 < 0 → ∃ v ∈ h, v.dev = (z : Int) ∧ v.dist = 0
/-- between two settlements -/
def DjI (t : Topo) (f : Fail) (z : Nat) (out : List Int) (h : List Vis) : Prop := DjJ t f z out h t.devs.xs.length (usl t f t.links.xs.length).length
theorem DjJ.perm (D : DjJ t f z out h s j) (p : h'.Perm h) : DjJ t f z out h' s j :=
  ⟨D.len, D.set, fun v hv => D.ent v (p.mem_iff.1 hv), fun a b h1 h2 h3 l hl h4 h5 => let ⟨v, hv, k⟩ := D.fro a b h1 h2 h3 l hl h4 h5; ⟨v, p.mem_iff.2 hv, k⟩,
    fun a q h1 h2 h3 h4 => let ⟨v, hv, k⟩ := D.frs a q h1 h2 h3 h4; ⟨v, p.mem_iff.2 hv, k⟩, fun h1 => let ⟨v, hv, k⟩ := D.src h1; ⟨v, p.mem_iff.2 hv, k⟩⟩
theorem usl_ends (hV : topV t) {l : Lnk} (hl : l ∈ usl t f t.links.xs.length) : lnkV t.devs.xs.length l := by
  obtain ⟨i, h1, _, rfl⟩ := mem_usl.1 hl
  exact topV_link hV h1
theorem joins_ends (hV : topV t) {l : Lnk} (hl : l ∈ usl t f t.links.xs.length) {a b : Int} (h : joins l a b) : (0 ≤ a ∧ a < t.devs.xs.length) ∧ (0 ≤ b ∧ b < t.devs.xs.length) ∧ 1 ≤ l.cost ∧ l.cost ≤ 1000 ∧ a ≠ b := by
  have := usl_ends hV hl
  unfold lnkV at this
  unfold joins at h
  omega
theorem DjI.start (hV : topV t) (hz : z < t.devs.xs.length) (ha : ¬ ((z : Nat) : Int) ∈ f.devs.xs) (hl : out.length = t.devs.xs.length) (h : ∀ d, d < t.devs.xs.length → out.getD d 0 = -1) : DjI t f z out [⟨(z : Int), 0⟩] := by
  refine ⟨hl, fun d hd => .inl (h d hd), fun v hv => ?_, fun a b _ h2 h3 => by rw [h b h3] at h2; omega, fun a q _ hq hl2 => ?_, fun _ => ⟨_, List.mem_singleton.2 rfl, rfl, rfl⟩⟩
  · rw [List.mem_singleton.1 hv]
    exact ⟨z, 0, rfl, rfl, .stay hz ha, by omega⟩
  · have := joins_ends hV (getD_mem hl2) hq
    omega
theorem DjJ.least (D : DjI t f z out h) (hV : topV t) {v : Vis} (hm : ∀ u ∈ h, v.dist ≤ u.dist) : ∀ {d c : Nat}, Way t f z d c → out.getD d 0 < 0 → v.dist ≤ c := by
  intro d c w
  induction w with
  | stay hz ha =>
    intro h0
    obtain ⟨u, hu, _, h2⟩ := D.src h0
    have := hm u hu
    omega
  | @step i a b c hh w ih =>
    intro h0
    have hf := hop_facts hV hh
    by_cases g : 0 ≤ out.getD b 0
    · obtain ⟨l, hl, hj⟩ : ∃ l ∈ usl t f t.links.xs.length, joins l (b : Nat) (a : Nat) ∧ ((cst t i : Nat) : Int) = l.cost :=
        ⟨_, mem_usl.2 ⟨i, hh.1, hh.2.1, rfl⟩, hh.2.2.elim (fun q => .inr ⟨q.2, q.1⟩) fun q => .inl ⟨q.1, q.2⟩, hf.2.2.2.2.2.1⟩
      obtain ⟨u, hu, _, h2⟩ := D.fro a b (by omega) g hf.2.1 l hl hj.1 h0
      have := hm u hu
      have := dOf_way w
      omega
    · have := ih (by omega)
      omega
/-- an entry that is popped of a device that is settled -/
theorem DjI.skip {v : Vis} (D : DjI t f z out (v :: h)) {d : Nat} (hd : v.dev = (d : Int)) (hs : 0 ≤ out.getD d 0) : DjI t f z out h := by
  have out_of : ∀ {a : Nat} {P : Vis → Prop}, out.getD a 0 < 0 → (∃ u ∈ v :: h, u.dev = (a : Int) ∧ P u) → ∃ u ∈ h, u.dev = (a : Int) ∧ P u := fun {a P} h0 ⟨u, hu, h1, h2⟩ => by
    rcases List.mem_cons.1 hu with e | e
    · subst e
      have : a = d := by omega
      subst this; omega
    · exact ⟨u, e, h1, h2⟩
  exact ⟨D.len, D.set, fun u hu => D.ent u (List.mem_cons_of_mem _ hu), fun a b h1 h2 h3 l hl h4 h5 => out_of h5 (D.fro a b h1 h2 h3 l hl h4 h5), fun a q h1 h2 h3 h4 => out_of h4 (D.frs a q h1 h2 h3 h4), fun h1 => out_of h1 (D.src h1)⟩
/-- an entry that is popped settles its device -/
theorem DjI.settle {v : Vis} (D : DjI t f z out (v :: h)) (hV : topV t) (hm : ∀ u ∈ h, v.dist ≤ u.dist) {d : Nat} (hd : v.dev = (d : Int)) (hs : out.getD d 0 < 0) :
    d < t.devs.xs.length ∧ v.dist = dOf t f z d ∧ 0 ≤ dOf t f z d ∧ DjJ t f z (out.set d v.dist) h d 0 := by
  obtain ⟨d', c, h1, h2, w, _⟩ := D.ent v List.mem_cons_self
  obtain rfl : d' = d := by omega
  have hdl := w.lt hV
  have hlen := D.len
  have hm' : ∀ u ∈ v :: h, v.dist ≤ u.dist := fun u hu => by
    rcases List.mem_cons.1 hu with e | e
    · rw [e]; omega
    · exact hm u e
  obtain ⟨m, e1, w1, _⟩ := dOf_spec ⟨c, w⟩
  have g1 := dOf_way w
  have g2 := DjJ.least D hV hm' w1 hs
  have hdist : v.dist = dOf t f z d' := by omega
  have hget : ∀ x, (out.set d' v.dist).getD x 0 = if x = d' then v.dist else out.getD x 0 := fun x => by
    split
    · rename_i e; subst e; exact getD_set_self (by omega)
    · rename_i e; exact getD_set_other (fun q => e q.symm)
  have out_of : ∀ {a : Nat} {P : Vis → Prop}, (out.set d' v.dist).getD a 0 < 0 → (∃ u ∈ v :: h, u.dev = (a : Int) ∧ P u) → ∃ u ∈ h, u.dev = (a : Int) ∧ P u := fun {a P} h0 ⟨u, hu, h1, h2⟩ => by
    rcases List.mem_cons.1 hu with e | e
    · subst e
      have : a = d' := by omega
      subst this
      rw [hget, if_pos rfl] at h0; omega
    · exact ⟨u, e, h1, h2⟩
  have neg : ∀ {a : Nat}, (out.set d' v.dist).getD a 0 < 0 → out.getD a 0 < 0 := fun {a} h0 => by
    rw [hget] at h0
    split at h0
    · omega
    · exact h0
  refine ⟨hdl, hdist, g1.1, ⟨by simpa using hlen, fun x hx => ?_, fun u hu => D.ent u (List.mem_cons_of_mem _ hu), fun a b h1 h2 h3 l hl h4 h5 => ?_, fun a q h1 => absurd h1 (Nat.not_lt_zero _), fun h1 => out_of h1 (D.src (neg h1))⟩⟩
  · rw [hget]; split
    · rename_i e; subst e; exact .inr ⟨g1.1, hdist⟩
    · exact D.set x hx
  · rw [hget, if_neg h1] at h2
    exact out_of h5 (D.fro a b (by omega) h2 h3 l hl h4 (neg h5))
/-- a usable link that leads to no device that is not settled -/
theorem DjJ.pass (D : DjJ t f z out h s j) (hn : ∀ a : Nat, joins ((usl t f t.links.xs.length).getD j lnkE.dflt) s a → 0 ≤ out.getD a 0) : DjJ t f z out h s (j + 1) :=
  ⟨D.len, D.set, D.ent, D.fro, fun a q h1 h2 h3 h4 => by
    rcases Nat.lt_succ_iff_lt_or_eq.1 h1 with g | rfl
    · exact D.frs a q g h2 h3 h4
    · have := hn a h2; omega, D.src⟩
/-- one that does -/
theorem DjJ.push (D : DjJ t f z out h s j) (hV : topV t) (hs : 0 ≤ dOf t f z s) {a : Nat} (hj : j < (usl t f t.links.xs.length).length) (hk : joins ((usl t f t.links.xs.length).getD j lnkE.dflt) s a) :
    DjJ t f z out (⟨(a : Int), dOf t f z s + ((usl t f t.links.xs.length).getD j lnkE.dflt).cost⟩ :: h) s (j + 1) := by
  have hmem : (usl t f t.links.xs.length).getD j lnkE.dflt ∈ usl t f t.links.xs.length := getD_mem hj
  have hl : ∀ l, (usl t f t.links.xs.length).getD j lnkE.dflt = l → l = (usl t f t.links.xs.length).getD j lnkE.dflt := fun l h => h.symm
  generalize hg : (usl t f t.links.xs.length).getD j lnkE.dflt = l at hk hmem
  have he := joins_ends hV hmem hk
  have up : ∀ {x : Nat} {P : Vis → Prop}, (∃ u ∈ h, u.dev = (x : Int) ∧ P u) → ∃ u ∈ (⟨(a : Int), dOf t f z s + l.cost⟩ : Vis) :: h, u.dev = (x : Int) ∧ P u := fun {x P} ⟨u, hu, k⟩ => ⟨u, List.mem_cons_of_mem _ hu, k⟩
  refine ⟨D.len, D.set, fun u hu => ?_, fun a b h1 h2 h3 l hl h4 h5 => up (D.fro a b h1 h2 h3 l hl h4 h5), fun x q h1 h2 h3 h4 => ?_, fun h1 => up (D.src h1)⟩
  · rcases List.mem_cons.1 hu with e | e
    · obtain ⟨i, h1, h2, h3⟩ := mem_usl.1 hmem
      obtain ⟨m, e1, w, _⟩ := dOf_pos hs
      have hh : hop t f i a s := ⟨h1, h2, by rw [h3]; exact hk.elim .inr fun q => .inl ⟨q.2, q.1⟩⟩
      have hc := (hop_facts hV hh).2.2.2.2.2.1
      rw [h3] at hc
      have hb := dOf_le (f := f) (z := z) hV s
      exact ⟨a, m + cst t i, by rw [e], by rw [e]; show dOf t f z s + l.cost = _; omega, .step hh w, by omega⟩
    · exact D.ent u e
  · rcases Nat.lt_succ_iff_lt_or_eq.1 h1 with g | rfl
    · exact up (D.frs x q g h2 h3 h4)
    · rw [hg] at h2 ⊢
      have : x = a := by unfold joins at h2 hk; omega
      subst this
      exact ⟨_, List.mem_cons_self, rfl, Int.le_refl _⟩
/-- all links of s have been followed -/
theorem DjJ.done (D : DjJ t f z out h s (usl t f t.links.xs.length).length) (hV : topV t) (hs : s < t.devs.xs.length) (ho : 0 ≤ out.getD s 0) : DjI t f z out h :=
  ⟨D.len, D.set, D.ent, fun a b _ h2 h3 l hl h4 h5 => by
    by_cases e : b = s
    · subst e
      obtain ⟨q, hq, rfl⟩ := mem_getD lnkE.dflt hl
      exact D.frs a q hq h4 hq h5
    · exact D.fro a b e h2 h3 l hl h4 h5, fun a q _ hq hl2 => by
    have := joins_ends hV (getD_mem hl2) hq
    omega, D.src⟩
/-- nothing is left -/
theorem DjI.all (D : DjI t f z out []) (hV : topV t) : distsOf t f z = out := by
  refine dists_is D.len fun d hd => ?_
  rcases D.set d hd with e | e
  · rcases dOf_cases (t := t) (f := f) (z := z) d with h | h
    · omega
    · obtain ⟨m, e1, w, _⟩ := dOf_pos h
      have := DjJ.least (v := ⟨0, m + 1⟩) D hV (fun u hu => absurd hu List.not_mem_nil) w (by omega)
      simp only at this
      omega
  · exact e.2
theorem un_set {v : Int} (hs : s < t.devs.xs.length) (hl : out.length = t.devs.xs.length) (h0 : out.getD s 0 < 0) (hv : 0 ≤ v) : un t (out.set s v) < un t out := by
  refine card_lt (fun d _ h => ?_) ⟨s, hs, h0, ?_⟩
  · by_cases e : d = s
    · subst e; exact h0
    · rwa [getD_set_other (fun q => e q.symm)] at h
  · rw [getD_set_self (by omega)]; omega
theorem un_le : un t out ≤ t.devs.xs.length := card_le
/-- no device is reached where the target has failed -/
theorem dists_dead (h : ((z : Nat) : Int) ∈ f.devs.xs) (d : Nat) : dOf t f z d = -1 := dOf_no fun ⟨_, w⟩ => w.goal.2 h
end
end Go.Proofs.Ytfanmniaolncbaa.V
