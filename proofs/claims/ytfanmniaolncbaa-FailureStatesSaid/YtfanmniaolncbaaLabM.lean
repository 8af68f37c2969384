/- Labels that are propagated in rounds: after as many rounds as there are devices each device bears the least of its component. -/
import Derived.Test.YtfanmniaolncbaaCmpM
set_option linter.unusedVariables false
set_option linter.unusedSimpArgs false
namespace Go.Proofs.Ytfanmniaolncbaa.V
open Go.RowKit
open Classical in
noncomputable def card : Nat → (Nat → Prop) → Nat
  | 0, _ => 0
  | n + 1, P => card n P + (if P n then 1 else 0)
theorem card_mono {P Q : Nat → Prop} : ∀ {n : Nat}, (∀ d, d < n → P d → Q d) → card n P ≤ card n Q
  | 0, _ => Nat.le_refl _
  | n + 1, h => by
    have h1 := card_mono (n := n) fun d hd => h d (by omega)
    have h2 := h n (Nat.lt_succ_self n)
    unfold card
    by_cases hp : P n
    · rw [if_pos hp, if_pos (h2 hp)]; omega
    · rw [if_neg hp]; omega
theorem card_lt {P Q : Nat → Prop} : ∀ {n : Nat}, (∀ d, d < n → P d → Q d) → (∃ d, d < n ∧ Q d ∧ ¬ P d) → card n P < card n Q
  | 0, _, ⟨_, h, _⟩ => absurd h (Nat.not_lt_zero _)
  | n + 1, h, ⟨d, hd, hq, hp⟩ => by
    have h2 := h n (Nat.lt_succ_self n)
    unfold card
    rcases Nat.lt_succ_iff_lt_or_eq.1 hd with g | rfl
    · have h1 := card_lt (n := n) (fun d hd => h d (by omega)) ⟨d, g, hq, hp⟩
      by_cases hp : P n
      · rw [if_pos hp, if_pos (h2 hp)]; omega
      · rw [if_neg hp]; omega
    · have h1 := card_mono (n := d) fun e he => h e (by omega)
      rw [if_neg hp, if_pos hq]; omega
theorem card_le {P : Nat → Prop} : ∀ {n : Nat}, card n P ≤ n
  | 0 => Nat.le_refl _
  | n + 1 => by
    have := card_le (P := P) (n := n)
    unfold card
    by_cases hp : P n
    · rw [if_pos hp]; omega
    · rw [if_neg hp]; omega
theorem card_full {P : Nat → Prop} : ∀ {n : Nat}, n ≤ card n P → ∀ d, d < n → P d
  | 0, _, _, h => absurd h (Nat.not_lt_zero _)
  | n + 1, h, d, hd => by
    have h1 := card_le (P := P) (n := n)
    unfold card at h
    by_cases hp : P n
    · rw [if_pos hp] at h
      rcases Nat.lt_succ_iff_lt_or_eq.1 hd with g | rfl
      · exact card_full (by omega) d g
      · exact hp
    · rw [if_neg hp] at h; omega
/-- what grows in each round until it stands, has grown fully after n rounds -/
theorem grow_all {n : Nat} {P : Nat → Nat → Prop} (mono : ∀ r d, P r d → P (r + 1) d) (stab : ∀ r, (∀ d, d < n → P (r + 1) d → P r d) → ∀ d, d < n → P (r + 2) d → P (r + 1) d) {d r : Nat} (hd : d < n) (h : P r d) : P n d := by
  have up : ∀ k s d, P s d → P (s + k) d := fun k => by
    induction k with
    | zero => exact fun _ _ h => h
    | succ k ih => exact fun s d h => mono _ _ (ih s d h)
  have key : ∀ r, (∃ s, s < r ∧ ∀ d, d < n → P (s + 1) d → P s d) ∨ r ≤ card n (P r) := by
    intro r
    induction r with
    | zero => exact .inr (Nat.zero_le _)
    | succ r ih =>
      rcases ih with ⟨s, hs, h⟩ | ih
      · exact .inl ⟨s, by omega, h⟩
      · by_cases hs : ∀ d, d < n → P (r + 1) d → P r d
        · exact .inl ⟨r, by omega, hs⟩
        · right
          simp only [Classical.not_forall] at hs
          obtain ⟨d, hd, h1, h2⟩ := hs
          have := card_lt (n := n) (fun d _ => mono r d) ⟨d, hd, h1, h2⟩
          omega
  rcases key n with ⟨s, hs, hst⟩ | hf
  · have st : ∀ k, ∀ d, d < n → P (s + k + 1) d → P (s + k) d := fun k => by
      induction k with
      | zero => exact hst
      | succ k ih => exact stab _ ih
    have back : ∀ k, ∀ d, d < n → P (s + k) d → P s d := fun k => by
      induction k with
      | zero => exact fun _ _ h => h
      | succ k ih => exact fun d hd h => ih d hd (st k d hd h)
    have h1 : P (s + r) d := by rw [Nat.add_comm]; exact up s r d h
    have h2 := back r d hd h1
    have := up (n - s) s d h2
    rwa [show s + (n - s) = n from by omega] at this
  · exact card_full hf d hd
def reach (R : Nat → Nat → Prop) : Nat → Nat → Prop
  | 0, d => lab R d = d
  | r + 1, d => reach R r d ∨ ∃ e, (R d e ∨ R e d) ∧ reach R r e
theorem reach_all {R : Nat → Nat → Prop} {n : Nat} (hR : ∀ a b, R a b → a < n ∧ b < n) {d : Nat} (hd : d < n) : reach R n d := by
  have : ∀ {x : Nat}, Conn R (lab R d) x → ∃ r, reach R r x := fun h => by
    induction h with
    | refl => exact ⟨0, lab_lab R d⟩
    | step _ r ih => obtain ⟨s, hs⟩ := ih; exact ⟨s + 1, .inr ⟨_, r.symm, hs⟩⟩
  obtain ⟨r, hr⟩ := this (lab_conn R d).symm
  refine grow_all (P := reach R) (fun r d h => .inl h) (fun r h d hd hh => ?_) hd hr
  rcases hh with hh | ⟨e, he, hh⟩
  · exact hh
  · exact .inr ⟨e, he, h e (he.elim (fun q => (hR _ _ q).2) fun q => (hR _ _ q).1) hh⟩
/-- the links of a topology that are usable -/
def useR (t : Topo) (f : Fail) (s : Int) : Nat → Nat → Prop := linkR t f s t.links.xs.length
theorem useR_lt {t : Topo} {f : Fail} {s : Int} (h : topV t) {a b : Nat} (r : useR t f s a b) : a < t.devs.xs.length ∧ b < t.devs.xs.length := by
  obtain ⟨i, h1, _, _, h4, h5⟩ := r
  have hl := topV_link h h1
  have e1 : (t.links.xs.getD i lnkE.dflt).a = a := h4
  have e2 : (t.links.xs.getD i lnkE.dflt).b = b := h5
  unfold lnkV at hl
  omega
structure LabI (t : Topo) (f : Fail) (out : List Int) (r k : Nat) : Prop where
  len : out.length = t.devs.xs.length
  dead : ∀ d, d < t.devs.xs.length → ((d : Nat) : Int) ∈ f.devs.xs → out.getD d 0 = -1
  live : ∀ d, d < t.devs.xs.length → ¬ ((d : Nat) : Int) ∈ f.devs.xs → ∃ m : Nat, out.getD d 0 = (m : Int) ∧ Conn (useR t f (-1)) d m
  hit : ∀ d, d < t.devs.xs.length → ¬ ((d : Nat) : Int) ∈ f.devs.xs → reach (useR t f (-1)) r d → out.getD d 0 = ((lab (useR t f (-1)) d : Nat) : Int)
  new : ∀ i, i < k → i < t.links.xs.length → usableR t f (i : Nat) → ∀ a b : Nat, (lnk t (i : Nat)).a = (a : Int) → (lnk t (i : Nat)).b = (b : Int) → reach (useR t f (-1)) r a ∨ reach (useR t f (-1)) r b → out.getD a 0 = ((lab (useR t f (-1)) a : Nat) : Int) ∧ out.getD b 0 = ((lab (useR t f (-1)) b : Nat) : Int)
section
variable {t : Topo} {f : Fail} {out : List Int} {r k : Nat}
theorem LabI.start (hl : out.length = t.devs.xs.length) (hd : ∀ d, d < t.devs.xs.length → ((d : Nat) : Int) ∈ f.devs.xs → out.getD d 0 = -1) (ha : ∀ d, d < t.devs.xs.length → ¬ ((d : Nat) : Int) ∈ f.devs.xs → out.getD d 0 = (d : Int)) : LabI t f out 0 0 :=
  ⟨hl, hd, fun d h1 h2 => ⟨d, ha d h1 h2, .refl d⟩, fun d h1 h2 h3 => by rw [ha d h1 h2]; congr 1; exact h3.symm, fun i hi => absurd hi (Nat.not_lt_zero _)⟩
theorem LabI.skip (I : LabI t f out r k) (hu : ¬ usableR t f (k : Nat)) : LabI t f out r (k + 1) :=
  ⟨I.len, I.dead, I.live, I.hit, fun i hi hil h => by
    rcases Nat.lt_succ_iff_lt_or_eq.1 hi with g | rfl
    · exact I.new i g hil h
    · exact absurd h hu⟩
theorem LabI.next (I : LabI t f out r t.links.xs.length) (hV : topV t) : LabI t f out (r + 1) 0 := by
  refine ⟨I.len, I.dead, I.live, fun d h1 h2 h3 => ?_, fun i hi => absurd hi (Nat.not_lt_zero _)⟩
  rcases h3 with h3 | ⟨e, he, h3⟩
  · exact I.hit d h1 h2 h3
  · rcases he with ⟨i, hi, _, hu, ha, hb⟩ | ⟨i, hi, _, hu, ha, hb⟩
    · exact (I.new i hi hi hu d e ha hb (.inr h3)).1
    · exact (I.new i hi hi hu e d ha hb (.inl h3)).2
theorem LabI.all (I : LabI t f out t.devs.xs.length 0) (hV : topV t) : compsOf t f (-1) = out := by
  refine comps_is I.len fun j hj => ?_
  unfold cv
  by_cases h : ((j : Nat) : Int) ∈ f.devs.xs
  · rw [if_pos h]; exact I.dead j hj h
  · rw [if_neg h]; exact I.hit j hj h (reach_all (fun a b => useR_lt hV) hj)
theorem LabI.link (I : LabI t f out r k) (hV : topV t) (hk : k < t.links.xs.length) (hu : usableR t f (k : Nat)) {a b : Nat} (ha : (lnk t (k : Nat)).a = (a : Int)) (hb : (lnk t (k : Nat)).b = (b : Int)) {v : Int} (hv : v = if out.getD b 0 < out.getD a 0 then out.getD b 0 else out.getD a 0) :
    LabI t f ((out.set a v).set b v) r (k + 1) := by
  have hR : useR t f (-1) a b := ⟨k, hk, by omega, hu, ha, hb⟩
  obtain ⟨han, hbn⟩ := useR_lt hV hR
  have hlab : lab (useR t f (-1)) a = lab (useR t f (-1)) b := lab_eq.2 (.one hR)
  have hda : ¬ ((a : Nat) : Int) ∈ f.devs.xs := by rw [← ha]; exact hu.1.2
  have hdb : ¬ ((b : Nat) : Int) ∈ f.devs.xs := by rw [← hb]; exact hu.2
  obtain ⟨ma, ea, ca⟩ := I.live a han hda
  obtain ⟨mb, eb, cb⟩ := I.live b hbn hdb
  have la := lab_le ca
  have lb := lab_le cb
  have hvm : (v = ma ∨ v = mb) ∧ (v ≤ ma ∧ v ≤ mb) := by
    rw [hv, ea, eb]; split <;> omega
  have get : ∀ d, d < t.devs.xs.length → ((out.set a v).set b v).getD d 0 = if d = a ∨ d = b then v else out.getD d 0 := fun d hd => by
    simp only [List.getD_eq_getElem?_getD]
    by_cases h1 : b = d
    · subst h1; rw [List.getElem?_set_self (by rw [List.length_set, I.len]; exact hd), if_pos (.inr rfl)]; rfl
    · rw [List.getElem?_set_ne h1]
      by_cases h2 : a = d
      · subst h2; rw [List.getElem?_set_self (by rw [I.len]; exact hd), if_pos (.inl rfl)]; rfl
      · rw [List.getElem?_set_ne h2, if_neg (by omega)]
  have stay : ∀ d, d < t.devs.xs.length → out.getD d 0 = ((lab (useR t f (-1)) d : Nat) : Int) → ((out.set a v).set b v).getD d 0 = ((lab (useR t f (-1)) d : Nat) : Int) := fun d hd h => by
    rw [get d hd]
    by_cases h1 : d = a ∨ d = b
    · rw [if_pos h1]
      rcases h1 with rfl | rfl <;> omega
    · rw [if_neg h1]; exact h
  refine ⟨by simp only [List.length_set]; exact I.len, fun d hd h => ?_, fun d hd h => ?_, fun d hd h1 h2 => stay d hd (I.hit d hd h1 h2), fun i hi hil hui x y hx hy hre => ?_⟩
  · rw [get d hd, if_neg (fun e => e.elim (fun e => hda (e ▸ h)) fun e => hdb (e ▸ h))]; exact I.dead d hd h
  · rw [get d hd]
    by_cases h1 : d = a ∨ d = b
    · rw [if_pos h1]
      have cab : ∀ m : Nat, (m = ma ∨ m = mb) → Conn (useR t f (-1)) a m ∧ Conn (useR t f (-1)) b m := fun m hm => by
        have hab := Conn.one hR
        rcases hm with rfl | rfl
        · exact ⟨ca, hab.symm.trans ca⟩
        · exact ⟨hab.trans cb, cb⟩
      rcases hvm.1 with e | e
      · exact ⟨ma, e, h1.elim (fun h => h ▸ (cab ma (.inl rfl)).1) fun h => h ▸ (cab ma (.inl rfl)).2⟩
      · exact ⟨mb, e, h1.elim (fun h => h ▸ (cab mb (.inr rfl)).1) fun h => h ▸ (cab mb (.inr rfl)).2⟩
    · rw [if_neg h1]; exact I.live d hd h
  · have hxy := useR_lt hV (show useR t f (-1) x y from ⟨i, hil, by omega, hui, hx, hy⟩)
    rcases Nat.lt_succ_iff_lt_or_eq.1 hi with g | rfl
    · obtain ⟨h1, h2⟩ := I.new i g hil hui x y hx hy hre
      exact ⟨stay x hxy.1 h1, stay y hxy.2 h2⟩
    · obtain rfl : x = a := by omega
      obtain rfl : y = b := by omega
      have hv' : v = ((lab (useR t f (-1)) x : Nat) : Int) := by
        rcases hre with h | h
        · have := I.hit x han hda h; omega
        · have := I.hit y hbn hdb h; omega
      rw [get x han, get y hbn, if_pos (.inl rfl), if_pos (.inr rfl)]
      exact ⟨hv', by rw [hv', hlab]⟩
end
theorem usable_iff {t : Topo} {f : Fail} (h : failV t f) {i : Nat} (hi : i < t.links.xs.length) : usableV t f (i : Nat) ↔ usableR t f (i : Nat) := ⟨fun h => h.2, fun hu => ⟨⟨⟨h, by omega⟩, by omega⟩, hu⟩⟩
theorem alive_iff {t : Topo} {f : Fail} (h : failV t f) {i : Nat} (hi : i < t.devs.xs.length) : aliveV t f (i : Nat) ↔ ¬ ((i : Nat) : Int) ∈ f.devs.xs := ⟨fun h => h.2, fun hu => ⟨⟨⟨h, by omega⟩, by omega⟩, hu⟩⟩
/-- components of a state, or nothing if it is not valid -/
noncomputable def compsV (t : Topo) (f : Fail) : List Int := if failV t f then compsOf t f (-1) else []
def connV (t : Topo) (f : Fail) (a b : Int) : Prop := (aliveV t f a ∧ aliveV t f b) ∧ cv t f (-1) a.toNat = cv t f (-1) b.toNat
noncomputable instance (t : Topo) (f : Fail) (a b : Int) : Decidable (connV t f a b) := Classical.propDecidable _
end Go.Proofs.Ytfanmniaolncbaa.V
