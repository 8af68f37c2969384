/- Shortest ways over usable links, plain. -/
import Derived.Test.YtfanmniaolncbaaGrpE
set_option linter.unusedVariables false
set_option linter.unusedSimpArgs false
namespace Go.Proofs.Ytfanmniaolncbaa.V
open Go.RowKit
/-- link i is usable and leads from a to b -/
def hop (t : Topo) (f : Fail) (i a b : Nat) : Prop := i < t.links.xs.length ∧ usableR t f (i : Nat) ∧ ((lnk t (i : Nat)).a = (a : Int) ∧ (lnk t (i : Nat)).b = (b : Int) ∨ (lnk t (i : Nat)).a = (b : Int) ∧ (lnk t (i : Nat)).b = (a : Int))
def cst (t : Topo) (i : Nat) : Nat := (lnk t (i : Nat)).cost.toNat
/-- a way from a device to z, and what it costs -/
inductive Way (t : Topo) (f : Fail) (z : Nat) : Nat → Nat → Prop
  | stay : z < t.devs.xs.length → ¬ ((z : Nat) : Int) ∈ f.devs.xs → Way t f z z 0
  | step {i a b c : Nat} : hop t f i a b → Way t f z b c → Way t f z a (c + cst t i)
section
variable {t : Topo} {f : Fail} {z : Nat}
theorem hop.symm {i a b : Nat} (h : hop t f i a b) : hop t f i b a := ⟨h.1, h.2.1, h.2.2.symm⟩
theorem hop_facts (hV : topV t) {i a b : Nat} (h : hop t f i a b) : a < t.devs.xs.length ∧ b < t.devs.xs.length ∧ a ≠ b ∧ 1 ≤ cst t i ∧ cst t i ≤ 1000 ∧ ((cst t i : Nat) : Int) = (lnk t (i : Nat)).cost ∧ ¬ ((a : Nat) : Int) ∈ f.devs.xs ∧ ¬ ((b : Nat) : Int) ∈ f.devs.xs := by
  have hl := topV_link hV h.1
  have e : t.links.xs.getD i lnkE.dflt = lnk t (i : Nat) := rfl
  rw [e] at hl
  obtain ⟨h0, hu, hab⟩ := h
  unfold lnkV at hl
  unfold cst
  obtain ⟨⟨_, ha⟩, hb⟩ := hu
  rcases hab with ⟨e1, e2⟩ | ⟨e1, e2⟩ <;> rw [e1] at ha <;> rw [e2] at hb
  · exact ⟨by omega, by omega, by omega, by omega, by omega, by omega, ha, hb⟩
  · exact ⟨by omega, by omega, by omega, by omega, by omega, by omega, hb, ha⟩
theorem Way.lt (hV : topV t) {d c : Nat} (h : Way t f z d c) : d < t.devs.xs.length := by
  cases h with
  | stay h _ => exact h
  | step h _ => exact (hop_facts hV h).1
theorem Way.alive (hV : topV t) {d c : Nat} (h : Way t f z d c) : ¬ ((d : Nat) : Int) ∈ f.devs.xs := by
  cases h with
  | stay _ h => exact h
  | step h _ => exact (hop_facts hV h).2.2.2.2.2.2.1
theorem Way.goal {d c : Nat} (h : Way t f z d c) : z < t.devs.xs.length ∧ ¬ ((z : Nat) : Int) ∈ f.devs.xs := by
  induction h with
  | stay h k => exact ⟨h, k⟩
  | step _ _ ih => exact ih
open Classical in
/-- the distance of d from z, or -1 -/
noncomputable def dOf (t : Topo) (f : Fail) (z d : Nat) : Int := if h : ∃ c, Way t f z d c then ((exists_least h).choose : Nat) else -1
theorem dOf_spec {d : Nat} (h : ∃ c, Way t f z d c) : ∃ m : Nat, dOf t f z d = (m : Int) ∧ Way t f z d m ∧ ∀ c, Way t f z d c → m ≤ c := by
  unfold dOf
  rw [dif_pos h]
  exact ⟨_, rfl, (exists_least h).choose_spec.1, (exists_least h).choose_spec.2⟩
theorem dOf_no {d : Nat} (h : ¬ ∃ c, Way t f z d c) : dOf t f z d = -1 := by unfold dOf; rw [dif_neg h]
theorem dOf_pos {d : Nat} (h : 0 ≤ dOf t f z d) : ∃ m : Nat, dOf t f z d = (m : Int) ∧ Way t f z d m ∧ ∀ c, Way t f z d c → m ≤ c := by
  by_cases k : ∃ c, Way t f z d c
  · exact dOf_spec k
  · rw [dOf_no k] at h; omega
theorem dOf_way {d c : Nat} (h : Way t f z d c) : 0 ≤ dOf t f z d ∧ dOf t f z d ≤ c := by
  obtain ⟨m, h1, _, h3⟩ := dOf_spec ⟨c, h⟩
  have := h3 c h
  omega
theorem dOf_cases (d : Nat) : dOf t f z d = -1 ∨ 0 ≤ dOf t f z d := by
  by_cases k : ∃ c, Way t f z d c
  · obtain ⟨m, h1, _, _⟩ := dOf_spec k; omega
  · exact .inl (dOf_no k)
theorem dOf_lt (hV : topV t) {d : Nat} (h : 0 ≤ dOf t f z d) : d < t.devs.xs.length := let ⟨_, _, w, _⟩ := dOf_pos h; w.lt hV
theorem dOf_alive (hV : topV t) {d : Nat} (h : 0 ≤ dOf t f z d) : ¬ ((d : Nat) : Int) ∈ f.devs.xs := let ⟨_, _, w, _⟩ := dOf_pos h; w.alive hV
theorem dOf_hop {i a b : Nat} (h : hop t f i a b) (hb : 0 ≤ dOf t f z b) : 0 ≤ dOf t f z a ∧ dOf t f z a ≤ dOf t f z b + cst t i := by
  obtain ⟨m, h1, h2, _⟩ := dOf_pos hb
  have := dOf_way (Way.step h h2)
  omega
theorem dOf_self (h : z < t.devs.xs.length) (k : ¬ ((z : Nat) : Int) ∈ f.devs.xs) : dOf t f z z = 0 := by
  have := dOf_way (Way.stay h k)
  omega
/-- the first step of a shortest way -/
theorem dOf_first {d : Nat} (h : 0 ≤ dOf t f z d) (hz : d ≠ z) : ∃ i b, hop t f i d b ∧ 0 ≤ dOf t f z b ∧ dOf t f z d = dOf t f z b + cst t i := by
  obtain ⟨m, h1, h2, h3⟩ := dOf_pos h
  cases h2 with
  | stay => exact absurd rfl hz
  | @step i _ b c hh w =>
    have hb := dOf_way w
    have := dOf_hop hh hb.1
    exact ⟨i, b, hh, hb.1, by omega⟩
theorem dOf_zero (hV : topV t) {d : Nat} (h : dOf t f z d = 0) : d = z := by
  apply Classical.byContradiction
  intro hz
  obtain ⟨i, b, hh, hb, he⟩ := dOf_first (t := t) (f := f) (z := z) (d := d) (by omega) hz
  have := (hop_facts hV hh).2.2.2.1
  omega
/-- how many devices are nearer -/
noncomputable def nlv (t : Topo) (f : Fail) (z d : Nat) : Nat := card t.devs.xs.length fun e => 0 ≤ dOf t f z e ∧ dOf t f z e < dOf t f z d
theorem lv_lt (hV : topV t) {a b : Nat} (hb : 0 ≤ dOf t f z b) (h : dOf t f z b < dOf t f z a) : nlv t f z b < nlv t f z a :=
  card_lt (fun e _ he => ⟨he.1, by omega⟩) ⟨b, dOf_lt hV hb, ⟨hb, h⟩, fun he => by omega⟩
theorem card_true {n : Nat} : card n (fun _ => True) = n := by
  induction n with
  | zero => rfl
  | succ n ih => rw [card, if_pos trivial, ih]
theorem lv_n (hV : topV t) {a : Nat} (ha : 0 ≤ dOf t f z a) : nlv t f z a < t.devs.xs.length := by
  have h := card_lt (n := t.devs.xs.length) (P := fun e => 0 ≤ dOf t f z e ∧ dOf t f z e < dOf t f z a) (Q := fun _ => True) (fun _ _ _ => trivial) ⟨a, dOf_lt hV ha, trivial, fun he => by omega⟩
  rw [card_true] at h
  exact h
theorem dOf_bound (hV : topV t) : ∀ (n d : Nat), nlv t f z d ≤ n → dOf t f z d ≤ 1000 * n
  | n, d, hn => by
    rcases dOf_cases (t := t) (f := f) (z := z) d with h | h
    · omega
    · by_cases hz : d = z
      · subst hz
        obtain ⟨_, _, w, _⟩ := dOf_pos h
        have := dOf_self w.goal.1 w.goal.2
        omega
      · obtain ⟨i, b, hh, hb, he⟩ := dOf_first h hz
        have hf := hop_facts hV hh
        have hl := lv_lt hV hb (a := d) (by omega)
        cases n with
        | zero => omega
        | succ n =>
          have := dOf_bound hV n b (by omega)
          omega
theorem dOf_le (hV : topV t) (d : Nat) : dOf t f z d ≤ 12000 := by
  rcases dOf_cases (t := t) (f := f) (z := z) d with h | h
  · omega
  · have h1 := lv_n hV h
    have h2 := dOf_bound (f := f) (z := z) hV _ d (Nat.le_refl _)
    have h3 := hV.1.2.1
    omega
/-- the distances of all devices -/
noncomputable def distsOf (t : Topo) (f : Fail) (z : Nat) : List Int := (List.range t.devs.xs.length).map (dOf t f z)
open Classical in
noncomputable def distV (t : Topo) (f : Fail) (z : Int) : List Int := if (failV t f ∧ 0 ≤ z) ∧ z < t.devs.xs.length then distsOf t f z.toNat else []
theorem dists_len : (distsOf t f z).length = t.devs.xs.length := by unfold distsOf; simp
theorem dists_at {d : Nat} (h : d < t.devs.xs.length) : (distsOf t f z).getD d 0 = dOf t f z d := by
  unfold distsOf
  rw [List.getD_eq_getElem?_getD, List.getElem?_map, List.getElem?_range h]; rfl
theorem dists_is {l : List Int} (hl : l.length = t.devs.xs.length) (h : ∀ d, d < t.devs.xs.length → l.getD d 0 = dOf t f z d) : distsOf t f z = l :=
  list_ext 0 (by rw [dists_len, hl]) fun d hd => by rw [dists_len] at hd; rw [dists_at hd, h d hd]
end
/-! ### rounds of relaxing -/
def relaxL (out : List Int) (a b : Nat) (c : Int) : List Int := if 0 ≤ out.getD b 0 ∧ (out.getD a 0 < 0 ∨ out.getD b 0 + c < out.getD a 0) then out.set a (out.getD b 0 + c) else out
structure Sound (t : Topo) (f : Fail) (z : Nat) (out : List Int) (B : Int) : Prop where
  len : out.length = t.devs.xs.length
  way : ∀ d, d < t.devs.xs.length → out.getD d 0 = -1 ∨ ∃ c : Nat, out.getD d 0 = (c : Int) ∧ Way t f z d c
  cap : ∀ d, d < t.devs.xs.length → out.getD d 0 ≤ B
def Less (n : Nat) (out out' : List Int) : Prop := ∀ d, d < n → 0 ≤ out.getD d 0 → 0 ≤ out'.getD d 0 ∧ out'.getD d 0 ≤ out.getD d 0
section
variable {t : Topo} {f : Fail} {z : Nat} {out out' : List Int} {B : Int}
theorem getD_set_self {l : List Int} {i : Nat} {v : Int} (h : i < l.length) : (l.set i v).getD i 0 = v := by
  rw [List.getD_eq_getElem?_getD, List.getElem?_set_self h]; rfl
theorem getD_set_other {l : List Int} {i j : Nat} {v : Int} (h : i ≠ j) : (l.set i v).getD j 0 = l.getD j 0 := by
  rw [List.getD_eq_getElem?_getD, List.getElem?_set_ne h, List.getD_eq_getElem?_getD]
theorem Sound.relax (S : Sound t f z out B) (hV : topV t) (hB : 0 ≤ B) {i a b : Nat} (h : hop t f i a b) {c : Int} (hc : c = (lnk t (i : Nat)).cost) :
    Sound t f z (relaxL out a b c) (B + 1000) ∧ Less t.devs.xs.length out (relaxL out a b c) ∧ (0 ≤ out.getD b 0 → 0 ≤ (relaxL out a b c).getD a 0 ∧ (relaxL out a b c).getD a 0 ≤ out.getD b 0 + cst t i) := by
  have hf := hop_facts hV h
  have hlen := S.len
  unfold relaxL
  split
  · rename_i g
    have hget : ∀ d, (out.set a (out.getD b 0 + c)).getD d 0 = if d = a then out.getD b 0 + c else out.getD d 0 := fun d => by
      split
      · rename_i e; subst e; exact getD_set_self (by omega)
      · rename_i e; exact getD_set_other (fun q => e q.symm)
    have hb := S.cap b hf.2.1
    refine ⟨⟨by simpa using hlen, fun d hd => ?_, fun d hd => ?_⟩, fun d hd h0 => ?_, fun h0 => ?_⟩
    · rw [hget]; split
      · rename_i e; subst e
        rcases S.way b hf.2.1 with w | ⟨m, w1, w2⟩
        · omega
        · exact .inr ⟨m + cst t i, by omega, .step h w2⟩
      · exact S.way d hd
    · rw [hget]; split
      · omega
      · have := S.cap d hd; omega
    · rw [hget]; split
      · rename_i e; subst e; omega
      · omega
    · rw [hget, if_pos rfl]; omega
  · rename_i g
    refine ⟨⟨hlen, S.way, fun d hd => by have := S.cap d hd; omega⟩, fun d hd h0 => ⟨h0, Int.le_refl _⟩, fun h0 => ?_⟩
    rcases S.way a hf.1 with w | ⟨m, w1, w2⟩ <;> omega
theorem Less.trans {n : Nat} {o1 o2 o3 : List Int} (h : Less n o1 o2) (k : Less n o2 o3) : Less n o1 o3 := fun d hd h0 => by
  have h1 := h d hd h0
  have h2 := k d hd h1.1
  omega
theorem Sound.least (S : Sound t f z out B) {d : Nat} (hd : d < t.devs.xs.length) (h : 0 ≤ out.getD d 0) : 0 ≤ dOf t f z d ∧ dOf t f z d ≤ out.getD d 0 := by
  rcases S.way d hd with w | ⟨m, w1, w2⟩
  · omega
  · have := dOf_way w2; omega
/-- r rounds are done, and k links of the next one -/
structure BfI (t : Topo) (f : Fail) (z : Nat) (out : List Int) (r k : Nat) : Prop where
  s : Sound t f z out (2000 * ((r * t.links.xs.length + k : Nat) : Int))
  hit : ∀ d, 0 ≤ dOf t f z d → nlv t f z d ≤ r → out.getD d 0 = dOf t f z d
  new : ∀ i, i < k → ∀ a b : Nat, hop t f i a b → 0 ≤ dOf t f z b → nlv t f z b ≤ r → 0 ≤ out.getD a 0 ∧ out.getD a 0 ≤ dOf t f z b + cst t i
variable {r k : Nat}
theorem BfI.start (hV : topV t) (hl : out.length = t.devs.xs.length) (hz : z < t.devs.xs.length) (h : ∀ d, d < t.devs.xs.length → out.getD d 0 = if d = z ∧ ¬ ((z : Nat) : Int) ∈ f.devs.xs then 0 else -1) : BfI t f z out 0 0 := by
  refine ⟨⟨hl, fun d hd => ?_, fun d hd => ?_⟩, fun d hd hlev => ?_, fun i hi => absurd hi (Nat.not_lt_zero _)⟩
  · rw [h d hd]; split
    · rename_i e; obtain ⟨rfl, e2⟩ := e; exact .inr ⟨0, rfl, .stay hz e2⟩
    · exact .inl rfl
  · rw [h d hd]; split <;> omega
  · have hdl := dOf_lt hV hd
    rw [h d hdl]
    by_cases e : d = z
    · subst e
      have := dOf_alive hV hd
      rw [if_pos ⟨rfl, this⟩, dOf_self hz this]
    · obtain ⟨i, b, hh, hb, he⟩ := dOf_first hd e
      have := (hop_facts hV hh).2.2.2.1
      have := lv_lt hV hb (a := d) (by omega)
      omega
theorem BfI.skip (I : BfI t f z out r k) (hu : ¬ usableR t f (k : Nat)) : BfI t f z out r (k + 1) :=
  ⟨⟨I.s.len, I.s.way, fun d hd => by have := I.s.cap d hd; omega⟩, I.hit, fun i hi a b hh => by
    rcases Nat.lt_succ_iff_lt_or_eq.1 hi with g | rfl
    · exact I.new i g a b hh
    · exact absurd hh.2.1 hu⟩
theorem BfI.link (I : BfI t f z out r k) (hV : topV t) (hk : k < t.links.xs.length) (hu : usableR t f (k : Nat)) {a b : Nat} (ha : (lnk t (k : Nat)).a = (a : Int)) (hb : (lnk t (k : Nat)).b = (b : Int)) :
    BfI t f z (relaxL (relaxL out a b (lnk t (k : Nat)).cost) b a (lnk t (k : Nat)).cost) r (k + 1) := by
  have h1 : hop t f k a b := ⟨hk, hu, .inl ⟨ha, hb⟩⟩
  obtain ⟨S1, L1, N1⟩ := I.s.relax hV (by omega) h1 rfl
  obtain ⟨S2, L2, N2⟩ := S1.relax hV (by omega) h1.symm rfl
  have L := L1.trans L2
  refine ⟨⟨S2.len, S2.way, fun d hd => by have := S2.cap d hd; omega⟩, fun d hd hl => ?_, fun i hi x y hh hy hl => ?_⟩
  · have hdl := dOf_lt hV hd
    have e := I.hit d hd hl
    have h2 := L d hdl (by omega)
    have h3 := S2.least hdl h2.1
    omega
  · have hf := hop_facts hV hh
    rcases Nat.lt_succ_iff_lt_or_eq.1 hi with g | rfl
    · have h2 := I.new i g x y hh hy hl
      have h3 := L x hf.1 h2.1
      omega
    · have e := I.hit y hy hl
      obtain ⟨_, _, hxy⟩ := hh
      rw [ha, hb] at hxy
      have hq : x = a ∧ y = b ∨ x = b ∧ y = a := by omega
      rcases hq with ⟨rfl, rfl⟩ | ⟨rfl, rfl⟩
      · have h2 := N1 (by omega)
        have h3 := L2 x hf.1 h2.1
        omega
      · have h2 := L1 y hf.2.1 (by omega)
        have h3 := N2 h2.1
        omega
theorem BfI.next (I : BfI t f z out r t.links.xs.length) (hV : topV t) : BfI t f z out (r + 1) 0 := by
  refine ⟨⟨I.s.len, I.s.way, fun d hd => ?_⟩, fun d hd hl => ?_, fun i hi => absurd hi (Nat.not_lt_zero _)⟩
  · have := I.s.cap d hd
    have e : (r + 1) * t.links.xs.length + 0 = r * t.links.xs.length + t.links.xs.length := by rw [Nat.add_mul]; omega
    rw [e]; exact this
  · by_cases g : nlv t f z d ≤ r
    · exact I.hit d hd g
    · have hdl := dOf_lt hV hd
      have hz : d ≠ z := by
        rintro rfl
        obtain ⟨_, _, w, _⟩ := dOf_pos hd
        have e := dOf_self w.goal.1 w.goal.2
        have : nlv t f d d = 0 := by
          apply Classical.byContradiction
          intro hne
          have h1 : nlv t f d d < nlv t f d d ∨ True := .inr trivial
          have h2 : card t.devs.xs.length (fun e => 0 ≤ dOf t f d e ∧ dOf t f d e < dOf t f d d) ≤ card t.devs.xs.length (fun _ => False) := card_mono fun e _ he => by omega
          have h3 : ∀ n, card n (fun _ => False) = 0 := fun n => by induction n with
            | zero => rfl
            | succ n ih => rw [card, if_neg (fun h => h), ih]
          rw [h3] at h2
          unfold nlv at hne
          omega
        omega
      obtain ⟨i, b, hh, hb, he⟩ := dOf_first hd hz
      have hf := hop_facts hV hh
      have hlt := lv_lt hV hb (a := d) (by omega)
      have h2 := I.new i hh.1 d b hh hb (by omega)
      have h3 := I.s.least hdl h2.1
      omega
theorem BfI.all (I : BfI t f z out t.devs.xs.length 0) (hV : topV t) : distsOf t f z = out :=
  dists_is I.s.len fun d hd => by
    rcases dOf_cases (t := t) (f := f) (z := z) d with h | h
    · rcases I.s.way d hd with w | ⟨m, w1, w2⟩
      · omega
      · have := dOf_way w2; omega
    · exact I.hit d h (Nat.le_of_lt (lv_n hV h))
end
section
variable {t : Topo} {f : Fail} {out : List Int} {r k : Nat} {dz : Int}
theorem BfI.start1 (HV : failV t f) (h0 : 0 ≤ dz) (h1 : dz < t.devs.xs.length) (hl : out.length = t.devs.xs.length) (h : ∀ d, d < t.devs.xs.length → out.getD d 0 = -1) (ha : aliveV t f dz) : BfI t f dz.toNat (out.set dz.toNat 0) 0 0 := by
  have e : ((dz.toNat : Nat) : Int) = dz := Int.toNat_of_nonneg h0
  refine BfI.start HV.1.1 (by simpa using hl) (by omega) fun d hd => ?_
  rw [e]
  by_cases g : d = dz.toNat
  · rw [if_pos ⟨g, ha.2⟩, g, getD_set_self (by omega)]
  · rw [if_neg (fun q => g q.1), getD_set_other (fun q => g q.symm), h d hd]
theorem BfI.start0 (HV : failV t f) (h0 : 0 ≤ dz) (h1 : dz < t.devs.xs.length) (hl : out.length = t.devs.xs.length) (h : ∀ d, d < t.devs.xs.length → out.getD d 0 = -1) (ha : ¬ aliveV t f dz) : BfI t f dz.toNat out 0 0 := by
  have e : ((dz.toNat : Nat) : Int) = dz := Int.toNat_of_nonneg h0
  refine BfI.start HV.1.1 hl (by omega) fun d hd => ?_
  rw [e, if_neg (fun q => ha ⟨⟨⟨HV, h0⟩, h1⟩, q.2⟩), h d hd]
theorem BfI.caps (I : BfI t f dz.toNat out r k) (HV : topV t) (hr : r ≤ t.devs.xs.length) (hk : k ≤ t.links.xs.length) : ∀ d, out.getD d 0 ≤ 900000 := fun d => by
  have hb := HV.1
  unfold topB at hb
  by_cases g : d < t.devs.xs.length
  · have h1 := I.s.cap d g
    have h2 : r * t.links.xs.length ≤ 12 * 24 := Nat.mul_le_mul (by omega) (by omega)
    omega
  · rw [List.getD_eq_getElem?_getD, List.getElem?_eq_none (by rw [I.s.len]; omega)]; decide
theorem relax_caps {a b : Nat} {c : Int} (h : ∀ d, out.getD d 0 ≤ 900000) (hc : c ≤ 1000) : ∀ d, (relaxL out a b c).getD d 0 ≤ 1000000 := fun d => by
  unfold relaxL
  have h1 := h d
  have h2 := h b
  split
  · by_cases g : a = d
    · subst g
      by_cases e : a < out.length
      · rw [getD_set_self e]; omega
      · rw [List.getD_eq_getElem?_getD, List.getElem?_eq_none (by simp; omega)]; decide
    · rw [getD_set_other g]; omega
  · omega
theorem caps_up (h : ∀ d, out.getD d 0 ≤ 900000) : ∀ d, out.getD d 0 ≤ 1000000 := fun d => by have := h d; omega
end
/-- the device at the other end, or -1; and 0 -/
def otherOf (l : Lnk) (d : Int) : Int := if d = l.a then l.b else if d = l.b then l.a else -1
def otherTo (l : Lnk) (d : Int) : Int := if d = l.a then l.b else if d = l.b then l.a else 0
end Go.Proofs.Ytfanmniaolncbaa.V
