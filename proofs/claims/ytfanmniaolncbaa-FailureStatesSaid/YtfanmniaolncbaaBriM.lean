/- One more link that fails; bridges; lists of failure states. -/
import Derived.Test.YtfanmniaolncbaaLabM
set_option linter.unusedVariables false
set_option linter.unusedSimpArgs false
namespace Go.Proofs.Ytfanmniaolncbaa.V
open Go.RowKit
section
variable {t : Topo} {f : Fail} {a b : Int}
theorem aliveV_nat (h : aliveV t f a) : 0 ≤ a ∧ a.toNat < t.devs.xs.length := by
  obtain ⟨⟨⟨_, h1⟩, h2⟩, _⟩ := h; exact ⟨h1, by omega⟩
theorem compsV_len (h : failV t f) : (compsV t f).length = t.devs.xs.length := by unfold compsV; rw [if_pos h]; exact comps_len t f (-1)
theorem compsV_lt (h : aliveV t f a) : a.toNat < (compsV t f).length := by rw [compsV_len h.1.1.1]; exact (aliveV_nat h).2
theorem compsV_at (h : aliveV t f a) : (compsV t f).getD a.toNat 0 = cv t f (-1) a.toNat := by unfold compsV; rw [if_pos h.1.1.1]; exact comps_at (aliveV_nat h).2
theorem compsV_conn : connV t f a b ↔ (aliveV t f a ∧ aliveV t f b) ∧ (compsV t f).getD a.toNat 0 = (compsV t f).getD b.toNat 0 := by
  unfold connV
  constructor
  · rintro ⟨⟨h1, h2⟩, h3⟩; exact ⟨⟨h1, h2⟩, by rw [compsV_at h1, compsV_at h2]; exact h3⟩
  · rintro ⟨⟨h1, h2⟩, h3⟩; exact ⟨⟨h1, h2⟩, by rw [compsV_at h1, compsV_at h2] at h3; exact h3⟩
end
/-- a number put into a list of numbers that ascends -/
def woStep (v : Int) (s : List Int × Bool) (x : Int) : List Int × Bool :=
  let s1 := if ¬ s.2 = true ∧ v ≤ x then (s.1 ++ [v], true) else s
  if ¬ x = v then (s1.1 ++ [x], s1.2) else s1
def woFold (l : List Int) (v : Int) : List Int × Bool := l.foldl (woStep v) ([], false)
def withoutL (l : List Int) (v : Int) : List Int := if (woFold l v).2 = true then (woFold l v).1 else (woFold l v).1 ++ [v]
theorem take_snocD {α : Type} (d : α) {l : List α} {k : Nat} (hk : k < l.length) : l.take (k + 1) = l.take k ++ [l.getD k d] := by
  rw [List.take_add_one, List.getD_eq_getElem?_getD, List.getElem?_eq_getElem hk]; rfl
theorem woFold_snoc {l : List Int} {v : Int} {k : Nat} (hk : k < l.length) : woFold (l.take (k + 1)) v = woStep v (woFold (l.take k) v) (l.getD k 0) := by
  rw [take_snocD 0 hk]; unfold woFold; rw [List.foldl_append]; rfl
/-- what the fold holds after the first numbers of an ascending list -/
structure WoI (v : Int) (l : List Int) (s : List Int × Bool) : Prop where
  asc : s.1.Pairwise (· < ·)
  mem : ∀ x, x ∈ s.1 ↔ (x ∈ l ∧ ¬ x = v) ∨ (s.2 = true ∧ x = v)
  low : s.2 = false → ∀ x ∈ l, x < v
  hi : s.2 = true → ∃ y ∈ l, v ≤ y
theorem wo_step {v x : Int} {l : List Int} {s : List Int × Bool} (h : WoI v l s) (hx : ∀ y ∈ l, y < x) : WoI v (l ++ [x]) (woStep v s x) := by
  obtain ⟨a, d⟩ := s
  have ha := h.asc
  have hm := h.mem
  have hl := h.low
  have hh := h.hi
  simp only at ha hm hl hh
  unfold woStep
  cases d
  · have hl' := hl rfl
    have hav : ∀ y ∈ a, y < v := fun y hy => by
      rcases (hm y).1 hy with h | h
      · exact hl' y h.1
      · cases h.1
    have hax : ∀ y ∈ a, y < x := fun y hy => by
      rcases (hm y).1 hy with h | h
      · exact hx y h.1
      · cases h.1
    by_cases hvx : v ≤ x
    · by_cases hxv : x = v
      · subst hxv
        simp only [Bool.false_eq_true, not_false_eq_true, Int.le_refl, and_self, if_true, not_true, if_false]
        refine ⟨List.pairwise_append.2 ⟨ha, List.pairwise_singleton _ _, fun y hy z hz => by rw [List.mem_singleton.1 hz]; exact hav y hy⟩, fun y => ?_, fun h => (by cases h), ?_⟩
        · simp only [List.mem_append, List.mem_singleton, hm]
          constructor
          · rintro ((h | h) | h)
            · exact .inl ⟨.inl h.1, h.2⟩
            · cases h.1
            · exact .inr ⟨trivial, h⟩
          · rintro (⟨h1 | h1, h2⟩ | ⟨_, h⟩)
            · exact .inl (.inl ⟨h1, h2⟩)
            · exact absurd h1 h2
            · exact .inr h
        · exact fun _ => ⟨x, List.mem_append_right _ (List.mem_singleton.2 rfl), Int.le_refl _⟩
      · simp only [Bool.false_eq_true, not_false_eq_true, hvx, and_self, if_true, hxv]
        refine ⟨List.pairwise_append.2 ⟨List.pairwise_append.2 ⟨ha, List.pairwise_singleton _ _, fun y hy z hz => by rw [List.mem_singleton.1 hz]; exact hav y hy⟩, List.pairwise_singleton _ _, fun y hy z hz => ?_⟩, fun y => ?_, fun h => (by cases h), ?_⟩
        · rw [List.mem_singleton.1 hz]
          rcases List.mem_append.1 hy with h | h
          · exact hax y h
          · rw [List.mem_singleton.1 h]; omega
        · simp only [List.mem_append, List.mem_singleton, hm]
          constructor
          · rintro (((h | h) | h) | h)
            · exact .inl ⟨.inl h.1, h.2⟩
            · cases h.1
            · exact .inr ⟨trivial, h⟩
            · exact .inl ⟨.inr h, by rw [h]; exact hxv⟩
          · rintro (⟨h1 | h1, h2⟩ | ⟨_, h⟩)
            · exact .inl (.inl (.inl ⟨h1, h2⟩))
            · exact .inr h1
            · exact .inl (.inr h)
        · exact fun _ => ⟨x, List.mem_append_right _ (List.mem_singleton.2 rfl), hvx⟩
    · have hxv : ¬ x = v := by omega
      simp only [Bool.false_eq_true, not_false_eq_true, hvx, and_false, if_false, hxv, if_true]
      refine ⟨List.pairwise_append.2 ⟨ha, List.pairwise_singleton _ _, fun y hy z hz => by rw [List.mem_singleton.1 hz]; exact hax y hy⟩, fun y => ?_, fun _ y hy => ?_, fun h => (by cases h)⟩
      · simp only [List.mem_append, List.mem_singleton, hm]
        constructor
        · rintro ((h | h) | h)
          · exact .inl ⟨.inl h.1, h.2⟩
          · cases h.1
          · exact .inl ⟨.inr h, by rw [h]; exact hxv⟩
        · rintro (⟨h1 | h1, h2⟩ | ⟨h, _⟩)
          · exact .inl (.inl ⟨h1, h2⟩)
          · exact .inr h1
          · cases h
      · rcases List.mem_append.1 hy with h | h
        · exact hl' y h
        · rw [List.mem_singleton.1 h]; omega
  · obtain ⟨y0, hy0, hvy⟩ := hh rfl
    have hy0x := hx y0 hy0
    have hxv : ¬ x = v := by omega
    simp only [not_true, false_and, if_false]
    rw [if_pos hxv]
    refine ⟨List.pairwise_append.2 ⟨ha, List.pairwise_singleton _ _, fun y hy z hz => ?_⟩, fun y => ?_, fun h => (by cases h), fun _ => ⟨y0, List.mem_append_left _ hy0, hvy⟩⟩
    · rw [List.mem_singleton.1 hz]
      rcases (hm y).1 hy with h | h
      · exact hx y h.1
      · rw [h.2]; omega
    · simp only [List.mem_append, List.mem_singleton, hm]
      constructor
      · rintro ((h | h) | h)
        · exact .inl ⟨.inl h.1, h.2⟩
        · exact .inr h
        · exact .inl ⟨.inr h, by rw [h]; exact hxv⟩
      · rintro (⟨h1 | h1, h2⟩ | h)
        · exact .inl (.inl ⟨h1, h2⟩)
        · exact .inr h1
        · exact .inl (.inr h)
theorem rising_iff {l : List Int} {n : Int} : rising l n ↔ l.Pairwise (· < ·) ∧ ∀ x ∈ l, 0 ≤ x ∧ x < n := by
  constructor
  · intro h
    have asc : ∀ d i, i + d < l.length → 0 < d → l.getD i 0 < l.getD (i + d) 0 := fun d => by
      induction d with
      | zero => intro i _ h; omega
      | succ d ih =>
        intro i hi _
        have h1 := (h (i + (d + 1)) hi).2.2 (by omega)
        rw [show i + (d + 1) - 1 = i + d from by omega] at h1
        rcases Nat.eq_zero_or_pos d with e | e
        · subst e; exact h1
        · have := ih i (by omega) e; omega
    refine ⟨(pw_getD 0 _ _).2 fun i hi j hj => ?_, fun x hx => ?_⟩
    · have := asc (i - j) j (by omega) (by omega)
      rwa [show j + (i - j) = i from by omega] at this
    · obtain ⟨i, hi, rfl⟩ := mem_getD 0 hx
      exact ⟨(h i hi).1, (h i hi).2.1⟩
  · rintro ⟨h1, h2⟩ i hi
    have h3 := (pw_getD 0 _ _).1 h1
    exact ⟨(h2 _ (getD_mem hi)).1, (h2 _ (getD_mem hi)).2, fun h => h3 i hi (i - 1) (by omega)⟩
theorem rising_low {l : List Int} {n : Int} (h : rising l n) : ∀ i, i < l.length → (i : Int) ≤ l.getD i 0 := by
  intro i
  induction i with
  | zero => intro hi; exact (h 0 hi).1
  | succ i ih =>
    intro hi
    have h1 := ih (by omega)
    have h2 := (h (i + 1) hi).2.2 (by omega)
    rw [show i + 1 - 1 = i from by omega] at h2
    omega
theorem rising_len {l : List Int} {n : Nat} (h : rising l n) : l.length ≤ n := by
  rcases Nat.eq_zero_or_pos l.length with e | e
  · omega
  · have h1 := rising_low h (l.length - 1) (by omega)
    have h2 := (h (l.length - 1) (by omega)).2.1
    omega
theorem failV_len {t : Topo} {f : Fail} (h : failV t f) : f.links.xs.length ≤ 24 ∧ f.devs.xs.length ≤ 12 := by
  have h1 := rising_len h.1.2
  have h2 := rising_len h.2
  have hb := h.1.1.1
  unfold topB at hb
  omega
theorem wo_fold {v : Int} : ∀ (l m : List Int) (s : List Int × Bool), (m ++ l).Pairwise (· < ·) → WoI v m s → WoI v (m ++ l) (l.foldl (woStep v) s)
  | [], m, s, _, h => by rw [List.append_nil]; exact h
  | x :: l, m, s, hp, h => by
    have h1 := wo_step (x := x) h fun y hy => (List.pairwise_append.1 hp).2.2 y hy x List.mem_cons_self
    have h2 := wo_fold l (m ++ [x]) _ (by rw [List.append_assoc]; exact hp) h1
    rw [List.append_assoc] at h2
    exact h2
theorem without_spec {l : List Int} {v : Int} (h : l.Pairwise (· < ·)) : (withoutL l v).Pairwise (· < ·) ∧ ∀ x, x ∈ withoutL l v ↔ x ∈ l ∨ x = v := by
  have I : WoI v l (woFold l v) := wo_fold l [] ([], false) h ⟨List.Pairwise.nil, fun x => by simp, fun _ x hx => by simp at hx, fun h => by cases h⟩
  unfold withoutL
  cases hd : (woFold l v).2
  · have hl := I.low hd
    rw [if_neg (by simp)]
    refine ⟨List.pairwise_append.2 ⟨I.asc, List.pairwise_singleton _ _, fun y hy z hz => ?_⟩, fun x => ?_⟩
    · rw [List.mem_singleton.1 hz]
      rcases (I.mem y).1 hy with h | h
      · exact hl y h.1
      · rw [hd] at h; cases h.1
    · simp only [List.mem_append, List.mem_singleton, I.mem, hd]
      constructor
      · rintro ((h | h) | h)
        · exact .inl h.1
        · cases h.1
        · exact .inr h
      · rintro (h | h)
        · exact .inl (.inl ⟨h, by have := hl x h; omega⟩)
        · exact .inr h
  · rw [if_pos rfl]
    refine ⟨I.asc, fun x => ?_⟩
    rw [I.mem, hd]
    constructor
    · rintro (h | h)
      · exact .inl h.1
      · exact .inr h.2
    · rintro (h | h)
      · by_cases e : x = v
        · exact .inr ⟨rfl, e⟩
        · exact .inl ⟨h, e⟩
      · exact .inr ⟨rfl, h⟩
section
variable {t : Topo} {f g : Fail} {i : Nat}
/-- g is f with link i failed, too -/
def OneMore (g f : Fail) (i : Int) : Prop := g.links.xs = withoutL f.links.xs i ∧ g.devs.xs = f.devs.xs
theorem more_valid (hf : failV t f) (hi : i < t.links.xs.length) (h : OneMore g f i) : failV t g := by
  obtain ⟨h1, h2⟩ := rising_iff.1 hf.1.2
  obtain ⟨h3, h4⟩ := without_spec (v := (i : Int)) h1
  refine ⟨⟨hf.1.1, ?_⟩, by rw [h.2]; exact hf.2⟩
  rw [h.1]
  refine rising_iff.2 ⟨h3, fun x hx => ?_⟩
  rcases (h4 x).1 hx with h | h
  · exact h2 x h
  · omega
theorem more_usable (hf : failV t f) (h : OneMore g f i) (j : Int) : usableR t g j ↔ usableR t f j ∧ ¬ j = (i : Int) := by
  obtain ⟨h1, h2⟩ := rising_iff.1 hf.1.2
  obtain ⟨h3, h4⟩ := without_spec (v := (i : Int)) h1
  unfold usableR
  rw [h.1, h.2, h4]
  constructor
  · rintro ⟨⟨a, b⟩, c⟩; exact ⟨⟨⟨fun e => a (.inl e), b⟩, c⟩, fun e => a (.inr e)⟩
  · rintro ⟨⟨⟨a, b⟩, c⟩, d⟩; exact ⟨⟨fun e => e.elim a d, b⟩, c⟩
theorem more_link (hf : failV t f) (h : OneMore g f i) (a b : Nat) : useR t g (-1) a b ↔ useR t f (i : Nat) a b := by
  constructor
  · rintro ⟨j, h1, h2, h3, h4⟩
    obtain ⟨h5, h6⟩ := (more_usable hf h j).1 h3
    exact ⟨j, h1, h6, h5, h4⟩
  · rintro ⟨j, h1, h2, h3, h4⟩
    exact ⟨j, h1, by omega, (more_usable hf h j).2 ⟨h3, h2⟩, h4⟩
theorem more_cv (hf : failV t f) (h : OneMore g f i) (j : Nat) : cv t g (-1) j = cv t f (i : Nat) j := by
  unfold cv
  rw [h.2]
  have := lab_congr (more_link hf h) j
  unfold useR at this
  rw [this]
/-- a bridge: usable, and its ends are divided without it -/
def bridge (t : Topo) (f : Fail) (i : Nat) : Prop := usableR t f (i : Nat) ∧ ¬ cv t f (i : Nat) (lnk t (i : Nat)).a.toNat = cv t f (i : Nat) (lnk t (i : Nat)).b.toNat
theorem bridge_ref (hf : failV t f) (hi : i < t.links.xs.length) (h : OneMore g f i) : bridge t f i ↔ usableV t f (i : Nat) ∧ ¬ connV t g (lnk t (i : Nat)).a (lnk t (i : Nat)).b := by
  have hl : lnkV t.devs.xs.length (lnk t (i : Nat)) := topV_link hf.1.1 hi
  unfold lnkV at hl
  unfold bridge connV
  rw [usable_iff hf hi, more_cv hf h, more_cv hf h]
  constructor
  · rintro ⟨h1, h2⟩; exact ⟨h1, fun e => h2 e.2⟩
  · rintro ⟨h1, h2⟩
    refine ⟨h1, fun e => h2 ⟨⟨⟨⟨⟨more_valid hf hi h, by omega⟩, by omega⟩, ?_⟩, ⟨⟨⟨more_valid hf hi h, by omega⟩, by omega⟩, ?_⟩⟩, e⟩⟩
    · rw [h.2]; exact h1.1.2
    · rw [h.2]; exact h1.2
end
noncomputable instance (t : Topo) (f : Fail) (i : Nat) : Decidable (bridge t f i) := Classical.propDecidable _
theorem bridge_dual {t : Topo} {f g : Fail} {i : Nat} (hu : usableV t f (i : Nat)) (hi : i < t.links.xs.length) (h : OneMore g f i) : connV t g (t.links.xs.getD i lnkE.dflt).a (t.links.xs.getD i lnkE.dflt).b ↔ ¬ bridge t f i := by
  rw [bridge_ref hu.1.1.1 hi h]
  constructor
  · intro h1 h2; exact h2.2 h1
  · intro h1; exact Classical.byContradiction fun h2 => h1 ⟨hu, h2⟩
open Classical in
noncomputable def bridgesTo (t : Topo) (f : Fail) (k : Nat) : List Int := if failV t f then ((List.range k).filter (fun i => decide (bridge t f i))).map (fun i => ((i : Nat) : Int)) else []
noncomputable def bridgesOf (t : Topo) (f : Fail) : List Int := bridgesTo t f t.links.xs.length
theorem bridges_no {t : Topo} {f : Fail} {k : Nat} (h : ¬ failV t f) : bridgesTo t f k = [] := by unfold bridgesTo; rw [if_neg h]
theorem bridges_yes {t : Topo} {f : Fail} {k : Nat} (h : failV t f) (hb : bridge t f k) : bridgesTo t f (k + 1) = bridgesTo t f k ++ [((k : Nat) : Int)] := by
  unfold bridgesTo
  rw [if_pos h, if_pos h, List.range_succ, List.filter_append, List.map_append]
  simp [hb]
theorem bridges_not {t : Topo} {f : Fail} {k : Nat} (h : failV t f) (hb : ¬ bridge t f k) : bridgesTo t f (k + 1) = bridgesTo t f k := by
  unfold bridgesTo
  rw [if_pos h, if_pos h, List.range_succ, List.filter_append, List.map_append]
  simp [hb]
theorem bridges_zero {t : Topo} {f : Fail} : bridgesTo t f 0 = [] := by unfold bridgesTo; split <;> simp
theorem bridges_len {t : Topo} {f : Fail} {k : Nat} : (bridgesTo t f k).length ≤ k := by
  unfold bridgesTo
  split
  · rw [List.length_map]; exact Nat.le_trans (List.length_filter_le _ _) (by simp)
  · exact Nat.zero_le _
end Go.Proofs.Ytfanmniaolncbaa.V
