/- The examples of the chapter: three devices connected by three links. -/
import Derived.Test.YtfanmniaolncbaaGenM
set_option linter.unusedVariables false
set_option linter.unusedSimpArgs false
namespace Go.Proofs.Ytfanmniaolncbaa.V
open Go.RowKit
def triD : List Dev := [⟨⟨#[97]⟩, 0, false, false, ⟨#[]⟩⟩, ⟨⟨#[98]⟩, 0, false, false, ⟨#[]⟩⟩, ⟨⟨#[99]⟩, 0, false, false, ⟨#[]⟩⟩]
def triL : List Lnk := [⟨0, 1, 1⟩, ⟨1, 2, 1⟩, ⟨0, 2, 1⟩]
structure isTri (t : Topo) : Prop where
  d : t.devs.xs = triD
  l : t.links.xs = triL
  e : t.edges.xs = []
  p : t.pools.xs = []
  tol : t.tol = 1
section
variable {t : Topo} {f : Fail}
theorem tri_use (hf : f.devs.xs = []) (i : Int) : usableR t f i ↔ ¬ i ∈ f.links.xs := by
  unfold usableR; rw [hf]; simp
theorem tri_cv (hf : f.devs.xs = []) (s : Int) (a b : Nat) : cv t f s a = cv t f s b ↔ Conn (linkR t f s t.links.xs.length) a b := by
  unfold cv; rw [hf, if_neg (by simp), if_neg (by simp), ← lab_eq]; omega
end
section
variable {t : Topo} {f : Fail} (h : isTri t)
include h
theorem tri_valid : topV t := by
  refine ⟨?_, fun i hi => ?_, fun i hi => ?_, fun i hi => ?_, fun i hi => ?_, fun i hi => ?_⟩
  · unfold topB; rw [h.d, h.l, h.e, h.p, h.tol]; decide
  · rw [h.d] at hi ⊢
    have hi3 : i = 0 ∨ i = 1 ∨ i = 2 := by have : i < 3 := hi; omega
    have hv : ∀ d ∈ triD, devV d := by
      intro d hd
      simp only [triD, List.mem_cons, List.not_mem_nil, or_false] at hd
      rcases hd with rfl | rfl | rfl <;> exact ⟨vname_of (by decide), by decide, by decide, .inl rfl⟩
    refine ⟨hv _ (getD_mem hi), ?_⟩
    rcases hi3 with rfl | rfl | rfl <;> decide
  · rw [h.l] at hi ⊢
    rw [h.d]
    have hi3 : i = 0 ∨ i = 1 ∨ i = 2 := by have : i < 3 := hi; omega
    unfold lnkV
    rcases hi3 with rfl | rfl | rfl <;> decide
  · rw [h.e] at hi; simp at hi
  · rw [h.e] at hi; simp at hi
  · rw [h.p] at hi; simp at hi
theorem tri_all : (allOf t).length = 7 := by
  unfold allOf
  rw [if_pos (tri_valid h), h.tol, if_pos (by decide), if_neg (by decide), List.append_nil, List.length_map, List.length_cons, singles_len]
  unfold elems; rw [h.d, h.l]; rfl
theorem tri_lnk (i : Nat) : lnk t i = triL.getD i lnkE.dflt := by unfold lnk; rw [h.l]; rfl
/-- links of the triangle as pairs -/
theorem tri_link (hf : f.devs.xs = []) (s : Int) (a b : Nat) : linkR t f s t.links.xs.length a b ↔ (¬ 0 = s ∧ ¬ 0 ∈ f.links.xs ∧ a = 0 ∧ b = 1) ∨ (¬ 1 = s ∧ ¬ 1 ∈ f.links.xs ∧ a = 1 ∧ b = 2) ∨ (¬ 2 = s ∧ ¬ 2 ∈ f.links.xs ∧ a = 0 ∧ b = 2) := by
  have hl : t.links.xs.length = 3 := by rw [h.l]; rfl
  constructor
  · rintro ⟨i, h1, h2, h3, h4, h5⟩
    rw [tri_use hf] at h3
    rw [tri_lnk h] at h4 h5
    have hi3 : i = 0 ∨ i = 1 ∨ i = 2 := by omega
    rcases hi3 with rfl | rfl | rfl
    · refine .inl ⟨h2, h3, ?_, ?_⟩ <;> simp [triL] at h4 h5 <;> omega
    · refine .inr (.inl ⟨h2, h3, ?_, ?_⟩) <;> simp [triL] at h4 h5 <;> omega
    · refine .inr (.inr ⟨h2, h3, ?_, ?_⟩) <;> simp [triL] at h4 h5 <;> omega
  · rintro (⟨h1, h2, rfl, rfl⟩ | ⟨h1, h2, rfl, rfl⟩ | ⟨h1, h2, rfl, rfl⟩)
    · exact ⟨0, by omega, h1, (tri_use hf _).2 h2, by rw [tri_lnk h]; rfl, by rw [tri_lnk h]; rfl⟩
    · exact ⟨1, by omega, h1, (tri_use hf _).2 h2, by rw [tri_lnk h]; rfl, by rw [tri_lnk h]; rfl⟩
    · exact ⟨2, by omega, h1, (tri_use hf _).2 h2, by rw [tri_lnk h]; rfl, by rw [tri_lnk h]; rfl⟩
theorem tri_bridge (hf : f.devs.xs = []) (i : Nat) : bridge t f i ↔ ¬ ((i : Nat) : Int) ∈ f.links.xs ∧ ¬ Conn (linkR t f (i : Nat) t.links.xs.length) (triL.getD i lnkE.dflt).a.toNat (triL.getD i lnkE.dflt).b.toNat := by
  unfold bridge
  rw [tri_use hf, tri_cv hf, tri_lnk h]
theorem tri_state (hf : f.devs.xs = []) (hl : f.links.xs = [] ∨ f.links.xs = [0]) : failV t f := by
  refine ⟨⟨tri_valid h, ?_⟩, by rw [hf]; exact fun i hi => by simp at hi⟩
  rcases hl with e | e <;> rw [e, h.l]
  · exact fun i hi => by simp at hi
  · intro i hi
    obtain rfl : i = 0 := by simpa using hi
    exact ⟨by decide, by decide, fun h => absurd h (Nat.lt_irrefl _)⟩
theorem tri_none (hf : f.devs.xs = []) (hl : f.links.xs = []) : bridgesOf t f = [] := by
  have hv := tri_state h hf (.inl hl)
  have hlen : t.links.xs.length = 3 := by rw [h.l]; rfl
  have e01 : ∀ s : Int, ¬ 0 = s → linkR t f s t.links.xs.length 0 1 := fun s hs => (tri_link h hf s 0 1).2 (.inl ⟨hs, by rw [hl]; simp, rfl, rfl⟩)
  have e12 : ∀ s : Int, ¬ 1 = s → linkR t f s t.links.xs.length 1 2 := fun s hs => (tri_link h hf s 1 2).2 (.inr (.inl ⟨hs, by rw [hl]; simp, rfl, rfl⟩))
  have e02 : ∀ s : Int, ¬ 2 = s → linkR t f s t.links.xs.length 0 2 := fun s hs => (tri_link h hf s 0 2).2 (.inr (.inr ⟨hs, by rw [hl]; simp, rfl, rfl⟩))
  unfold bridgesOf
  have b0 : ¬ bridge t f 0 := fun e => ((tri_bridge h hf 0).1 e).2 ((Conn.one (e02 _ (by decide))).trans (Conn.one (e12 _ (by decide))).symm)
  have b1 : ¬ bridge t f 1 := fun e => ((tri_bridge h hf 1).1 e).2 ((Conn.one (e01 _ (by decide))).symm.trans (Conn.one (e02 _ (by decide))))
  have b2 : ¬ bridge t f 2 := fun e => ((tri_bridge h hf 2).1 e).2 ((Conn.one (e01 _ (by decide))).trans (Conn.one (e12 _ (by decide))))
  rw [hlen, bridges_not hv b2, bridges_not hv b1, bridges_not hv b0, bridges_zero]
theorem tri_two (hf : f.devs.xs = []) (hl : f.links.xs = [0]) : bridgesOf t f = [1, 2] ∧ connV t f 0 1 ∧ ¬ usableV t f 0 ∧ failV t f := by
  have hv := tri_state h hf (.inr hl)
  have hlen : t.links.xs.length = 3 := by rw [h.l]; rfl
  have hdl : t.devs.xs.length = 3 := by rw [h.d]; rfl
  have e12 : ∀ s : Int, ¬ 1 = s → linkR t f s t.links.xs.length 1 2 := fun s hs => (tri_link h hf s 1 2).2 (.inr (.inl ⟨hs, by rw [hl]; decide, rfl, rfl⟩))
  have e02 : ∀ s : Int, ¬ 2 = s → linkR t f s t.links.xs.length 0 2 := fun s hs => (tri_link h hf s 0 2).2 (.inr (.inr ⟨hs, by rw [hl]; decide, rfl, rfl⟩))
  have b0 : ¬ bridge t f 0 := fun e => ((tri_bridge h hf 0).1 e).1 (by rw [hl]; decide)
  have b1 : bridge t f 1 := (tri_bridge h hf 1).2 ⟨by rw [hl]; decide, fun c => by
    have := Conn.stay (p := fun x => x = 1) (fun a b r => by
      rcases (tri_link h hf _ a b).1 r with ⟨_, h2, _⟩ | ⟨h1, _⟩ | ⟨_, _, rfl, rfl⟩
      · exact absurd (by rw [hl]; decide) h2
      · exact absurd rfl h1
      · decide) c
    exact absurd this (by decide)⟩
  have b2 : bridge t f 2 := (tri_bridge h hf 2).2 ⟨by rw [hl]; decide, fun c => by
    have := Conn.stay (p := fun x => x = 0) (fun a b r => by
      rcases (tri_link h hf _ a b).1 r with ⟨_, h2, _⟩ | ⟨_, _, rfl, rfl⟩ | ⟨h1, _⟩
      · exact absurd (by rw [hl]; decide) h2
      · decide
      · exact absurd rfl h1) c
    exact absurd this (by decide)⟩
  refine ⟨?_, ⟨⟨⟨⟨⟨hv, by decide⟩, by rw [hdl]; decide⟩, by rw [hf]; simp⟩, ⟨⟨⟨hv, by decide⟩, by rw [hdl]; decide⟩, by rw [hf]; simp⟩⟩, (tri_cv hf (-1) 0 1).2 ((Conn.one (e02 _ (by decide))).trans (Conn.one (e12 _ (by decide))).symm)⟩, fun e => e.2.1.1 (by rw [hl]; decide), hv⟩
  unfold bridgesOf
  rw [hlen, bridges_yes hv b2, bridges_yes hv b1, bridges_not hv b0, bridges_zero]; rfl
end
end Go.Proofs.Ytfanmniaolncbaa.V
