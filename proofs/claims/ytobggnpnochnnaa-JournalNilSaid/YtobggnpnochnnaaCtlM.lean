/- The controller of an update, plain. -/
import Derived.Test.YtobggnpnochnnaaTD
import Derived.Test.YtobggnpnochnnaaTopE
set_option linter.unusedVariables false
set_option linter.unusedSimpArgs false
namespace Go.Proofs.Ytobggnpnochnnaa.V
open Go.RowKit
/-- a number put into an ascending list, unless it is there -/
def insW : List Int → Int → List Int
  | [], v => [v]
  | x :: t, v => if x < v then x :: insW t v else if x = v then x :: t else v :: x :: t
theorem insW_mem : ∀ {l : List Int} {v : Int}, l.Pairwise (· < ·) → v ∈ l → insW l v = l
  | x :: t, v, hp, h => by
    rw [List.pairwise_cons] at hp
    rcases List.mem_cons.1 h with rfl | h
    · rw [insW, if_neg (by omega), if_pos rfl]
    · have := hp.1 v h
      rw [insW, if_pos this, insW_mem hp.2 h]
theorem insW_new : ∀ {l : List Int} {v : Int} {r : Nat}, r ≤ l.length → (∀ k, k < r → l.getD k 0 < v) → (∀ k, r ≤ k → k < l.length → v ≤ l.getD k 0) → ¬ v ∈ l → insW l v = l.take r ++ [v] ++ l.drop r
  | [], v, r, hr, _, _, _ => by
    obtain rfl : r = 0 := by simpa using hr
    rfl
  | x :: t, v, 0, _, _, h2, hn => by
    have h := h2 0 (Nat.le_refl _) (by simp)
    have hx : v ≠ x := fun e => hn (by simp [e])
    have h' : v ≤ x := by simpa using h
    rw [insW, if_neg (by omega), if_neg (fun e => hx e.symm)]; rfl
  | x :: t, v, r + 1, hr, h1, h2, hn => by
    have h := h1 0 (by omega)
    have h' : x < v := by simpa using h
    rw [insW, if_pos h', insW_new (r := r) (by simpa using hr) (fun k hk => by simpa using h1 (k + 1) (by omega)) (fun k hk hl => by simpa using h2 (k + 1) (by omega) (by simpa using hl)) fun e => hn (List.mem_cons_of_mem _ e)]
    rfl
structure Ctl where
  round : Int
  back : Bool
  seq : Int
  target : List Int
  known : List Int
  waiting : List Int
  sent : List Int
def absM (m : Mach) : Ctl := ⟨m.round, m.back, m.seq, m.target.xs, m.known.xs, m.waiting.xs, m.sent.xs⟩
def rdsM (m : Mach) : List (List Chg) := m.rounds.xs.map fun l => l.xs
def stsM (m : Mach) : List (List Int) := m.states.xs.map fun l => l.xs
theorem rds_len (m : Mach) : (rdsM m).length = m.rounds.xs.length := List.length_map _
theorem sts_len (m : Mach) : (stsM m).length = m.states.xs.length := List.length_map _
theorem rds_at (m : Mach) (k : Nat) : (rdsM m).getD k [] = (m.rounds.xs.getD k (slE chgE).dflt).xs := by
  unfold rdsM
  rw [List.getD_eq_getElem?_getD, List.getD_eq_getElem?_getD, List.getElem?_map]
  cases m.rounds.xs[k]? <;> rfl
theorem sts_at (m : Mach) (k : Nat) : (stsM m).getD k [] = (m.states.xs.getD k (slE intE).dflt).xs := by
  unfold stsM
  rw [List.getD_eq_getElem?_getD, List.getD_eq_getElem?_getD, List.getElem?_map]
  cases m.states.xs[k]? <;> rfl
def Asc (n : Nat) (l : List Int) : Prop := l.Pairwise (· < ·) ∧ ∀ x ∈ l, 0 ≤ x ∧ x < n
structure PlanOK (n : Nat) (rds : List (List Chg)) (sts : List (List Int)) : Prop where
  n0 : 1 ≤ n
  n1 : n ≤ 1000
  r1 : rds.length ≤ 16
  s1 : sts.length = rds.length + 1
  rd : ∀ l ∈ rds, l.length ≤ 1000 ∧ ∀ x ∈ l, 0 ≤ x.dev ∧ x.dev < n
  st : ∀ l ∈ sts, l.length = n
structure CtlOK (n R : Nat) (c : Ctl) : Prop where
  tg : c.target.length = n
  kn : c.known.length = n
  wt : Asc n c.waiting
  rd : -1 ≤ c.round ∧ c.round ≤ R
  sq : 0 ≤ c.seq ∧ (c.back = false → c.seq ≤ c.round + 1 ∧ 0 ≤ c.round) ∧ (c.back = true → c.seq + c.round ≤ 2 * R + 2)
theorem CtlOK.sqb {n R : Nat} {c : Ctl} (h : CtlOK n R c) (hR : R ≤ 16) : 0 ≤ c.seq ∧ c.seq ≤ 40 := by
  have h1 := h.rd
  obtain ⟨h2, h3, h4⟩ := h.sq
  cases hb : c.back
  · have := h3 hb; omega
  · have := h4 hb; omega
theorem asc_len {n : Nat} : ∀ {l : List Int} {b : Int}, 0 ≤ b → b ≤ n → l.Pairwise (· < ·) → (∀ x ∈ l, b ≤ x ∧ x < n) → (l.length : Int) ≤ n - b
  | [], b, _, h, _, _ => by simp; omega
  | x :: t, b, h0, h, hp, hx => by
    rw [List.pairwise_cons] at hp
    have h1 := hx x List.mem_cons_self
    have := asc_len (l := t) (b := x + 1) (by omega) (by omega) hp.2 fun y hy => ⟨by have := hp.1 y hy; omega, (hx y (List.mem_cons_of_mem _ hy)).2⟩
    simp only [List.length_cons]; omega
theorem Asc.len {n : Nat} {l : List Int} (h : Asc n l) : l.length ≤ n := by
  have := asc_len (Int.le_refl 0) (by omega) h.1 h.2
  omega
theorem mem_insW : ∀ {l : List Int} {v x : Int}, x ∈ insW l v → x = v ∨ x ∈ l
  | [], v, x, h => by simp [insW] at h; exact .inl h
  | y :: t, v, x, h => by
    rw [insW] at h
    split at h
    · rcases List.mem_cons.1 h with rfl | h
      · exact .inr List.mem_cons_self
      · exact (mem_insW h).imp id fun h => List.mem_cons_of_mem _ h
    · split at h
      · exact .inr h
      · rcases List.mem_cons.1 h with rfl | h
        · exact .inl rfl
        · exact .inr h
theorem insW_pw : ∀ {l : List Int} {v : Int}, l.Pairwise (· < ·) → (insW l v).Pairwise (· < ·)
  | [], v, _ => by simp [insW]
  | y :: t, v, h => by
    have h' := h
    rw [List.pairwise_cons] at h
    rw [insW]
    split
    · rename_i hy
      rw [List.pairwise_cons]
      refine ⟨fun z hz => ?_, insW_pw h.2⟩
      rcases mem_insW hz with rfl | hz
      · exact hy
      · exact h.1 z hz
    · split
      · exact h'
      · rename_i h1 h2
        rw [List.pairwise_cons]
        refine ⟨fun z hz => ?_, h'⟩
        rcases List.mem_cons.1 hz with rfl | hz
        · omega
        · have := h.1 z hz; omega
theorem Asc.ins {n : Nat} {l : List Int} (h : Asc n l) {v : Int} (h0 : 0 ≤ v) (h1 : v < n) : Asc n (insW l v) :=
  ⟨insW_pw h.1, fun x hx => (mem_insW hx).elim (fun e => by subst e; exact ⟨h0, h1⟩) (h.2 x)⟩
theorem Asc.filt {n : Nat} {l : List Int} (h : Asc n l) (p : Int → Bool) : Asc n (l.filter p) := ⟨h.1.filter p, fun x hx => h.2 x (List.mem_filter.1 hx).1⟩
/-- one change of the round that is started -/
def chgC (st : List Int) (c : Ctl) (x : Chg) : Ctl := {c with target := c.target.set x.dev.toNat (if c.back = true then st.getD x.dev.toNat 0 else x.ver), waiting := insW c.waiting x.dev}
def startC (rds : List (List Chg)) (sts : List (List Int)) (c : Ctl) : Ctl :=
  if c.round < 0 ∨ (rds.length : Int) ≤ c.round then c else
    let c1 := (rds.getD c.round.toNat []).foldl (chgC (sts.getD c.round.toNat [])) {c with seq := c.seq + 1}
    {c1 with sent := c1.sent ++ c1.waiting}
/-- what stands while changes are made -/
structure ChgK (n : Nat) (c c1 : Ctl) : Prop where
  rd : c1.round = c.round
  bk : c1.back = c.back
  sq : c1.seq = c.seq
  kn : c1.known = c.known
  sn : c1.sent = c.sent
  tg : c1.target.length = c.target.length
  wt : Asc n c1.waiting
theorem ChgK.refl {n : Nat} {c : Ctl} (h : Asc n c.waiting) : ChgK n c c := ⟨rfl, rfl, rfl, rfl, rfl, rfl, h⟩
theorem ChgK.chg {n : Nat} {c c1 : Ctl} {st : List Int} {x : Chg} (h : ChgK n c c1) (h0 : 0 ≤ x.dev) (h1 : x.dev < n) : ChgK n c (chgC st c1 x) :=
  ⟨h.rd, h.bk, h.sq, h.kn, h.sn, by simp [chgC, h.tg], h.wt.ins h0 h1⟩
theorem foldl_chgK {n : Nat} {c : Ctl} {st : List Int} : ∀ (l : List Chg) {c1 : Ctl}, ChgK n c c1 → (∀ x ∈ l, 0 ≤ x.dev ∧ x.dev < n) → ChgK n c (l.foldl (chgC st) c1)
  | [], _, h, _ => h
  | x :: t, _, h, hx => foldl_chgK t (h.chg (hx x List.mem_cons_self).1 (hx x List.mem_cons_self).2) fun y hy => hx y (List.mem_cons_of_mem _ hy)
theorem foldl_take {α β : Type} (f : β → α → β) (b : β) (l : List α) (d : α) {k : Nat} (h : k < l.length) : (l.take (k + 1)).foldl f b = f ((l.take k).foldl f b) (l.getD k d) := by
  rw [List.take_succ_eq_append_getElem h, List.foldl_append, show l.getD k d = l[k] from by rw [List.getD_eq_getElem?_getD, List.getElem?_eq_getElem h]; rfl]
  rfl
def MachOK (m : Mach) : Prop := PlanOK m.target.xs.length (rdsM m) (stsM m) ∧ CtlOK m.target.xs.length (rdsM m).length (absM m)
theorem rd_of {n : Nat} {rds : List (List Chg)} {sts : List (List Int)} (P : PlanOK n rds sts) {k : Nat} (h : k < rds.length) : (rds.getD k []).length ≤ 1000 ∧ ∀ x ∈ rds.getD k [], 0 ≤ x.dev ∧ x.dev < n := P.rd _ (getD_mem h)
theorem st_of {n : Nat} {rds : List (List Chg)} {sts : List (List Int)} (P : PlanOK n rds sts) {k : Nat} (h : k ≤ rds.length) : (sts.getD k []).length = n := P.st _ (getD_mem (by have := P.s1; omega))
def KeepM (m m1 : Mach) : Prop := m1.rounds = m.rounds ∧ m1.states = m.states
end Go.Proofs.Ytobggnpnochnnaa.V
