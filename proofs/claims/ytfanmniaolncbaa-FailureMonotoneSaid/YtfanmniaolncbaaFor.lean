/- A forest of members in memory: n blocks from B on, each a parent pointer and a number. -/
import Derived.Test.YtfanmniaolncbaaCmpM
import Derived.LaidEqlPtr
import Derived.Laws.Pointers
set_option linter.unusedVariables false
set_option linter.unusedSimpArgs false
namespace Go.Proofs.Ytfanmniaolncbaa.V
open Go.RowKit
def ptrOf (B : Nat) (q : Option Nat) : Value := .pointer (q.map fun j => ⟨B + j, 0, none⟩)
def span (B n : Nat) : BS := fun k => B ≤ k ∧ k < B + n
structure Forest (e : TypeId) (h : Array Obj) (B n : Nat) (ps : List (Option Nat)) : Prop where
  len : ps.length = n
  blk : ∀ i, i < n → Blk h (B + i) [ptrOf B (ps.getD i none), .int .i64 ((i : Nat) : Int)] e
  down : Down ps
section
variable {e : TypeId} {B n i j : Nat} {ps : List (Option Nat)} {w w' : World}
theorem Forest.tr {chg : List BS} (k : Forest e w.heap B n ps) (g : Ch (In chg) w w') (h : ∀ b, span B n b → ¬ In chg b) : Forest e w'.heap B n ps :=
  ⟨k.len, fun i hi => (k.blk i hi).tr g (h _ ⟨by omega, by omega⟩), k.down⟩
theorem Forest.tr0 (k : Forest e w.heap B n ps) (g : Ch (In []) w w') : Forest e w'.heap B n ps := k.tr g fun _ _ h => h
theorem Forest.c0 {h : Array Obj} (k : Forest e h B n ps) (hi : i < n) : hcell h (B + i) (0 + 0) = some (ptrOf B (ps.getD i none)) := (k.blk i hi).cell rfl
theorem Forest.c1 {h : Array Obj} (k : Forest e h B n ps) (hi : i < n) : hcell h (B + i) (0 + 1) = some (.int .i64 ((i : Nat) : Int)) := (k.blk i hi).cell rfl
theorem Forest.get {h : Array Obj} (k : Forest e h B n ps) (hi : i < n) : ps[i]? = some (ps.getD i none) := by
  rw [List.getD_eq_getElem?_getD, List.getElem?_eq_getElem (by rw [k.len]; exact hi)]; rfl
theorem Forest.lt {h : Array Obj} (k : Forest e h B n ps) (hi : i < n) (hq : ¬ ps.getD i none = none) : (ps.getD i none).getD 0 < i := by
  have h1 := k.get hi
  cases hc : ps.getD i none with
  | none => exact absurd hc hq
  | some j => rw [hc] at h1; exact k.down i j h1
theorem Forest.root {h : Array Obj} (k : Forest e h B n ps) (hi : i < n) (hq : ¬ ps.getD i none = none) : rootOf ps i = rootOf ps ((ps.getD i none).getD 0) := by
  have h1 := k.get hi
  cases hc : ps.getD i none with
  | none => exact absurd hc hq
  | some j => rw [hc] at h1; exact root_up k.down h1
theorem Forest.top {h : Array Obj} (k : Forest e h B n ps) (hi : i < n) (hq : ps.getD i none = none) : rootOf ps i = i := root_top (by rw [k.get hi, hq])
theorem Forest.rlt {h : Array Obj} (k : Forest e h B n ps) (hi : i < n) : rootOf ps i < n := Nat.lt_of_le_of_lt (root_le k.down i i (Nat.le_refl _)) hi
theorem Forest.rootnil {h : Array Obj} (k : Forest e h B n ps) (hi : i < n) : ps[rootOf ps i]? = some none :=
  root_is k.down (fun a b h => by have h1 := k.down a b h; have h2 := (List.getElem?_eq_some_iff.1 h).1; omega) i i (Nat.le_refl _) (by rw [k.len]; exact hi)
/-- a parent pointer is set -/
theorem Forest.set (k : Forest e w.heap B n ps) (hi : i < n) (q : Option Nat) (hd : Down (ps.set i q)) : Forest e (w.setCell ⟨B + i, 0 + 0, none⟩ (ptrOf B q)).heap B n (ps.set i q) := by
  refine ⟨by rw [List.length_set]; exact k.len, fun j hj => ?_, hd⟩
  by_cases h : i = j
  · subst h
    rw [List.getD_eq_getElem?_getD, List.getElem?_set_self (by rw [k.len]; exact hi)]
    exact (k.blk i hi).set _
  · rw [List.getD_eq_getElem?_getD, List.getElem?_set_ne h, ← List.getD_eq_getElem?_getD]
    exact (k.blk j hj).tr (ch_set w _ _ _) fun hh => hh.elim (fun hh => h (by unfold one at hh; omega)) id
theorem Forest.halve {h : Array Obj} (k : Forest e h B n ps) (hi : i < n) (h0 : ¬ ps.getD i none = none) (h1 : ¬ ps.getD ((ps.getD i none).getD 0) none = none) :
    Down (ps.set i (ps.getD ((ps.getD i none).getD 0) none)) ∧ (∀ x, rootOf (ps.set i (ps.getD ((ps.getD i none).getD 0) none)) x = rootOf ps x) ∧ (ps.set i (ps.getD ((ps.getD i none).getD 0) none)).getD i none = ps.getD ((ps.getD i none).getD 0) none ∧
    (ps.getD ((ps.getD i none).getD 0) none).getD 0 < i ∧ rootOf ps ((ps.getD ((ps.getD i none).getD 0) none).getD 0) = rootOf ps i := by
  have a1 := k.lt hi h0
  have a2 := k.lt (i := (ps.getD i none).getD 0) (by omega) h1
  have a3 : rootOf ps ((ps.getD ((ps.getD i none).getD 0) none).getD 0) = rootOf ps i := (k.root (i := (ps.getD i none).getD 0) (by omega) h1).symm.trans (k.root hi h0).symm
  have hl : i < ps.length := by rw [k.len]; exact hi
  have a4 : ps[i]? ≠ some none := by rw [k.get hi]; intro hh; exact h0 (Option.some.inj hh)
  cases hq : ps.getD ((ps.getD i none).getD 0) none with
  | none => exact absurd hq h1
  | some m =>
    rw [hq] at a2 a3
    have a2' : m < (ps.getD i none).getD 0 := a2
    obtain ⟨b1, b2⟩ := root_halve k.down hl (k := m) (by omega) a3 a4
    exact ⟨b1, b2, by rw [List.getD_eq_getElem?_getD, List.getElem?_set_self hl]; rfl, by show m < i; omega, a3⟩
theorem Forest.new (w : World) (B : Nat) (e : TypeId) : Forest e w.heap B 0 [] := ⟨rfl, fun i hi => absurd hi (Nat.not_lt_zero _), fun i j h => by simp at h⟩
theorem Forest.snoc {h : Array Obj} {b : Nat} (k : Forest e h B n ps) (hb : b = B + n) (kb : Blk h b [.pointer none, .int .i64 ((n : Nat) : Int)] e) : Forest e h B (n + 1) (ps ++ [none]) := by
  subst hb
  refine ⟨by simp [k.len], fun i hi => ?_, fun i j hij => ?_⟩
  · by_cases h : i < n
    · rw [List.getD_eq_getElem?_getD, List.getElem?_append_left (by rw [k.len]; exact h), ← List.getD_eq_getElem?_getD]; exact k.blk i h
    · obtain rfl : i = n := by omega
      rw [List.getD_eq_getElem?_getD, List.getElem?_append_right (by rw [k.len]; exact Nat.le_refl _), k.len, Nat.sub_self]
      exact kb
  · by_cases h : i < ps.length
    · rw [List.getElem?_append_left h] at hij; exact k.down i j hij
    · rw [List.getElem?_append_right (by omega)] at hij
      rcases hh : i - ps.length with _ | m
      · rw [hh] at hij; simp at hij
      · rw [hh] at hij; simp at hij
end
/-- entries put together -/
theorem Sep.both {o o2 : BS} {post : List BS} {u : BS} (hu : ∀ k, u k ↔ o k ∨ o2 k) : ∀ {pre : List BS}, Sep (o :: (pre ++ o2 :: post)) → Sep (pre ++ u :: post)
  | [], s => ⟨fun k hk h => ((hu k).1 hk).elim (fun e => s.1 k e (.inr h)) fun e => s.2.1 k e h, s.2.2⟩
  | p :: pre, s => by
    refine ⟨fun k hk h => ?_, Sep.both hu (pre := pre) ⟨fun k hk h => s.1 k hk (.inr h), s.2.2⟩⟩
    rcases in_app.1 h with h | h | h
    · exact s.2.1 k hk (in_app.2 (.inl h))
    · exact ((hu k).1 h).elim (fun e => s.1 k e (.inl hk)) fun e => s.2.1 k hk (in_app.2 (.inr (.inl e)))
    · exact s.2.1 k hk (in_app.2 (.inr (.inr h)))
theorem Tr.both {o o2 u : BS} {pre post : List BS} {w : World} (hu : ∀ k, u k ↔ o k ∨ o2 k) (h : MS (o :: (pre ++ o2 :: post)) w) : Tr (o :: (pre ++ o2 :: post)) w (pre ++ u :: post) w := by
  have hin : ∀ k, In (pre ++ u :: post) k → In (o :: (pre ++ o2 :: post)) k := fun k hk => by
    rcases in_app.1 hk with h | h | h
    · exact .inr (in_app.2 (.inl h))
    · exact ((hu k).1 h).imp id fun h => in_app.2 (.inr (.inl h))
    · exact .inr (in_app.2 (.inr (.inr h)))
  exact ⟨Ch.refl w, fun k hk => .inl (hin k hk), fun k hk => h.lt k (hin k hk), Sep.both hu h.sep⟩
theorem span_both {b B i : Nat} (hb : b = B + i) : ∀ k, span B (i + 1) k ↔ one b k ∨ span B i k := by
  intro k; unfold span one; omega
theorem span_nil {B k : Nat} : ¬ span B 0 k := by unfold span; omega
/-- a pointer to a member, or nil -/
def nodeE (B : Nat) : Enc (Option Nat) := ⟨1, fun x => [ptrOf B x], none, fun _ _ _ => True, fun _ => rfl, fun _ u hu => by simp at hu; subst hu; rfl, fun _ h => h, fun _ h => h⟩
theorem Row.nodes {t : TypeId} {base : Nat} {F : Nat → Prop} {ms : List BS} {w : World} {ad : Option Addr} {cap n B : Nat} (B' : Nat) (r : Row (nodeE B) t base F ms w ad cap (List.replicate n none)) : Row (nodeE B') t base F ms w ad cap (List.replicate n none) := by
  refine ⟨?_, fun _ _ => trivial⟩
  have e : ∀ n, (List.replicate n (none : Option Nat)).flatMap (nodeE B').cells = (List.replicate n none).flatMap (nodeE B).cells := fun n => by
    induction n with
    | zero => rfl
    | succ n ih => rw [List.replicate_succ, List.flatMap_cons, List.flatMap_cons, ih]; rfl
  rw [e]
  exact r.own
section
variable {P : Program} {a : Act} {w : World} {d : Option Tmp} {ty : TypeId} {pos : String} {af : Array Edge} {g : Option (Nat × Bool)} {B : Nat} {q : Option Nat}
theorem ptr_some (h : ¬ q = none) : ptrOf B q = .pointer (some ⟨B + q.getD 0, 0, none⟩) := by
  cases q with
  | none => exact absurd rfl h
  | some j => rfl
theorem x_nodeck {x : Operand} (hx : a.eval x = ptrOf B q) (h : ¬ q = none) : (execOp a.eval ⟨d, .nilCheck x, ty, pos, af, g⟩).run P w = .ok (.value (.pointer (some ⟨B + q.getD 0, 0, none⟩))) w := by
  rw [ptr_some h] at hx; simp [execOp, hx]
theorem x_pneqn {x y : Operand} {xt yt e : TypeId} (hu : P.underlying xt = some (.pointer e)) (hx : a.eval x = ptrOf B q) (hy : a.eval y = .pointer none) : (execOp a.eval ⟨d, .binOp .neq xt x y yt, ty, pos, af, g⟩).run P w = .ok (.value (.bool (decide (¬ q = none)))) w := by
  refine x_bin hx hy (by simp [eqGuard, ptrOf]) ?_
  unfold ptrOf
  rw [run_neq_pointer_nil w xt _ (by rw [hu]; simp [Program.pointee, hu])]
  cases q <;> rfl
theorem x_nodeq {x y : Operand} {xt yt e : TypeId} {et n i j : Nat} {ps : List (Option Nat)} (hu : P.underlying xt = some (.pointer et)) (hi0 : (P.info? et).map (·.size) = some 2) (F : Forest e w.heap B n ps) (hi : i < n) (hj : j < n) (hx : a.eval x = .pointer (some ⟨B + i, 0, none⟩)) (hy : a.eval y = .pointer (some ⟨B + j, 0, none⟩)) : (execOp a.eval ⟨d, .binOp .eql xt x y yt, ty, pos, af, g⟩).run P w = .ok (.value (.bool (decide (i = j)))) w := by
  refine x_bin hx hy (by simp [eqGuard]) ?_
  cases hi1 : P.info? et with
  | none => simp [hi1] at hi0
  | some it =>
    have h1 : it.size = 2 := by simpa [hi1] using hi0
    by_cases h : i = j
    · subst h
      rw [run_eql_ptr_same w _ hu hi1]; simp
    · have e1 : w.heap[(⟨B + i, 0, none⟩ : Addr).block]? = _ := F.blk i hi
      have e2 : w.heap[(⟨B + j, 0, none⟩ : Addr).block]? = _ := F.blk j hj
      rw [run_eql_ptr_other w hu hi1 (by rw [h1]; decide) (fun e => h (by injection e with e; omega)) e1 e2]; simp [h]
end
end Go.Proofs.Ytfanmniaolncbaa.V
