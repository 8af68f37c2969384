/- V7 V8 V9 in one text -/
import Derived.Test.YtobggnpnochnnaaGrpB
set_option linter.unusedVariables false
set_option linter.unusedSimpArgs false
/- Regions in which an address is made beside an append, in either order: x.f = append(x.f, ..). -/
namespace Go.Proofs.Ytobggnpnochnnaa.V
open Go.RowKit
theorem Oper.wp_put {P : Program} {o : Oper} {a : Act} {w : World} {K : Act → World → Prop} {Q : Exit → Act → World → Prop} (h : o.wp P a w K Q) : o.wp P a w (fun a' w' => K a' w' ∧ ∃ v, a'.tmps = (a.put o.dst v).tmps) Q := by
  unfold Oper.wp at *
  generalize (execOp a.eval o).run P w = r at *
  cases r with
  | ok n w' =>
    cases n <;> simp only [Oper.upon] at h ⊢ <;>
      first
        | exact ⟨h, _, rfl⟩
        | exact ⟨h, undef, by cases o.dst <;> rfl⟩
        | exact Calls.mono h (fun e w'' he => by cases e <;> first | exact ⟨he, _, rfl⟩ | exact he)
        | exact Rows.mono h (fun _ _ he => ⟨he, _, rfl⟩)
  | halt x w' => cases x <;> simp only [Oper.upon] at h ⊢ <;> exact h
/-- heads 0..n-1; n: what may not be moved; n+1..n+m: addresses, in any order beside all; then a chain -/
def lazyOk (ops : Array Oper) (n m : Nat) (L : List (Nat × Value)) (Z : List (Nat × Value)) : Bool :=
  decide (n + m + 1 < ops.size) && Region.sinkB .any ops n && Region.sinkB .any ops (n + m + 1) && Region.chainB .any ops (n + m + 1) &&
  Region.seqB .any ops (ops.size - (n + m + 1)) (n + m + 1) (Array.replicate (n + m + 1) true ++ Array.replicate (ops.size - (n + m + 1)) false) &&
  L.all (fun p => (List.range (n + m + 1)).all fun j => match ops[j]? with | some q => q.dst != some p.1 | none => false) &&
  (match ops[n]? with | some o => o.after.all fun e => !Region.binds .any e || decide (e.on < n) | none => false) &&
  decide (Z.length = m) && (List.range m).all fun k => match ops[n + 1 + k]?, Z[k]? with
    | some o, some z => o.dst == some z.1 && o.guard.isNone && ((o.after.all fun e => !Region.binds .any e || (decide (n < e.on) && decide (e.on < n + 1 + k))) &&
        (List.range (n + m + 1)).all fun j => match ops[j]? with
          | some p => (j == n + 1 + k || p.dst != some z.1) && (decide (n ≤ j) || !(p.looksAt ops).contains z.1)
          | none => false)
    | _, _ => false
theorem listed_down {ops : Array Oper} {n : Nat} {listed : Array Bool} (hs : Region.sinkB .any ops n = true) (hcl : ∀ j oj, ops[j]? = some oj → listed.getD j false = true ∨ j = n → ∀ e ∈ oj.after, Region.binds .any e = true → listed.getD e.on false = true) : ∀ d i, n - i = d → i < n → listed.getD i false = true := by
  intro d
  induction d using Nat.strongRecOn with
  | _ d ih =>
    intro i hd hi
    have h1 := List.all_eq_true.1 hs i (List.mem_range.2 hi)
    obtain ⟨j, hj, hj2⟩ := List.any_eq_true.1 h1
    simp only [Bool.and_eq_true, decide_eq_true_eq] at hj2
    obtain ⟨oj, hoj, e, he, hb, hon⟩ := Region.waitsFor_spec hj2.2
    have hjle : j ≤ n := by have := List.mem_range.1 hj; omega
    rw [← hon]
    refine hcl j oj hoj ?_ e he hb
    rcases Nat.lt_or_ge j n with g | g
    · exact .inl (ih (n - j) (by omega) j rfl g)
    · exact .inr (by omega)
section
variable {P : Program} {Q : Exit → Act → World → Prop}
theorem lazy_main {M : Nat → Prop} {ops : Array Oper} {n m N : Nat} {L Z : List (Nat × Value)} {W : World} {E : List (Nat × StP M)} {I LW : World → Prop} {Ds : List (List Nat)} {outs : List Nat} {J : Act → World → Prop} {t1 : Oper} {rest : List Oper}
    (ht1 : ops[n]? = some t1) (hg1 : t1.guard = none) (hrest : rest = ops.toList.drop (n + m + 1))
    (hok : (headOk ops n && depsOk ops n 0 Ds && keysOk ops n L && outsOk ops n outs && lazyOk ops n m L Z) = true) (hlen : Ds.length = n)
    (step : ∀ i, i < n → ∃ o D, ops[i]? = some o ∧ Ds[i]? = some D ∧ ∀ a w, Ch M W w → I w → Slots N L a → deps E a w D → wpOp P ops Q i (Done o E I N a w) a w)
    (lzy : ∀ k, k < m → ∃ (o : Oper) (z : Nat × Value) (D : List Nat), ops[n + 1 + k]? = some o ∧ Z[k]? = some z ∧ z.1 < N ∧ (∀ k' ∈ D, ∃ e, e ∈ o.after ∧ Region.binds .any e = true ∧ e.on = n + 1 + k') ∧ ∀ a w, Slots N L a → LW w → (∀ k' ∈ D, ∀ z', Z[k']? = some z' → a.tmps.getD z'.1 undef = z'.2) → (execOp a.eval o).run P w = .ok (.value z.2) w)
    (hLI : ∀ w, I w → LW w) (hLJ : ∀ a w, J a w → LW w)
    (main : ∀ a w, Ch M W w → I w → Slots N L a → deps E a w outs → t1.wp P a w J Q)
    (stay : ∀ a w d v, (∃ (k : Nat) (z : Nat × Value), Z[k]? = some z ∧ z.1 = d) → J a w → J (a.put (some d) v) w) (hJ : ∀ a w, J a w → Slots N L a)
    (fin : ∀ a w, J a w → Slots N Z a → wpList P ops Q rest a w) :
    ∀ (f : Nat) (listed : Array Bool) (a : Act) (w : World), left (n + m + 1) listed = f → HeadInv .any ops (n + m + 1) listed → Slots N L a →
      (∀ k z, Z[k]? = some z → listed.getD (n + 1 + k) false = true → a.tmps.getD z.1 undef = z.2) →
      (listed.getD n false = false → Ch M W w ∧ I w ∧ ∀ j, j < n → listed.getD j false = true → ∀ o d, ops[j]? = some o → o.dst = some d → lookE E d (a.tmps.getD d undef) w) →
      (listed.getD n false = true → J a w) →
      wpAny P .any ops Q (f + (ops.size - (n + m + 1))) listed a w := by
  simp only [Bool.and_eq_true] at hok
  obtain ⟨⟨⟨⟨h1, h2⟩, h3⟩, h4⟩, h5⟩ := hok
  simp only [lazyOk, Bool.and_eq_true, decide_eq_true_eq] at h5
  obtain ⟨⟨⟨⟨⟨⟨⟨⟨hsz, hsink⟩, hsink2⟩, hchain⟩, hseq⟩, hLk⟩, ht1e⟩, hZl⟩, hz⟩ := h5
  have zfact : ∀ k, k < m → ∃ (o : Oper) (z : Nat × Value), ops[n + 1 + k]? = some o ∧ Z[k]? = some z ∧ o.dst = some z.1 ∧ o.guard = none ∧ (∀ e ∈ o.after, Region.binds .any e = true → n < e.on ∧ e.on < n + 1 + k) ∧
      ∀ j, j < n + m + 1 → ∃ p, ops[j]? = some p ∧ (j = n + 1 + k ∨ p.dst ≠ some z.1) ∧ (n ≤ j ∨ z.1 ∉ p.looksAt ops) := fun k hk => by
    have g := List.all_eq_true.1 hz k (List.mem_range.2 hk)
    cases ho : ops[n + 1 + k]? with
    | none => rw [ho] at g; cases g
    | some o =>
      cases hzk : Z[k]? with
      | none => rw [ho, hzk] at g; cases g
      | some z =>
        rw [ho, hzk] at g
        simp only [Bool.and_eq_true, beq_iff_eq, Option.isNone_iff_eq_none] at g
        refine ⟨o, z, rfl, rfl, g.1.1, g.1.2, fun e he hb => ?_, fun j hj => ?_⟩
        · have := Array.all_eq_true_iff_forall_mem.1 g.2.1 e he
          simpa [hb] using this
        have g2 := List.all_eq_true.1 g.2.2 j (List.mem_range.2 hj)
        cases hp : ops[j]? with
        | none => rw [hp] at g2; cases g2
        | some p =>
          rw [hp] at g2
          simp only [Bool.and_eq_true, Bool.or_eq_true, beq_iff_eq, bne_iff_ne, decide_eq_true_eq, Bool.not_eq_true'] at g2
          exact ⟨p, rfl, g2.1, g2.2.imp id fun h hm => by rw [List.contains_eq_mem] at h; simp [hm] at h⟩
  -- no key of L is written
  have nokey : ∀ j, j < n + m + 1 → ∀ p, ops[j]? = some p → ∀ i v, look i L = some v → p.dst ≠ some i := fun j hj p hp i v hv => by
    have g := List.all_eq_true.1 hLk _ (look_mem hv)
    have g2 := List.all_eq_true.1 g j (List.mem_range.2 hj)
    rw [hp] at g2
    simpa using g2
  have putL : ∀ {j : Nat} {p : Oper} {a : Act} {v : Value}, j < n + m + 1 → ops[j]? = some p → Slots N L a → Slots N L (a.put p.dst v) := fun {j p a v} hj hp S => by
    cases hd : p.dst with
    | none => exact S
    | some d =>
      refine ⟨by simp [Act.put, S.size], S.defers, fun i u hu => ?_⟩
      have hne := nokey j hj p hp i u hu
      rw [hd] at hne
      rw [show (a.put (some d) v).tmps.getD i undef = a.tmps.getD i undef from by simp [Act.put, Array.getElem?_setIfInBounds_ne (fun (e : d = i) => hne (by rw [e]))]]
      exact S.get i u hu
  intro f
  induction f with
  | zero =>
    intro listed a w hf inv S hZ hno hyes
    have hall := left_zero hf
    have get' : ∀ i, i < n + m + 1 → listed.getD i false = true := fun i hi => by
      have g3 := hall i hi
      have hs := inv.size
      have hlt : i < listed.size := by omega
      simp [hlt] at g3 ⊢
      exact g3
    have hl : listed = Array.replicate (n + m + 1) true ++ Array.replicate (ops.size - (n + m + 1)) false := by
      apply Array.ext
      · simp [inv.size]; omega
      · intro i g1 g2
        by_cases hi : i < n + m + 1
        · have g3 := hall i hi
          simp [g1] at g3
          simp [Array.getElem_append, hi, g3]
        · have g3 := inv.tail i (by omega) (by rw [← inv.size]; exact g1)
          simp [g1] at g3
          simp [Array.getElem_append, hi, g3]
    have hJ' : J a w := hyes (get' n (by omega))
    have SZ : Slots N Z a := ⟨S.size, S.defers, fun i v hv => by
      have : ∀ (Z' : List (Nat × Value)) (k : Nat), (∀ k' z, Z'[k']? = some z → Z[k + k']? = some z) → look i Z' = some v → ∃ (k' : Nat) (z : Nat × Value), Z[k']? = some z ∧ z.1 = i ∧ z.2 = v := by
        intro Z'
        induction Z' with
        | nil => intro k _ h; cases h
        | cons p r ih =>
          obtain ⟨q, u⟩ := p
          intro k hk h
          rw [look_cons] at h
          by_cases e : q = i
          · rw [if_pos e] at h; exact ⟨k, (q, u), by simpa using hk 0 _ rfl, e, Option.some.inj h⟩
          · rw [if_neg e] at h
            exact ih (k + 1) (fun k' z hz' => by have := hk (k' + 1) z (by simpa using hz'); rwa [show k + (k' + 1) = k + 1 + k' from by omega] at this) h
      obtain ⟨k', z, e1, e2, e3⟩ := this Z 0 (fun k' z h => by rw [Nat.zero_add]; exact h) hv
      have hk' : k' < m := by rw [← hZl]; exact (List.getElem?_eq_some_iff.1 e1).1
      have := hZ k' z e1 (get' _ (by omega))
      rw [← e2, ← e3]; exact this⟩
    subst hl
    have hlen' : rest.length = ops.size - (n + m + 1) := by rw [hrest]; simp
    have h := wpAny_of_seq (P := P) (ops := ops) (md := .any) (Q' := Q) rest (n + m + 1) (Array.replicate (n + m + 1) true ++ Array.replicate (ops.size - (n + m + 1)) false) a w (fun j => by rw [hrest, List.getElem?_drop, Array.getElem?_toList]) (by rw [hlen']; exact hseq) (fin a w hJ' SZ)
    rw [hlen'] at h
    rw [Nat.zero_add]
    exact h
  | succ f ih =>
    intro listed a w hf inv S hZ hno hyes
    rw [show f + 1 + (ops.size - (n + m + 1)) = (f + (ops.size - (n + m + 1))) + 1 from by omega]
    obtain ⟨j0, hj0n, hj0l, hj0min⟩ := left_pos (n := n + m + 1) (listed := listed) (by omega)
    have notready : ∀ i, i ∈ Region.ready .any ops listed → i < n + m + 1 := fun i hi => Nat.lt_of_not_le fun h => tail_waits hsink2 hchain hsz inv _ j0 rfl hj0n hj0l i h hi
    refine ⟨fun hr => ?_, fun i hi => ?_⟩
    · exfalso
      have hlow : ∀ i, i < j0 → listed.getD i false = true := fun i hi => by
        have g3 := hj0min i hi
        have hs := inv.size
        have hlt : i < listed.size := by omega
        simp [hlt] at g3 ⊢
        exact g3
      have hmem : j0 ∈ Region.ready .any ops listed := by
        have hlt : j0 < ops.size := by omega
        refine mem_ready.2 ⟨hj0l, ops[j0], Array.getElem?_eq_getElem hlt, fun e he hb => hlow _ ?_⟩
        rcases Nat.lt_trichotomy j0 n with g | g | g
        · have q1 := List.all_eq_true.1 h1 j0 (List.mem_range.2 g)
          rw [Array.getElem?_eq_getElem hlt] at q1
          simp only [Bool.and_eq_true] at q1
          have q2 := Array.all_eq_true_iff_forall_mem.1 q1.1 e he
          simpa [hb] using q2
        · subst g
          rw [Array.getElem?_eq_getElem hlt] at ht1e
          have q2 := Array.all_eq_true_iff_forall_mem.1 ht1e e he
          simpa [hb] using q2
        · obtain ⟨o2, z, e1, _, _, _, e4, _⟩ := zfact (j0 - (n + 1)) (by omega)
          rw [show n + 1 + (j0 - (n + 1)) = j0 from by omega, Array.getElem?_eq_getElem hlt] at e1
          obtain rfl := Option.some.inj e1
          have := (e4 e he hb).2
          omega
      rw [hr] at hmem; cases hmem
    · have hin := notready i hi
      obtain ⟨hil, o, ho, hall⟩ := mem_ready.1 hi
      have hil' := getD_both hil
      have hl' := left_set hin hil
      have inv' := inv.set hi hin
      have zkeep : ∀ {p : Oper} {v : Value} , ops[i]? = some p → (∀ k, i ≠ n + 1 + k) → ∀ k z, Z[k]? = some z → (listed.setIfInBounds i true).getD (n + 1 + k) false = true → (a.put p.dst v).tmps.getD z.1 undef = z.2 := fun {p v} hp hne k z hzk hl => by
        rw [getD_set_ne false (hne k)] at hl
        have hk' : k < m := by rw [← hZl]; exact (List.getElem?_eq_some_iff.1 hzk).1
        obtain ⟨o2, z2, _, e2, _, _, _, e5⟩ := zfact k hk'
        obtain rfl := Option.some.inj (hzk.symm.trans e2)
        obtain ⟨p2, e6, e7, _⟩ := e5 i hin
        obtain rfl := Option.some.inj (hp.symm.trans e6)
        have e8 := e7.resolve_left (hne k)
        have := hZ k z hzk hl
        cases hd : p.dst with
        | none => exact this
        | some d =>
          have : d ≠ z.1 := fun e => e8 (by rw [hd, e])
          rw [show (a.put (some d) v).tmps.getD z.1 undef = a.tmps.getD z.1 undef from by simp [Act.put, Array.getElem?_setIfInBounds_ne this]]
          assumption
      rcases Nat.lt_trichotomy i n with hlt | heq | hgt
      · -- a head
        have hn1 : listed.getD n false = false := by
          cases hc : listed.getD n false
          · rfl
          · have := listed_down hsink (fun j oj hoj h e he hb => by
              rcases h with h | h
              · exact inv.closed j oj hoj h e he hb
              · subst h; exact inv.closed j oj hoj hc e he hb) _ i rfl hlt
            rw [hil'] at this; cases this
        obtain ⟨hC, hI, hE⟩ := hno hn1
        obtain ⟨o', D, e1, e2, hst⟩ := step i hlt
        obtain rfl := Option.some.inj (ho.symm.trans e1)
        have hdep : ∀ D', (∀ d ∈ D', d ∈ D) → deps E a w D' := by
          intro D'
          induction D' with
          | nil => intro _; trivial
          | cons d r ihD =>
            intro hsub
            refine ⟨?_, ihD fun d hd => hsub d (List.mem_cons_of_mem _ hd)⟩
            have hget : ∀ (Ds : List (List Nat)) (k i : Nat), depsOk ops n k Ds = true → Ds[i]? = some D → ∃ o, ops[k + i]? = some o ∧ ∀ d ∈ D, d ∈ o.looksAt ops ∧ isHead ops n d = true := by
              intro Ds
              induction Ds with
              | nil => intro k i _ h; simp at h
              | cons D0 Ds ihh =>
                intro k i hk hi
                simp only [depsOk, Bool.and_eq_true] at hk
                cases i with
                | zero =>
                  obtain rfl : D0 = D := by simpa using hi
                  cases hp : ops[k]? with
                  | none => rw [hp] at hk; cases hk.1
                  | some p =>
                    rw [hp] at hk
                    refine ⟨p, rfl, fun d hd => ?_⟩
                    have := List.all_eq_true.1 hk.1 d hd
                    simpa [Bool.and_eq_true, List.contains_iff_mem] using this
                | succ i =>
                  obtain ⟨o, g1, g2⟩ := ihh (k + 1) i hk.2 (by simpa using hi)
                  exact ⟨o, by rw [show k + (i + 1) = k + 1 + i from by omega]; exact g1, g2⟩
            obtain ⟨o2, g1, g2⟩ := hget Ds 0 i h2 e2
            rw [Nat.zero_add, ho] at g1
            obtain rfl := Option.some.inj g1
            obtain ⟨g3, g4⟩ := g2 d (hsub d List.mem_cons_self)
            obtain ⟨k, p, g5, g6, g7⟩ := isHead_spec g4
            have q1 := List.all_eq_true.1 h1 i (List.mem_range.2 hlt)
            simp only [ho, Bool.and_eq_true] at q1
            have q2 := List.all_eq_true.1 q1.2 k (List.mem_range.2 g5)
            simp only [g6, g7, Bool.and_eq_true, Bool.or_eq_true, Bool.not_eq_true'] at q2
            rcases q2.2 with q3 | q3
            · rw [List.contains_eq_mem] at q3
              simp [g3] at q3
            · obtain ⟨e, he, hb⟩ := Array.any_eq_true'.1 q3
              simp only [Bool.and_eq_true, beq_iff_eq] at hb
              exact hE k g5 (by rw [← hb.2]; exact hall e he hb.1) p d g6 g7
        refine wpOp_mono ?_ (hst a w hC hI S (hdep D fun d hd => hd))
        rintro a' w2 ⟨⟨v, rfl, hd'⟩, hc, hi'⟩
        refine ih _ _ w2 (by omega) inv' (putL hin ho S) (zkeep ho (fun k => by omega)) (fun _ => ⟨hC.same hc, hi', fun k hk hkl p d hp hd => ?_⟩) fun hh => ?_
        · by_cases hki : k = i
          · subst hki
            obtain rfl := Option.some.inj (ho.symm.trans hp)
            obtain ⟨k1, k2⟩ := hd' d hd
            rw [hd, getD_put a d d v (by rw [S.size]; exact k1), if_pos rfl]
            exact k2
          · rw [getD_set_ne false (Ne.symm hki)] at hkl
            have g1 := lookE_st E d _ _ _ hc (hE k hk hkl p d hp hd)
            have hdist : o.dst ≠ some d := by
              have q1 := List.all_eq_true.1 h1 i (List.mem_range.2 hlt)
              simp only [ho, Bool.and_eq_true] at q1
              have q2 := List.all_eq_true.1 q1.2 k (List.mem_range.2 hk)
              simp only [hp, hd, Bool.and_eq_true, Bool.or_eq_true, beq_iff_eq, bne_iff_ne, Option.isNone_some, Bool.false_eq_true, or_false] at q2
              exact fun e => (q2.1.resolve_left hki) e.symm
            cases hod : o.dst with
            | none => exact g1
            | some d2 =>
              have : d2 ≠ d := fun e => hdist (by rw [hod, e])
              rw [show (a.put (some d2) v).tmps.getD d undef = a.tmps.getD d undef from by simp [Act.put, Array.getElem?_setIfInBounds_ne this]]
              exact g1
        · rw [getD_set_ne false (by omega), hn1] at hh; cases hh
      · -- what may not be moved
        subst heq
        obtain rfl := Option.some.inj (ht1.symm.trans ho)
        obtain ⟨hC, hI, hE⟩ := hno hil'
        have hdown := listed_down hsink (listed := listed) fun j oj hoj h e he hb => by
          rcases h with h | h
          · exact inv.closed j oj hoj h e he hb
          · subst h
            obtain rfl := Option.some.inj (ho.symm.trans hoj)
            exact hall e he hb
        have hde : ∀ outs', (∀ d ∈ outs', isHead ops i d = true) → deps E a w outs' := by
          intro outs'
          induction outs' with
          | nil => intro _; trivial
          | cons d r ihd =>
            intro h
            obtain ⟨k, p, g5, g6, g7⟩ := isHead_spec (h d List.mem_cons_self)
            exact ⟨hE k g5 (hdown _ k rfl g5) p d g6 g7, ihd fun d hd => h d (List.mem_cons_of_mem _ hd)⟩
        have hm := Oper.wp_put (main a w hC hI S (hde outs (List.all_eq_true.1 h4)))
        unfold wpOp
        rw [ho]
        simp only [Region.wanted, hg1, if_true]
        refine .inl (Oper.wp_mono ?_ hm)
        rintro a' w2 ⟨hJ2, v, hv⟩
        refine ih _ _ w2 (by omega) inv' (hJ _ _ hJ2) (fun k z hzk hl => ?_) (fun hh => ?_) fun _ => hJ2
        · rw [hv]; exact zkeep (v := v) ho (fun k => by omega) k z hzk hl
        · have hlt : i < listed.size := by rw [inv.size]; omega
          simp [hlt] at hh
      · -- an address
        obtain ⟨k, hk⟩ : ∃ k, i = n + 1 + k := ⟨i - (n + 1), by omega⟩
        subst hk
        have hkm : k < m := by omega
        obtain ⟨o2, z, e1, e2, e3, e4, _, e5⟩ := zfact k hkm
        obtain rfl := Option.some.inj (ho.symm.trans e1)
        obtain ⟨o3, z3, D3, e6, e7, e8, eD, e9⟩ := lzy k hkm
        obtain rfl := Option.some.inj (ho.symm.trans e6)
        obtain rfl := Option.some.inj (e2.symm.trans e7)
        unfold wpOp
        rw [ho]
        simp only [Region.wanted, e4, if_true]
        have hlw : LW w := by
          cases hc : listed.getD n false
          · exact hLI w (hno hc).2.1
          · exact hLJ a w (hyes hc)
        have hD3 : ∀ k' ∈ D3, ∀ z', Z[k']? = some z' → a.tmps.getD z'.1 undef = z'.2 := fun k' hk' z' hz' => by
          obtain ⟨e, he, hb, hon⟩ := eD k' hk'
          refine hZ k' z' hz' ?_
          rw [← hon]; exact hall e he hb
        refine .inl (op_val (e9 a w S hlw hD3) ?_)
        rw [e3]
        have hput : ∀ d, d ≠ z.1 → (a.put (some z.1) z.2).tmps.getD d undef = a.tmps.getD d undef := fun d hd => by simp [Act.put, Array.getElem?_setIfInBounds_ne (Ne.symm hd)]
        refine ih _ _ w (by omega) inv' (by have := putL (v := z.2) hin ho S; rwa [e3] at this) (fun k' z' hzk hl => ?_) (fun hh => ?_) fun hh => ?_
        · by_cases hkk : k = k'
          · subst hkk
            obtain rfl := Option.some.inj (e2.symm.trans hzk)
            rw [getD_put a z.1 z.1 z.2 (by rw [S.size]; exact e8), if_pos rfl]
          · rw [getD_set_ne false (by omega)] at hl
            have hk' : k' < m := by rw [← hZl]; exact (List.getElem?_eq_some_iff.1 hzk).1
            obtain ⟨o4, z4, f1, f2, f3, _, _, f5⟩ := zfact k' hk'
            obtain rfl := Option.some.inj (hzk.symm.trans f2)
            obtain ⟨p, f6, f7, _⟩ := f5 (n + 1 + k) hin
            obtain rfl := Option.some.inj (ho.symm.trans f6)
            have f8 := f7.resolve_left (by omega)
            rw [hput z'.1 (fun e => f8 (by rw [e3, e]))]
            exact hZ k' z' hzk hl
        · rw [getD_set_ne false (by omega)] at hh
          obtain ⟨hC, hI, hE⟩ := hno hh
          refine ⟨hC, hI, fun j hj hjl p d hp hd => ?_⟩
          rw [getD_set_ne false (by omega)] at hjl
          obtain ⟨p2, f6, f7, _⟩ := e5 j (by omega)
          obtain rfl := Option.some.inj (hp.symm.trans f6)
          have f8 := f7.resolve_left (by omega)
          rw [hput d (fun e => f8 (by rw [hd, e]))]
          exact hE j hj hjl p d hp hd
        · rw [getD_set_ne false (by omega)] at hh
          exact stay a w z.1 z.2 ⟨k, z, e2, rfl⟩ (hyes hh)
def lzs (P : Program) (N : Nat) (L : List (Nat × Value)) : List Oper → List (Nat × Value) → Prop
  | o :: r, z :: zs => (z.1 < N ∧ ∀ a w, Slots N L a → (execOp a.eval o).run P w = .ok (.value z.2) w) ∧ lzs P N L r zs
  | _, _ => True
theorem lzs_get {N : Nat} {L : List (Nat × Value)} : ∀ (r : List Oper) (zs : List (Nat × Value)) (k : Nat), k < zs.length → zs.length ≤ r.length → lzs P N L r zs → ∃ (o : Oper) (z : Nat × Value), r[k]? = some o ∧ zs[k]? = some z ∧ z.1 < N ∧ ∀ a w, Slots N L a → (execOp a.eval o).run P w = .ok (.value z.2) w
  | [], zs, _, h, hl, _ => by simp at hl; subst hl; simp at h
  | o :: r, [], _, h, _, _ => by simp at h
  | o :: r, z :: zs, 0, _, _, h => ⟨o, z, rfl, rfl, h.1.1, h.1.2⟩
  | o :: r, z :: zs, k + 1, hk, hl, h => by
    obtain ⟨o', z', h1, h2, h3⟩ := lzs_get r zs k (by simpa using hk) (by simpa using hl) h.2
    exact ⟨o', z', by simpa using h1, by simpa using h2, h3⟩
theorem wp_lazyI {M : Nat → Prop} {LW : World → Prop} {id : Nat} {a₀ : Act} {w : World} {l : List Oper} {N : Nat} {L : List (Nat × Value)} (S : Slots N L a₀) (n m : Nat) (E : List (Nat × StP M)) (I : World → Prop) (Ds : List (List Nat)) (outs : List Nat) (Z : List (Nat × Value)) (t1 : Oper) (rest : List Oper) (J : Act → World → Prop)
    (ht1 : l[n]? = some t1) (hg1 : t1.guard = none) (hrest : rest = l.drop (n + m + 1)) (hm : P.follows .mixedOrders = true) (hok : (headOk l.toArray n && depsOk l.toArray n 0 Ds && keysOk l.toArray n L && outsOk l.toArray n outs && lazyOk l.toArray n m L Z) = true) (hlen : Ds.length = n) (hZ : Z.length = m) (hI : I { w with drawn := w.drawn + 1 })
    (step : steps P l.toArray Q N L w E I 0 (l.take n) Ds) (lzy : ∀ k, k < m → ∃ (o : Oper) (z : Nat × Value) (D : List Nat), l[n + 1 + k]? = some o ∧ Z[k]? = some z ∧ z.1 < N ∧ (∀ k' ∈ D, ∃ e, e ∈ o.after ∧ Region.binds .any e = true ∧ e.on = n + 1 + k') ∧ ∀ a w, Slots N L a → LW w → (∀ k' ∈ D, ∀ z', Z[k']? = some z' → a.tmps.getD z'.1 undef = z'.2) → (execOp a.eval o).run P w = .ok (.value z.2) w)
    (hLI : ∀ w, I w → LW w) (hLJ : ∀ a w, J a w → LW w)
    (main : ∀ a w', Ch M w w' → I w' → Slots N L a → deps E a w' outs → t1.wp P a w' J Q)
    (stay : ∀ a w d v, (∃ (k : Nat) (z : Nat × Value), Z[k]? = some z ∧ z.1 = d) → J a w → J (a.put (some d) v) w) (hJ : ∀ a w, J a w → Slots N L a)
    (fin : ∀ a w, J a w → Slots N Z a → wpList P l.toArray Q rest a w) : (Code.region id l.toArray true).wp P Q a₀ w := by
  have hsz : n + m + 1 < l.length := by
    have h := hok
    simp only [Bool.and_eq_true, lazyOk, decide_eq_true_eq] at h
    simpa using h.2.1.1.1.1.1.1.1.1
  refine wp_region_any hm ?_
  have inv0 : HeadInv .any l.toArray (n + m + 1) (Array.replicate l.toArray.size false) :=
    ⟨by simp, fun j oj _ hl => (by rw [getD_replicate_false] at hl; cases hl), fun t _ ht => getD_in (by simpa using ht) (getD_replicate_false _ _)⟩
  have hleft : left (n + m + 1) (Array.replicate l.toArray.size false) = n + m + 1 := by
    unfold left
    rw [List.filter_eq_self.2]
    · simp
    · intro j hj
      have := List.mem_range.1 hj
      rw [getD_in (by simp; omega) (getD_replicate_false _ _)]
      rfl
  have h := lazy_main (P := P) (Q := Q) (M := M) (ops := l.toArray) (n := n) (m := m) (N := N) (L := L) (Z := Z) (W := w) (E := E) (I := I) (LW := LW) (Ds := Ds) (outs := outs) (J := J) (t1 := t1) (rest := rest) (by simpa using ht1) hg1 (by simpa using hrest) hok hlen
    (fun i hi => by
      obtain ⟨o, D, e1, e2, h⟩ := steps_get (l.take n) Ds 0 i (by omega) (by simp; omega) step
      rw [List.getElem?_take_of_lt hi] at e1
      rw [Nat.zero_add] at h
      exact ⟨o, D, by simpa using e1, e2, h⟩)
    (fun k hk => by
      obtain ⟨o, z, D, e1, e⟩ := lzy k hk
      exact ⟨o, z, D, by simpa using e1, e⟩) hLI hLJ
    main stay hJ fin (n + m + 1) (Array.replicate l.toArray.size false) a₀ { w with drawn := w.drawn + 1 } hleft inv0 ⟨S.size, S.defers, S.get⟩
    (fun k z _ hl => by rw [getD_replicate_false] at hl; cases hl) (fun _ => ⟨(Ch.refl _).drew, hI, fun j _ hl => (by rw [getD_replicate_false] at hl; cases hl)⟩) (fun hl => by rw [getD_replicate_false] at hl; cases hl)
  rwa [show n + m + 1 + (l.toArray.size - (n + m + 1)) = l.toArray.size from by simp; omega] at h
theorem wp_lazy {M : Nat → Prop} {id : Nat} {a₀ : Act} {w : World} {l : List Oper} {N : Nat} {L : List (Nat × Value)} (S : Slots N L a₀) (n m : Nat) (E : List (Nat × StP M)) (I : World → Prop) (Ds : List (List Nat)) (outs : List Nat) (Z : List (Nat × Value)) (t1 : Oper) (rest : List Oper) (J : Act → World → Prop)
    (ht1 : l[n]? = some t1) (hg1 : t1.guard = none) (hrest : rest = l.drop (n + m + 1)) (hm : P.follows .mixedOrders = true) (hok : (headOk l.toArray n && depsOk l.toArray n 0 Ds && keysOk l.toArray n L && outsOk l.toArray n outs && lazyOk l.toArray n m L Z) = true) (hlen : Ds.length = n) (hZ : Z.length = m) (hI : I { w with drawn := w.drawn + 1 })
    (step : steps P l.toArray Q N L w E I 0 (l.take n) Ds) (lzy : lzs P N L (l.drop (n + 1)) Z)
    (main : ∀ a w', Ch M w w' → I w' → Slots N L a → deps E a w' outs → t1.wp P a w' J Q)
    (stay : ∀ a w d v, (∃ (k : Nat) (z : Nat × Value), Z[k]? = some z ∧ z.1 = d) → J a w → J (a.put (some d) v) w) (hJ : ∀ a w, J a w → Slots N L a)
    (fin : ∀ a w, J a w → Slots N Z a → wpList P l.toArray Q rest a w) : (Code.region id l.toArray true).wp P Q a₀ w :=
  wp_lazyI (LW := fun _ => True) S n m E I Ds outs Z t1 rest J ht1 hg1 hrest hm hok hlen hZ hI step (fun k hk => by
    have hsz : n + m + 1 < l.length := by
      have h := hok
      simp only [Bool.and_eq_true, lazyOk, decide_eq_true_eq] at h
      simpa using h.2.1.1.1.1.1.1.1.1
    obtain ⟨o, z, e1, e2, e3, e4⟩ := lzs_get (P := P) (l.drop (n + 1)) Z k (by omega) (by simp; omega) lzy
    rw [List.getElem?_drop] at e1
    exact ⟨o, z, [], e1, e2, e3, fun _ h => by simp at h, fun a w S _ _ => e4 a w S⟩) (fun _ _ => trivial) (fun _ _ _ => trivial) main stay hJ fin
theorem Slots.put_ne {N d : Nat} {L : List (Nat × Value)} {a : Act} {v : Value} (S : Slots N L a) (hd : look d L = none) : Slots N L (a.put (some d) v) := by
  refine ⟨by simp [Act.put, S.size], S.defers, fun i u hu => ?_⟩
  have : d ≠ i := by rintro rfl; rw [hd] at hu; cases hu
  rw [show (a.put (some d) v).tmps.getD i undef = a.tmps.getD i undef from by simp [Act.put, Array.getElem?_setIfInBounds_ne this]]
  exact S.get i u hu
theorem Slots.both {N : Nat} {L Z : List (Nat × Value)} {a : Act} (S : Slots N L a) (T : Slots N Z a) : Slots N (Z ++ L) a := by
  refine ⟨S.size, S.defers, fun i u hu => ?_⟩
  induction Z with
  | nil => exact S.get i u hu
  | cons p r ih =>
    obtain ⟨j, v⟩ := p
    rw [List.cons_append, look_cons] at hu
    by_cases e : j = i
    · rw [if_pos e] at hu
      exact T.get i u (by rw [look_cons, if_pos e]; exact hu)
    · rw [if_neg e] at hu
      by_cases hr : ∃ x, look i r = some x
      · obtain ⟨x, hx⟩ := hr
        have hx2 : look i (r ++ L) = some x := by
          clear ih T hu
          induction r with
          | nil => cases hx
          | cons q r ih =>
            obtain ⟨k, y⟩ := q
            rw [List.cons_append, look_cons]
            rw [look_cons] at hx
            by_cases ek : k = i
            · rw [if_pos ek] at hx ⊢; exact hx
            · rw [if_neg ek] at hx ⊢; exact ih hx
        rw [hx2] at hu
        rw [← Option.some.inj hu]
        exact T.get i x (by rw [look_cons, if_neg e]; exact hx)
      · have hn : look i r = none := by
          cases h : look i r with
          | none => rfl
          | some x => exact absurd ⟨x, h⟩ hr
        have : look i (r ++ L) = look i L := by
          clear ih T hu hr
          induction r with
          | nil => rfl
          | cons q r ih =>
            obtain ⟨k, y⟩ := q
            rw [look_cons] at hn
            rw [List.cons_append, look_cons]
            by_cases ek : k = i
            · rw [if_pos ek] at hn; cases hn
            · rw [if_neg ek] at hn ⊢; exact ih hn
        rw [this] at hu
        exact S.get i u hu
end
end Go.Proofs.Ytobggnpnochnnaa.V
/- Short forms of what a walk's text repeats. -/
namespace Go.Proofs.Ytobggnpnochnnaa.V
open Go.RowKit
abbrev bD (p : Prop) [Decidable p] : Value := .bool (decide p)
abbrev iN (n : Nat) : Value := .int .i64 (n : Int)
abbrev iI (i : Int) : Value := .int .i64 i
abbrev pT (b o : Nat) : Value := .pointer (some ⟨b, o, none⟩)
abbrev sV {α : Type} (s : Sl α) : Value := .slice s.a s.xs.length s.c
abbrev iV (v : Value) : StP (In []) := isV (In []) v
section
variable {P : Program} {Q : Exit → Act → World → Prop} {n : Nat} {L : List (Nat × Value)} {a : Act} {w : World} {ops : Array Oper} {rest : List Oper} {o : Oper} {ty : TypeId} {pos : String} {af : Array Edge}
theorem Slots.e (S : Slots n L a) {x : Operand} {v : Value} (h : evS L x = some v) : a.eval x = v := S.eval h
theorem Slots.p (S : Slots n L a) {x : Operand} {c : Prop} [Decidable c] {v u : Value} (h : evS L x = some (if c then v else u)) (hc : c) : a.eval x = v := (S.eval h).trans (if_pos hc)
theorem qv (S : Slots n L a) {d : Nat} (v : Value) {w' : World} (h : (execOp a.eval o).run P w = .ok (.value v) w') (next : ∀ a', Slots n ((d, v) :: L) a' → wpList P ops Q rest a' w')
    (hk : o.guard = none ∧ o.dst = some d ∧ d < n := by exact ⟨rfl, rfl, by decide⟩) : wpList P ops Q (o :: rest) a w := seq_val S hk.1 hk.2.1 hk.2.2 h next
theorem qm (S : Slots n L a) {d : Nat} {x : Operand} {v : Value} (h : evS L x = some v) (next : ∀ a', Slots n ((d, v) :: L) a' → wpList P ops Q rest a' w) (hdn : d < n := by decide) :
    wpList P ops Q (⟨some d, .move x, ty, pos, af, none⟩ :: rest) a w := seq_val S rfl rfl hdn (x_move (S.eval h)) next
theorem qa (S : Slots n L a) {d : Nat} {x : Operand} {v : Value} (h : evS L x = some v) (next : ∀ a', Slots n ((d, v) :: L) a' → wpList P ops Q rest a' w) (hdn : d < n := by decide) :
    wpList P ops Q (⟨some d, .assign x, ty, pos, af, none⟩ :: rest) a w := seq_val S rfl rfl hdn (x_assign (S.eval h)) next
theorem qg (S : Slots n L a) (gd : Nat) {b : Bool} {gv : Value} (hv : look gd L = some gv) (c : Prop) [Decidable c] (hc : c ↔ gv = .bool b) {e : Nat} (v : Value) (h : c → (execOp a.eval o).run P w = .ok (.value v) w)
    (next : ∀ a', Slots n ((e, if c then v else undef) :: L) a' → wpList P ops Q rest a' w)
    (hk : ∃ j p, o.guard = some (j, b) ∧ ops[j]? = some p ∧ p.dst = some gd ∧ gd < n ∧ o.dst = some e ∧ e < n := by exact ⟨_, _, rfl, rfl, rfl, by decide, rfl, by decide⟩) : wpList P ops Q (o :: rest) a w := by
  obtain ⟨j, p, h1, h2, h3, h4, h5, h6⟩ := hk
  exact seq_gd S h1 h2 h3 h4 hv hc h5 h6 h next
theorem qt {f : Act → World → Prop} (h : f a w) : wpList P ops (Exit.then f Q) [] a w := wpList_nil (then_n h)
theorem qs {id : Nat} {l : List Oper} {y : Code} (h : wpList P l.toArray (Exit.then (y.wp P Q) Q) l a w) : (Code.seq (.region id l.toArray false) y).wp P Q a w := wp_seq (wp_region_lit h)
end
section
variable {M : Nat → Prop} {E : List (Nat × StP M)} {I : World → Prop} {N i : Nat} {P : Program} {Q : Exit → Act → World → Prop} {L : List (Nat × Value)} {a : Act} {w : World} {ops : Array Oper} {o : Oper} {ty : TypeId} {pos : String} {af : Array Edge}
theorem qo (v : Value) (h : (execOp a.eval o).run P w = .ok (.value v) w) (hI : I w)
    (hk : ops[i]? = some o ∧ o.guard = none ∧ ∃ d, o.dst = some d ∧ d < N ∧ lookE E d v w := by exact ⟨rfl, rfl, _, rfl, by decide, (show _ = _ from rfl)⟩) : wpOp P ops Q i (Done o E I N a w) a w := by
  obtain ⟨h1, h2, d, h3, h4, h5⟩ := hk
  exact head_op h1 h2 (op_val h (Done.same h3 h4 h5 hI))
theorem qy (S : Slots N L a) (gd : Nat) {b : Bool} {gv : Value} (hv : look gd L = some gv) (hw : gv = .bool b) (v : Value) (h : (execOp a.eval o).run P w = .ok (.value v) w) (hI : I w)
    (hk : ops[i]? = some o ∧ ∃ j p, o.guard = some (j, b) ∧ ops[j]? = some p ∧ p.dst = some gd ∧ gd < N ∧ ∃ d, o.dst = some d ∧ d < N ∧ lookE E d v w := by
      exact ⟨rfl, _, _, rfl, rfl, rfl, by decide, _, rfl, by decide, (show _ = _ from (if_pos hg).symm)⟩) : wpOp P ops Q i (Done o E I N a w) a w := by
  obtain ⟨h1, j, p, h2, h3, h4, h5, d, h6, h7, h8⟩ := hk
  exact head_yes h1 h2 h3 h4 (by rw [S.size]; exact h5) (S.get gd _ hv) hw (op_val h (Done.same h6 h7 h8 hI))
theorem qn (S : Slots N L a) (gd : Nat) {b : Bool} {gv : Value} (hv : look gd L = some gv) (hw : ¬ gv = .bool b) (hI : I w)
    (hk : ops[i]? = some o ∧ ∃ j p, o.guard = some (j, b) ∧ ops[j]? = some p ∧ p.dst = some gd ∧ gd < N ∧ ∃ d, o.dst = some d ∧ d < N ∧ lookE E d undef w := by
      exact ⟨rfl, _, _, rfl, rfl, rfl, by decide, _, rfl, by decide, (show _ = _ from (if_neg hg).symm)⟩) : wpOp P ops Q i (Done o E I N a w) a w := by
  obtain ⟨h1, j, p, h2, h3, h4, h5, d, h6, h7, h8⟩ := hk
  exact head_no h1 h2 h3 h4 (by rw [S.size]; exact h5) (S.get gd _ hv) hw (Done.same h6 h7 h8 hI)
end
section
variable {α : Type} {F : Nat → Prop} {ms ms' chg : List BS} {w w' : World} {x : α}
theorem Tr.och (h : MS ms w) (g : Ch (In chg) w w') (hs : ∀ o, o ∈ chg → o ∈ ms := by intro o h; simp at h ⊢; first | exact .inl h | simp [h]) : Tr ms w ms w' := Tr.of_ch h g hs
theorem Tr.fra {m0 : List BS} (h : MS ms w) (t : Tr m0 w m0 w') (hs : ∀ o, o ∈ m0 → o ∈ ms := by intro o h; simp at h ⊢; first | exact .inl h | simp [h]) : Tr ms w ms w' := Tr.framed h t hs
theorem Enc.dn (E : Enc α) (H : E.wf (Fr F ms) w.heap x) (hs : ∀ o, o ∈ ms' → o ∈ ms := by intro o h; simp at h ⊢; first | exact .inl h | simp [h]) : E.wf (Fr (Ex F ms) ms') w.heap x := E.down H hs
end
end Go.Proofs.Ytobggnpnochnnaa.V
/- Regions that draw their order and make several new blocks: what is told of two of them. -/
namespace Go.Proofs.Ytobggnpnochnnaa.V
open Go.RowKit
section
variable {P : Program}
theorem head_main2 {ops : Array Oper} {n : Nat} {Q : Exit → Act → World → Prop} {E : Nat → Value → World → Prop} {C : Array Bool → Act → World → Prop} {a₀ : Act} (tail : List Oper) (htl : tail = ops.toList.drop n) (hok : headOk ops n = true) (htail : tailOk ops n = true)
    (step : ∀ i, i < n → ∀ o, ops[i]? = some o → ∀ (listed : Array Bool) a w, listed.getD i true = false → listed.size = ops.size → C listed a w → HeadState ops n E a₀ listed a w → a.tmps.size = a₀.tmps.size → a.defers = a₀.defers → (∀ t, (∀ j, j < n → ∀ o, ops[j]? = some o → o.dst ≠ some t) → a.tmps.getD t undef = a₀.tmps.getD t undef) →
      (∀ j p d, j < n → ops[j]? = some p → p.dst = some d → d ∈ o.looksAt ops → E d (a.tmps.getD d undef) w) →
      wpOp P ops Q i (fun a' w' => (∃ v, a' = a.put o.dst v ∧ (∀ d, o.dst = some d → d < a.tmps.size ∧ E d v w')) ∧ C (listed.setIfInBounds i true) a' w' ∧ ∀ t v, E t v w → E t v w') a w)
    (fin : ∀ a w, C (Array.replicate n true ++ Array.replicate (ops.size - n) false) a w → HeadState ops n E a₀ (Array.replicate n true) a w → wpList P ops Q tail a w) :
    ∀ (f : Nat) (listed : Array Bool) (a : Act) (w : World), left n listed = f → HeadInv .any ops n listed → C listed a w → HeadState ops n E a₀ listed a w → wpAny P .any ops Q (f + (ops.size - n)) listed a w := by
  simp only [tailOk, Bool.and_eq_true, decide_eq_true_eq] at htail
  obtain ⟨⟨hn, hsc⟩, hseq⟩ := htail
  intro f
  induction f with
  | zero =>
    intro listed a w hf inv hC st
    have hall := left_zero hf
    have hl : listed = Array.replicate n true ++ Array.replicate (ops.size - n) false := by
      apply Array.ext
      · simp [inv.size]; omega
      · intro i h1 h2
        by_cases hi : i < n
        · have h3 := hall i hi
          simp [h1] at h3
          simp [Array.getElem_append, hi, h3]
        · have h3 := inv.tail i (by omega) (by rw [← inv.size]; exact h1)
          simp [h1] at h3
          simp [Array.getElem_append, hi, h3]
    subst hl
    have hlen : tail.length = ops.size - n := by rw [htl]; simp
    have h := wpAny_of_seq (P := P) (ops := ops) (md := .any) (Q' := Q) tail n (Array.replicate n true ++ Array.replicate (ops.size - n) false) a w (fun j => by rw [htl, List.getElem?_drop, Array.getElem?_toList]) (by rw [hlen]; exact hseq) (fin a w hC
      ⟨st.size, st.defers, st.base, fun j hj _ o d ho hd => st.done j hj (by simp [Array.getElem?_append, hj]) o d ho hd⟩)
    rw [hlen] at h
    rw [Nat.zero_add]
    exact h
  | succ f ih =>
    intro listed a w hf inv hC st
    rw [show f + 1 + (ops.size - n) = (f + (ops.size - n)) + 1 from by omega]
    obtain ⟨j, hjn, hjl, hjmin⟩ := left_pos (n := n) (listed := listed) (by omega)
    have hget : ∀ i, i < n → ∃ o, ops[i]? = some o := fun i hi => ⟨_, Array.getElem?_eq_getElem (Nat.lt_of_lt_of_le hi hn)⟩
    have hready : j ∈ Region.ready .any ops listed := by
      obtain ⟨o, ho⟩ := hget j hjn
      refine mem_ready.2 ⟨hjl, o, ho, fun e he hb => ?_⟩
      have h1 := List.all_eq_true.1 hok j (List.mem_range.2 hjn)
      simp only [ho, Bool.and_eq_true] at h1
      have h2 := Array.all_eq_true_iff_forall_mem.1 h1.1 e he
      simp only [hb, Bool.not_true, Bool.false_or, decide_eq_true_eq] at h2
      have h3 := hjmin e.on h2
      have h4 : e.on < listed.size := by rw [inv.size]; omega
      simp [h4] at h3 ⊢
      exact h3
    refine ⟨fun h => (by rw [h] at hready; cases hready), fun i hi => ?_⟩
    have hin : i < n := by
      rcases hsc' : (n == ops.size) with _ | _
      · rw [hsc', Bool.false_or, Bool.and_eq_true] at hsc
        have hlt : n < ops.size := by
          have : n ≠ ops.size := by simpa using hsc'
          omega
        exact Nat.lt_of_not_le fun h => tail_waits hsc.1 hsc.2 hlt inv _ j rfl hjn hjl i h hi
      · have : n = ops.size := by simpa using hsc'
        obtain ⟨_, o, ho, _⟩ := mem_ready.1 hi
        have := (Array.getElem?_eq_some_iff.1 ho).1
        omega
    obtain ⟨hil, o, ho, hall⟩ := mem_ready.1 hi
    refine wpOp_mono ?_ (step i hin o ho listed a w hil inv.size hC st st.size st.defers st.base ?_)
    · rintro a' w' ⟨⟨v, rfl, hv⟩, hC', hmono⟩
      have hl' := left_set hin hil
      refine ih (listed.setIfInBounds i true) _ w' (by omega) (inv.set hi hin) hC' ⟨?_, ?_, ?_, ?_⟩
      · cases o.dst <;> simp [Act.put, st.size]
      · cases o.dst <;> simp [Act.put, st.defers]
      · intro t ht
        rw [← st.base t ht]
        have hne := ht i hin o ho
        cases hd : o.dst with
        | none => rfl
        | some d =>
          have : d ≠ t := fun e => hne (by rw [hd, e])
          simp [Act.put, Array.getElem?_setIfInBounds_ne this]
      · intro k hk hkl p d hp hd
        by_cases hki : k = i
        · subst hki
          obtain rfl : o = p := Option.some.inj (ho.symm.trans hp)
          obtain ⟨h1, h2⟩ := hv d hd
          rw [hd, getD_put a d d v h1, if_pos rfl]
          exact h2
        · rw [getD_set_ne false (Ne.symm hki)] at hkl
          have h1 := hmono d _ (st.done k hk hkl p d hp hd)
          have hdist : o.dst ≠ some d := by
            have g1 := List.all_eq_true.1 hok i (List.mem_range.2 hin)
            simp only [ho, Bool.and_eq_true] at g1
            have g2 := List.all_eq_true.1 g1.2 k (List.mem_range.2 hk)
            simp only [hp, hd, Bool.and_eq_true, Bool.or_eq_true, beq_iff_eq, bne_iff_ne, Option.isNone_some, Bool.false_eq_true, or_false] at g2
            exact fun e => (g2.1.resolve_left hki) e.symm
          cases hod : o.dst with
          | none => exact h1
          | some d' =>
            have : d' ≠ d := fun e => hdist (by rw [hod, e])
            rw [show (a.put (some d') v).tmps.getD d undef = a.tmps.getD d undef from by simp [Act.put, Array.getElem?_setIfInBounds_ne this]]
            exact h1
    · intro k p d hk hp hd hlook
      have g1 := List.all_eq_true.1 hok i (List.mem_range.2 hin)
      simp only [ho, Bool.and_eq_true] at g1
      have g2 := List.all_eq_true.1 g1.2 k (List.mem_range.2 hk)
      simp only [hp, hd, Bool.and_eq_true, Bool.or_eq_true, Bool.not_eq_true'] at g2
      rcases g2.2 with g3 | g3
      · rw [List.contains_eq_mem] at g3
        simp [hlook] at g3
      · obtain ⟨e, he, hb⟩ := Array.any_eq_true'.1 g3
        simp only [Bool.and_eq_true, beq_iff_eq] at hb
        exact st.done k hk (by rw [← hb.2]; exact hall e he hb.1) p d hp hd
theorem wp_region_heads2 {id : Nat} {Q : Exit → Act → World → Prop} {a₀ : Act} {w : World} {l : List Oper} (n : Nat) (E : Nat → Value → World → Prop) (C : Array Bool → Act → World → Prop) (tail : List Oper) (htl : tail = l.drop n) (hm : P.follows .mixedOrders = true) (hok : headOk l.toArray n = true) (htail : tailOk l.toArray n = true)
    (hC : C (Array.replicate l.length false) a₀ { w with drawn := w.drawn + 1 })
    (step : ∀ i, i < n → ∀ o, l.toArray[i]? = some o → ∀ (listed : Array Bool) a w, listed.getD i true = false → listed.size = l.length → C listed a w → HeadState l.toArray n E a₀ listed a w → a.tmps.size = a₀.tmps.size → a.defers = a₀.defers → (∀ t, (∀ j, j < n → ∀ o, l.toArray[j]? = some o → o.dst ≠ some t) → a.tmps.getD t undef = a₀.tmps.getD t undef) →
      (∀ j p d, j < n → l.toArray[j]? = some p → p.dst = some d → d ∈ o.looksAt l.toArray → E d (a.tmps.getD d undef) w) →
      wpOp P l.toArray Q i (fun a' w' => (∃ v, a' = a.put o.dst v ∧ (∀ d, o.dst = some d → d < a.tmps.size ∧ E d v w')) ∧ C (listed.setIfInBounds i true) a' w' ∧ ∀ t v, E t v w → E t v w') a w)
    (fin : ∀ a w, C (Array.replicate n true ++ Array.replicate (l.length - n) false) a w → HeadState l.toArray n E a₀ (Array.replicate n true) a w → wpList P l.toArray Q tail a w) : (Code.region id l.toArray true).wp P Q a₀ w := by
  refine wp_region_any hm ?_
  have hn : n ≤ l.length := by
    simp only [tailOk, Bool.and_eq_true, decide_eq_true_eq] at htail
    simpa using htail.1.1
  have inv0 : HeadInv .any l.toArray n (Array.replicate l.toArray.size false) :=
    ⟨by simp, fun j oj _ hl => (by rw [getD_replicate_false] at hl; cases hl), fun t _ ht => getD_in (by simpa using ht) (getD_replicate_false _ _)⟩
  have hleft : left n (Array.replicate l.toArray.size false) = n := by
    unfold left
    rw [List.filter_eq_self.2]
    · simp
    · intro j hj
      have := List.mem_range.1 hj
      rw [getD_in (by simp; omega) (getD_replicate_false _ _)]
      rfl
  have h := head_main2 (P := P) (Q := Q) (E := E) (C := C) (a₀ := a₀) tail (by simpa using htl) hok htail step fin n (Array.replicate l.toArray.size false) a₀ { w with drawn := w.drawn + 1 } hleft inv0 hC
    ⟨rfl, rfl, fun _ _ => rfl, fun j _ hl => (by rw [getD_replicate_false] at hl; cases hl)⟩
  rwa [show n + (l.toArray.size - n) = l.toArray.size from by simp; omega] at h
end
def blkOf : Value → Option Nat
  | .pointer (some ⟨b, _, _⟩) => some b
  | .slice (some ⟨b, _, _⟩) _ _ => some b
  | _ => none
structure DoneN {M : Nat → Prop} (A : List Nat) (o : Oper) (E : List (Nat × StP M)) (I : World → Prop) (N : Nat) (a : Act) (w : World) (a' : Act) (w' : World) : Prop where
  put : ∃ v, a' = a.put o.dst v ∧ ∀ d, o.dst = some d → d < N ∧ lookE E d v w' ∧ (d ∈ A → ∃ b, blkOf v = some b ∧ w.heap.size ≤ b)
  ch : Ch M w w'
  inv : I w'
def stepsN {M : Nat → Prop} (A : List Nat) (P : Program) (ops : Array Oper) (Q : Exit → Act → World → Prop) (N : Nat) (L : List (Nat × Value)) (W : World) (E : List (Nat × StP M)) (I : World → Prop) : Nat → List Oper → List (List Nat) → Prop
  | i, o :: r, D :: Ds => (∀ a w, Ch M W w → I w → Slots N L a → deps E a w D → wpOp P ops Q i (DoneN A o E I N a w) a w) ∧ stepsN A P ops Q N L W E I (i + 1) r Ds
  | _, _, _ => True
def Pairs (A : List Nat) (ops : Array Oper) (n : Nat) (listed : Array Bool) (a : Act) : Prop :=
  ∀ j k p q d e, j < n → k < n → listed.getD j false = true → listed.getD k false = true → ops[j]? = some p → ops[k]? = some q → p.dst = some d → q.dst = some e → d ∈ A → e ∈ A → d ≠ e → blkOf (a.tmps.getD d undef) ≠ blkOf (a.tmps.getD e undef)
theorem headOk_dst {ops : Array Oper} {n i k d : Nat} {o p : Oper} (hok : headOk ops n = true) (hi : i < n) (hk : k < n) (ho : ops[i]? = some o) (hp : ops[k]? = some p) (hd : p.dst = some d) (hki : k ≠ i) : o.dst ≠ some d := by
  have g1 := List.all_eq_true.1 hok i (List.mem_range.2 hi)
  simp only [ho, Bool.and_eq_true] at g1
  have g2 := List.all_eq_true.1 g1.2 k (List.mem_range.2 hk)
  simp only [hp, hd, Bool.and_eq_true, Bool.or_eq_true, beq_iff_eq, bne_iff_ne, Option.isNone_some, Bool.false_eq_true, or_false] at g2
  exact fun e => (g2.1.resolve_left hki) e.symm
theorem stepsN_get {M : Nat → Prop} {A : List Nat} {P : Program} {ops : Array Oper} {Q : Exit → Act → World → Prop} {N : Nat} {L : List (Nat × Value)} {W : World} {E : List (Nat × StP M)} {I : World → Prop} : ∀ (l : List Oper) (Ds : List (List Nat)) (k i : Nat), i < Ds.length → l.length = Ds.length →
    stepsN A P ops Q N L W E I k l Ds → ∃ o D, l[i]? = some o ∧ Ds[i]? = some D ∧ ∀ a w, Ch M W w → I w → Slots N L a → deps E a w D → wpOp P ops Q (k + i) (DoneN A o E I N a w) a w
  | [], Ds, _, i, h, hl, _ => by simp at hl; omega
  | o :: l, [], _, i, h, _, _ => by simp at h
  | o :: l, D :: Ds, k, 0, _, _, h => ⟨o, D, rfl, rfl, h.1⟩
  | o :: l, D :: Ds, k, i + 1, hi, hl, h => by
    obtain ⟨o', D', h1, h2, h3⟩ := stepsN_get l Ds (k + 1) i (by simpa using hi) (by simpa using hl) h.2
    exact ⟨o', D', by simpa using h1, by simpa using h2, by rw [show k + (i + 1) = k + 1 + i from by omega]; exact h3⟩
theorem wp_heads2 {M : Nat → Prop} {P : Program} {id : Nat} {Q : Exit → Act → World → Prop} {a₀ : Act} {w : World} {l : List Oper} {N : Nat} {L : List (Nat × Value)} (S : Slots N L a₀) (n : Nat) (E : List (Nat × StP M)) (I : World → Prop) (Ds : List (List Nat)) (outs : List Nat) (A : List Nat) (hA : ∀ d ∈ A, ∀ u w, lookE E d u w → ∃ x, blkOf u = some x ∧ x < w.heap.size) (tail : List Oper)
    (htl : tail = l.drop n) (hm : P.follows .mixedOrders = true) (hok : (headOk l.toArray n && depsOk l.toArray n 0 Ds && keysOk l.toArray n L && outsOk l.toArray n outs && tailOk l.toArray n) = true) (hlen : Ds.length = n) (hI : I { w with drawn := w.drawn + 1 })
    (step : stepsN A P l.toArray Q N L w E I 0 (l.take n) Ds)
    (fin : ∀ a w', Ch M w w' → I w' → Slots N L a → deps E a w' outs → (∀ d e, isHead l.toArray n d = true → isHead l.toArray n e = true → d ∈ A → e ∈ A → d ≠ e → blkOf (a.tmps.getD d undef) ≠ blkOf (a.tmps.getD e undef)) → wpList P l.toArray Q tail a w') : (Code.region id l.toArray true).wp P Q a₀ w := by
  simp only [Bool.and_eq_true] at hok
  obtain ⟨⟨⟨⟨h1, h2⟩, h3⟩, h4⟩, h5⟩ := hok
  have hn : n ≤ l.length := by
    simp only [tailOk, Bool.and_eq_true, decide_eq_true_eq] at h5
    simpa using h5.1.1
  refine wp_region_heads2 n (lookE E) (fun listed a w' => (Ch M w w' ∧ I w') ∧ Pairs A l.toArray n listed a) tail htl hm h1 h5 ⟨⟨(Ch.refl _).drew, hI⟩, fun j k p q d e _ _ hj => absurd (getD_replicate_false l.length j) (by simpa using hj)⟩ ?_ ?_
  · intro i hi o ho listed a w' hil hls hC0 hst hs hd hb hE
    obtain ⟨hC, hP⟩ := hC0
    obtain ⟨o', D, e1, e2, h⟩ := stepsN_get (l.take n) Ds 0 i (by omega) (by simp; omega) step
    obtain rfl : o' = o := by
      rw [List.getElem?_take_of_lt hi] at e1
      have : l.toArray[i]? = l[i]? := by simp
      rw [this, e1] at ho
      exact Option.some.inj ho
    have hdep : ∀ D', (∀ d ∈ D', d ∈ D) → deps E a w' D' := by
      intro D'
      induction D' with
      | nil => intro _; trivial
      | cons d r ih =>
        intro hsub
        refine ⟨?_, ih fun d hd => hsub d (List.mem_cons_of_mem _ hd)⟩
        have hget : ∀ (Ds : List (List Nat)) (k i : Nat), depsOk l.toArray n k Ds = true → Ds[i]? = some D → ∃ o, l.toArray[k + i]? = some o ∧ ∀ d ∈ D, d ∈ o.looksAt l.toArray ∧ isHead l.toArray n d = true := by
          intro Ds
          induction Ds with
          | nil => intro k i _ h; simp at h
          | cons D0 Ds ih =>
            intro k i hk hi
            simp only [depsOk, Bool.and_eq_true] at hk
            cases i with
            | zero =>
              obtain rfl : D0 = D := by simpa using hi
              cases hp : l.toArray[k]? with
              | none => rw [hp] at hk; cases hk.1
              | some p =>
                rw [hp] at hk
                refine ⟨p, rfl, fun d hd => ?_⟩
                have := List.all_eq_true.1 hk.1 d hd
                simpa [Bool.and_eq_true, List.contains_iff_mem] using this
            | succ i =>
              obtain ⟨o, g1, g2⟩ := ih (k + 1) i hk.2 (by simpa using hi)
              exact ⟨o, by rw [show k + (i + 1) = k + 1 + i from by omega]; exact g1, g2⟩
        obtain ⟨o2, g1, g2⟩ := hget Ds 0 i h2 e2
        rw [Nat.zero_add, ho] at g1
        obtain rfl := Option.some.inj g1
        obtain ⟨g3, g4⟩ := g2 d (hsub d List.mem_cons_self)
        obtain ⟨j, p, g5, g6, g7⟩ := isHead_spec g4
        exact hE j p d g5 g6 g7 g3
    have h' := h a w' hC.1 hC.2 (S.base h3 hs hd hb) (hdep D fun d hd => hd)
    rw [Nat.zero_add] at h'
    refine wpOp_mono ?_ h'
    rintro a' w2 ⟨⟨v, hv, hd'⟩, hc, hi'⟩
    refine ⟨⟨v, hv, fun d hdd => ⟨by rw [hs, S.size]; exact (hd' d hdd).1, (hd' d hdd).2.1⟩⟩, ⟨⟨hC.1.same hc, hi'⟩, ?_⟩, fun t v => lookE_st E t v _ _ hc⟩
    subst hv
    have own : ∀ d, o'.dst = some d → (a.put o'.dst v).tmps.getD d undef = v := fun d hd => by
      rw [hd, getD_put a d d v (by rw [hs, S.size]; exact (hd' d hd).1), if_pos rfl]
    have other : ∀ d, o'.dst ≠ some d → (a.put o'.dst v).tmps.getD d undef = a.tmps.getD d undef := fun d hd => by
      cases hod : o'.dst with
      | none => rfl
      | some d' =>
        have : d' ≠ d := fun e => hd (by rw [hod, e])
        simp [Act.put, Array.getElem?_setIfInBounds_ne this]
    have apart : ∀ k q e, k < n → listed.getD k false = true → l.toArray[k]? = some q → q.dst = some e → e ∈ A → ∀ d, o'.dst = some d → d ∈ A → blkOf v ≠ blkOf (a.tmps.getD e undef) := fun k q e hk hl hq he hA' d hd hdA => by
      obtain ⟨b, hb1, hb2⟩ := (hd' d hd).2.2 hdA
      obtain ⟨x, hx1, hx2⟩ := hA e hA' _ w' (hst.done k hk hl q e hq he)
      rw [hb1, hx1]; intro h; cases h; omega
    intro j k p q d e hj hk hlj hlk hp hq hd2 he hdA heA hne
    by_cases hji : j = i
    · subst hji
      obtain rfl : o' = p := Option.some.inj (ho.symm.trans hp)
      by_cases hki : k = j
      · subst hki
        obtain rfl : o' = q := Option.some.inj (ho.symm.trans hq)
        rw [hd2] at he; exact absurd (Option.some.inj he) hne
      · rw [getD_set_ne false (Ne.symm hki)] at hlk
        rw [own d hd2, other e (headOk_dst h1 hj hk ho hq he hki)]
        exact apart k q e hk hlk hq he heA d hd2 hdA
    · rw [getD_set_ne false (Ne.symm hji)] at hlj
      by_cases hki : k = i
      · subst hki
        obtain rfl : o' = q := Option.some.inj (ho.symm.trans hq)
        rw [own e he, other d (headOk_dst h1 hk hj ho hp hd2 hji)]
        exact fun h => apart j p d hj hlj hp hd2 hdA e he heA h.symm
      · rw [getD_set_ne false (Ne.symm hki)] at hlk
        rw [other d (headOk_dst h1 hi hj ho hp hd2 hji), other e (headOk_dst h1 hi hk ho hq he hki)]
        exact hP j k p q d e hj hk hlj hlk hp hq hd2 he hdA heA hne
  · intro a w' hC st
    refine fin a w' hC.1.1 hC.1.2 (S.base h3 st.size st.defers st.base) ?_ fun d e hd he hdA heA hne => ?_
    rotate_left
    · obtain ⟨j, p, g5, g6, g7⟩ := isHead_spec hd
      obtain ⟨k, q, f5, f6, f7⟩ := isHead_spec he
      exact hC.2 j k p q d e g5 f5 (by simp [Array.getElem?_append, g5]) (by simp [Array.getElem?_append, f5]) g6 f6 g7 f7 hdA heA hne
    have : ∀ outs', (∀ d ∈ outs', isHead l.toArray n d = true) → deps E a w' outs' := by
      intro outs'
      induction outs' with
      | nil => intro _; trivial
      | cons d r ih =>
        intro h
        obtain ⟨j, p, g5, g6, g7⟩ := isHead_spec (h d List.mem_cons_self)
        exact ⟨st.done j g5 (by simp [g5]) p d g6 g7, ih fun d hd => h d (List.mem_cons_of_mem _ hd)⟩
    exact this outs (List.all_eq_true.1 h4)
theorem Row.ups {α : Type} {E : Enc α} {t : TypeId} {base b0 : Nat} {F : Nat → Prop} {ms m0 nw : List BS} {w : World} {ad : Option Addr} {cap : Nat} {xs : List α} (r : Row E t base (Ex F ms) (nw ++ m0) w ad cap xs) (hb : b0 ≤ base) : Row E t b0 F (nw ++ ms) w ad cap xs :=
  ⟨(r.lower hb).own, fun x hx => E.mono (fun k _ h => ⟨fun e => (in_app.1 e).elim (fun e => h.1 (in_app.2 (.inl e))) fun e => h.2 (.inl e), fun e => h.2 (.inr e)⟩) (r.wf x hx)⟩
end Go.Proofs.Ytobggnpnochnnaa.V
