/- Appending to a slice that is full and only read: the old elements stay where they are. -/
import Derived.Test.YtmaiillomoehgaaDoorGrpD
set_option linter.unusedVariables false
set_option linter.unusedSimpArgs false
namespace Go.Proofs.YtmaiillomoehgaaDoor.V
open Go.RowKit
section
variable {F : Nat → Prop} {w0 w : World} {m0 : List BS} {n : Nat} {L : List (Nat × Value)} {fs : List RF} {os : List OF} {a : Act} {P : Program} {ops : Array Oper} {Q : Exit → Act → World → Prop} {rest : List Oper} {ty : TypeId} {pos : String} {af : Array Edge}
theorem lat_cells {α : Type} {E : Enc α} {D : Nat → Prop} {h : World} {sa : Option Addr} {p : Addr} {ys : List α} (hsz : 0 < E.n) (hsrc : LAt E D h.heap sa ys) (hp : sa = some p) : ∀ j u, (ys.flatMap E.cells)[j]? = some u → h.cell? (p.add j) = some u := fun j u hj => by
  subst hp
  have hj' := (List.getElem?_eq_some_iff.1 hj).1
  rw [flat_len E.len ys] at hj'
  have hm : j / E.n < ys.length := (Nat.div_lt_iff_lt_mul hsz).2 hj'
  have hdm : j / E.n * E.n + j % E.n = j := by rw [Nat.mul_comm]; exact Nat.div_add_mod j E.n
  have hpos : 0 < ys.length := Nat.lt_of_le_of_lt (Nat.zero_le _) hm
  have hmod : j % E.n < (E.cells (ys.getD (j / E.n) E.dflt)).length := by rw [E.len]; exact Nat.mod_lt _ hsz
  have h2 := flat_get E.len ys (j / E.n) hm (j % E.n) _ (List.getElem?_eq_getElem hmod)
  rw [hdm, hj] at h2
  have h3 := hsrc.cell (j / E.n) hm (j % E.n) u (by rw [List.getElem?_eq_getElem hmod]; exact h2.symm)
  rw [show off (some p) + j / E.n * E.n + j % E.n = off (some p) + j from by omega] at h3
  have h4 := (hsrc.ad hpos).1
  rw [Option.some.inj h4, addr_add]
  exact h3
theorem hcell_of {h : Array Obj} {b : Nat} {c : Array Value} {t : TypeId} {f : Nat × Nat} (k : h[b]? = some (.cells c t f)) (o : Nat) : hcell h b o = c[o]? := by unfold hcell; rw [k]
theorem app_full {α : Type} {E : Enc α} {D : Nat → Prop} {W : List BS} {t ts : TypeId} {z : Value} {bytes : Nat} {p sa : Option Addr} {sc : Nat} {xs ys : List α} (ht : P.underlying ts = some (.slice t)) (hz : (P.info? t).map (fun i => (i.zero, i.size, i.bytes)) = some (some z, E.n, bytes)) (hzs : z.cells.size = E.n) (hsz : 0 < E.n)
    (hx0 : 0 < xs.length) (H : (slE E).wf (Fr F W) w.heap ⟨p, xs.length, xs⟩) (hM : MS W w) (hF : Old F w) (hsrc : LAt E D w.heap sa ys) (hsc : sa = none → sc = 0) (hyw : ∀ y ∈ ys, E.wf (Fr F W) w.heap y) (h63 : xs.length + ys.length ≤ 1000000) (hby : bytes ≤ 64) :
    ∃ ad' cap' w', (Builtin.append_ #[ts, ts] ty #[.slice p xs.length xs.length, .slice sa ys.length sc]).run P w = .ok (.slice ad' (xs ++ ys).length cap') w' ∧ Ch (In []) w w' ∧ (slE E).wf (Fr F W) w'.heap ⟨ad', cap', xs ++ ys⟩ := by
  obtain ⟨i0, hi0, hz0, hz1, hz2⟩ := info_of hz
  rcases Nat.eq_zero_or_pos ys.length with e | e
  · obtain rfl : ys = [] := List.length_eq_zero_iff.1 e
    have hp := (H.1.ad hx0).1
    refine ⟨p, xs.length, w, ?_, Ch.refl _, by rw [List.append_nil]; exact H⟩
    rw [List.append_nil, show p = some ⟨blk p, off p, none⟩ from hp]
    cases sa with
    | none => rw [hsc rfl]; simp [Builtin.append_, run_underlying ht, sizeOf, typeInfo, hi0, Builtin.lenOf, Builtin.firstCells, loadCells, loadCellsFrom, storeCells]
    | some q => simp [Builtin.append_, run_underlying ht, sizeOf, typeInfo, hi0, Builtin.lenOf, Builtin.firstCells, loadCells, loadCellsFrom, storeCells]
  · have hq := (hsrc.ad e).1
    have hp := (H.1.ad hx0).1
    have ho := lat_cells hsz H.1 hp
    have hn := lat_cells hsz hsrc hq
    have hcap : Builtin.nextslicecap (xs.length + ys.length) xs.length * i0.bytes ≤ 281474976710656 := by
      have h1 := nextslicecap_le (need := xs.length + ys.length) (old := xs.length) (by omega)
      rw [hz2]
      exact Nat.le_trans (Nat.mul_le_mul h1 hby) (by omega)
    have key := run_append_grow (P := P) w ts ty t i0 z ht hi0 hz0 ⟨blk p, off p, none⟩ xs.length xs.length (xs.flatMap E.cells) (by rw [flat_len E.len, hz1]) ho ⟨blk sa, off sa, none⟩ ys.length sc (ys.flatMap E.cells) (by rw [flat_len E.len, hz1]) hn (by omega) (by omega) hcap
    rw [show p = some ⟨blk p, off p, none⟩ from hp, show sa = some ⟨blk sa, off sa, none⟩ from hq]
    refine ⟨_, _, _, by rw [List.length_append]; exact key, ((Ch.refl (M := In []) w).drew).then (Ch.alloc _ _), ?_⟩
    have g : Ch (In []) w (w.drew.alloc (.cells ((xs.flatMap E.cells).toArray ++ (ys.flatMap E.cells).toArray ++ Builtin.zeroCells z.cells (grownCap w (xs.length + ys.length) xs.length t - (xs.length + ys.length))) t)) := ((Ch.refl (M := In []) w).drew).then (Ch.alloc _ _)
    have T := Tr.of_ch0 hM g
    have hnew : (w.drew.alloc (.cells ((xs.flatMap E.cells).toArray ++ (ys.flatMap E.cells).toArray ++ Builtin.zeroCells z.cells (grownCap w (xs.length + ys.length) xs.length t - (xs.length + ys.length))) t)).heap[w.heap.size]? = _ := heap_alloc_new w.drew _
    have hw : ∀ x ∈ xs ++ ys, E.wf (Fr F W) w.heap x := fun x hx => (List.mem_append.1 hx).elim (fun h => LAt.mem H.1 x h) (hyw x)
    have hge := grownCap_ge w (xs.length + ys.length) xs.length t
    refine ⟨⟨by rw [List.length_append]; unfold maxLen; omega, fun _ => ⟨rfl, ⟨fun h => ?_, fun h => ?_⟩, ?_⟩, fun i hi j v hv => ?_, fun i hi => ?_⟩, by rw [List.length_append]; exact hge, fun h => by cases h⟩
    · have := hM.lt _ h; exact Nat.lt_irrefl _ this
    · exact Nat.lt_irrefl _ (hF _ h)
    · rcases Nat.lt_or_ge w.heap.size (w.drew.alloc (.cells ((xs.flatMap E.cells).toArray ++ (ys.flatMap E.cells).toArray ++ Builtin.zeroCells z.cells (grownCap w (xs.length + ys.length) xs.length t - (xs.length + ys.length))) t)).heap.size with q | q
      · exact q
      · rw [Array.getElem?_eq_none q] at hnew; cases hnew
    · have h8 := flat_get E.len (xs ++ ys) i hi j v hv
      show hcell _ w.heap.size (0 + i * E.n + j) = some v
      refine (hcell_of hnew _).trans ?_
      show ((xs.flatMap E.cells).toArray ++ (ys.flatMap E.cells).toArray ++ _)[0 + i * E.n + j]? = some v
      rw [Nat.zero_add, ← Array.getElem?_toList]
      simp only [Array.toList_append]
      rw [← List.flatMap_append, List.getElem?_append_left (List.getElem?_eq_some_iff.1 h8).1]
      exact h8
    · rw [List.getD_eq_getElem?_getD, List.getElem?_eq_getElem hi]
      exact E.tr (hw _ (List.getElem_mem hi)) T
theorem apF {α : Type} {E : Enc α} {d : Nat} {t ts : TypeId} {p sa : Option Addr} {sc q : Nat} {xs ys : List α} {D : Nat → Prop} {z : Value} {bytes : Nat} {s x : Operand} (S : St F w0 m0 n L fs os a w) (ht : P.underlying ts = some (.slice t)) (hz : (P.info? t).map (fun i => (i.zero, i.size, i.bytes)) = some (some z, E.n, bytes))
    (hs : evS L s = some (.slice p q q)) (hq : xs.length = q) (hx : evS L x = some (.slice sa ys.length sc)) (hx0 : 0 < q) (H : (slE E).wf (Fr F (ow os)) w.heap ⟨p, q, xs⟩) (hsrc : LAt E D w.heap sa ys) (hsc : sa = none → sc = 0) (hyw : ∀ y ∈ ys, E.wf (Fr F (ow os)) w.heap y) (h63 : q + ys.length ≤ 1000000)
    (next : ∀ a' w' ad' cap', St F w0 m0 n ((d, .slice ad' (xs ++ ys).length cap') :: L) (fs ++ [wfF (slE E) ⟨ad', cap', xs ++ ys⟩]) os a' w' → wpList P ops Q rest a' w') (hzz : z.cells.size = E.n ∧ 0 < E.n ∧ bytes ≤ 64 := by exact ⟨rfl, by decide, by decide⟩) (hd : d < n := by decide) :
    wpList P ops Q (⟨some d, .call ⟨.builtin .append, #[s, x], #[ts, ts]⟩, ty, pos, af, none⟩ :: rest) a w := by
  subst hq
  obtain ⟨ad', cap', w', k1, g, hw⟩ := app_full (ty := ty) ht hz hzz.1 hzz.2.1 hx0 H S.M (fun k hk => Nat.lt_of_lt_of_le (S.m.f k hk) S.m.c.size) hsrc hsc hyw h63 hzz.2.2
  have hs' := S.e hs
  have hx' := S.e hx
  refine seq_op rfl ?_
  unfold Oper.wp execOp
  simp only [resolve, invoke, builtin, Sem.run_bind, Sem.run_pure, Result.andThen_ok, List.map_toArray, List.map_cons, List.map_nil, hs', hx', k1]
  refine next _ _ ad' cap' (St.ar (S.k0c (S.s.put hd) g) _ ?_)
  exact hw
end
end Go.Proofs.YtmaiillomoehgaaDoor.V
