/- slices.Insert at a list of numbers: the shelf's contract laid on the program. -/
import Derived.Shelf.Spec.SlicesInsertGrow
import Derived.Laws.AppendOwn
import Derived.Test.YtobggnpnochnnaaDfl
set_option linter.unusedVariables false
set_option linter.unusedSimpArgs false
namespace Go.Proofs.Ytobggnpnochnnaa.V
open Go.RowKit Go.Shelf
def renIn : Go.Shelf.Ren := ⟨fun | 21 => 127 | 27 => 132 | 28 => 133 | 35 => 135 | 39 => 136 | n => n, fun | 0 => 0 | 3 => 3 | 4 => 4 | 22 => 22 | n => n, fun n => n⟩
theorem layIn : Lays2.n21 Try.prog renIn := {
  mixed := by kernel_rfl
  f21 := Try.func127.trans (congrArg some (by kernel_rfl))
  f27 := Try.func132.trans (congrArg some (by kernel_rfl))
  f28 := Try.func133.trans (congrArg some (by kernel_rfl))
  f35 := Try.func135.trans (congrArg some (by kernel_rfl))
  f39 := Try.func136.trans (congrArg some (by kernel_rfl))
  t0 := Try.underlying0
  a0 := Try.isAgg0
  z0 := Try.sizeOf0
  v0 := Try.zeroValue0
  t3 := Try.underlying3
  a3 := Try.isAgg3
  z3 := Try.sizeOf3
  v3 := Try.zeroValue3
  t4 := Try.underlying4
  a4 := Try.isAgg4
  z4 := Try.sizeOf4
  v4 := Try.zeroValue4
  t22 := Try.underlying22
  a22 := Try.isAgg22
  z22 := Try.sizeOf22
  v22 := Try.zeroValue22
  i3 := by kernel_rfl }
theorem sc_rest (b : Nat) : ∀ (vs : List Value) (o : Nat) (w : World), (w.setCells b o vs).os = w.os ∧ (w.setCells b o vs).tape = w.tape ∧ (w.setCells b o vs).output = w.output ∧ (w.setCells b o vs).heap.size = w.heap.size ∧ ∀ k, k ≠ b → (w.setCells b o vs).heap[k]? = w.heap[k]?
  | [], _, _ => ⟨rfl, rfl, rfl, rfl, fun _ _ => rfl⟩
  | v :: r, o, w => by
    obtain ⟨h1, h2, h3, h4, h5⟩ := sc_rest b r (o + 1) (w.setCell ⟨b, o, none⟩ v)
    rw [World.setCells]
    exact ⟨h1.trans rfl, h2.trans rfl, h3.trans rfl, h4.trans (by simp [World.setCell]), fun k hk => (h5 k hk).trans (heap_setCell_other w ⟨b, o, none⟩ k v hk)⟩
theorem sc_heap (b : Nat) (t : TypeId) : ∀ (vs : List Value) (o : Nat) (w : World) (cur : Array Value), w.heap[b]? = some (.cells cur t (0, 0)) → o + vs.length ≤ cur.size → ∃ cur' : Array Value, (w.setCells b o vs).heap[b]? = some (.cells cur' t (0, 0)) ∧ cur'.toList = cur.toList.take o ++ vs ++ cur.toList.drop (o + vs.length)
  | [], o, w, cur, h, _ => ⟨cur, h, by simp⟩
  | v :: r, o, w, cur, h, hl => by
    rw [World.setCells]
    rw [List.length_cons] at hl
    obtain ⟨c', h1, h2⟩ := sc_heap b t r (o + 1) _ _ (heap_setCell_same w b o cur t v h) (by simp; omega)
    refine ⟨c', h1, h2.trans ?_⟩
    have ho : o < cur.toList.length := by simp; omega
    have e : (cur.setIfInBounds o v).toList = cur.toList.set o v := by simp
    rw [e, List.length_cons, List.take_add_one, List.take_set_of_le (Nat.le_refl _), List.getElem?_set_self ho, List.drop_set_of_lt (by omega), show o + 1 + r.length = o + (r.length + 1) from by omega]
    simp
theorem insA {L0 cs vs : List Value} {k : Nat} (hk : k ≤ cs.length) (hv : vs.length = 1) (h0 : L0.take cs.length = cs) (hl : cs.length + 1 ≤ L0.length) :
    ((L0.take (k + 1) ++ cs.drop k ++ L0.drop (k + 1 + (cs.drop k).length)).take k ++ vs ++ (L0.take (k + 1) ++ cs.drop k ++ L0.drop (k + 1 + (cs.drop k).length)).drop (k + vs.length)).take (cs.length + 1) = cs.take k ++ vs ++ cs.drop k := by
  have h1 : (L0.take (k + 1)).length = k + 1 := by rw [List.length_take]; omega
  have h2 : (cs.drop k).length = cs.length - k := List.length_drop
  have h3 : L0.take k = cs.take k := by
    have := congrArg (List.take k) h0
    rw [List.take_take] at this
    rwa [show min k cs.length = k from by omega] at this
  have h4 : (cs.take k).length = k := by rw [List.length_take]; omega
  obtain ⟨X, hX⟩ : ∃ X, L0.drop (k + 1 + (cs.drop k).length) = X := ⟨_, rfl⟩
  rw [hX, hv]
  have hA : (L0.take (k + 1) ++ cs.drop k ++ X).take k = cs.take k := by
    rw [List.append_assoc, List.take_append_of_le_length (by omega), List.take_take, show min k (k + 1) = k from by omega, h3]
  have hB : (L0.take (k + 1) ++ cs.drop k ++ X).drop (k + 1) = cs.drop k ++ X := by
    rw [List.append_assoc]
    exact List.drop_left' h1
  rw [hA, hB, ← List.append_assoc]
  exact List.take_left' (by rw [List.length_append, List.length_append, h4, hv, h2]; omega)
theorem insB {L0 cs vs : List Value} {k : Nat} (hk : k ≤ cs.length) (hv : vs.length = 1) (h3 : L0.take k = cs.take k) (hl : cs.length + 1 ≤ L0.length) :
    ((L0.take k ++ vs ++ L0.drop (k + vs.length)).take (k + 1) ++ cs.drop k ++ (L0.take k ++ vs ++ L0.drop (k + vs.length)).drop (k + 1 + (cs.drop k).length)).take (cs.length + 1) = cs.take k ++ vs ++ cs.drop k := by
  have h2 : (cs.drop k).length = cs.length - k := List.length_drop
  have h4 : (cs.take k).length = k := by rw [List.length_take]; omega
  have h5 : (cs.take k ++ vs).length = k + 1 := by rw [List.length_append, h4, hv]
  rw [h3, List.take_left' h5]
  exact List.take_left' (by rw [List.length_append, h5, h2]; omega)
theorem ins_fin {w w' : World} {ms : List BS} {F : Nat → Prop} {g c : Nat} {cur : Array Value} {ys : List Int} (hch : Ch (In ms) w w') (hg : w'.heap[g]? = some (.cells cur 3 (0, 0))) (hgn : In ms g ∨ w.heap.size ≤ g) (hc : cur.size = c) (hm : c ≤ maxLen) (hl : ys.length ≤ c) (ht : cur.toList.take ys.length = ys.map encI) (hw : ∀ y ∈ ys, inI64 y) :
    Row intE 3 0 F [abk (some ⟨g, 0, none⟩)] w' (some ⟨g, 0, none⟩) c ys ∧ Tr ms w [abk (some ⟨g, 0, none⟩)] w' := by
  have hn : intE.n = 1 := rfl
  have hlt : g < w'.heap.size := by
    rcases Nat.lt_or_ge g w'.heap.size with h | h
    · exact h
    · rw [Array.getElem?_eq_none h] at hg; cases hg
  refine ⟨⟨⟨by rw [flat_int, List.length_map, hn, Nat.mul_one], .inr ⟨g, c, cur, rfl, Nat.zero_le _, hg, hl, hm, by rw [hn, Nat.mul_one]; exact hc, by rw [flat_int, hn, Nat.mul_one]; exact ht⟩⟩, fun y hy => hw y hy⟩, hch, fun k hk => ?_, fun k hk => ?_, ?_⟩
  · rcases hk with hk | hk
    · have e : g = k := Option.some.inj hk
      subst e; exact hgn
    · exact hk.elim
  · rcases hk with hk | hk
    · have e : g = k := Option.some.inj hk
      subst e; exact hlt
    · exact hk.elim
  · exact ⟨fun k _ h => h, trivial⟩
theorem enc1 (l : List Int) : ∀ v ∈ l.map encI, v.oneCell' = true := fun v hv => by
  obtain ⟨y, _, rfl⟩ := List.mem_map.1 hv
  rfl
theorem own_cell {w : World} {g : Nat} {cur : Array Value} {n : Nat} {xs : List Int} (h : w.heap[g]? = some (.cells cur 3 (0, 0))) (ht : cur.toList.take n = xs.map encI) (j : Nat) (v : Value) (hj : (xs.map encI)[j]? = some v) : w.cell? ⟨g, 0 + j, none⟩ = some v := by
  have hj0 : j < n := by
    have := congrArg List.length ht
    have h2 := (List.getElem?_eq_some_iff.1 hj).1
    rw [List.length_take] at this
    omega
  have h1 : cur.toList[j]? = some v := by rw [← List.getElem?_take_of_lt hj0, ht]; exact hj
  simp only [World.cell?, h, Nat.zero_add]
  simpa using h1
theorem own_some {w : World} {g : Nat} {cur : Array Value} (h : w.heap[g]? = some (.cells cur 3 (0, 0))) {j : Nat} (hj : j < cur.size) : (w.cell? ⟨g, j, none⟩).isSome = true := by
  simp [World.cell?, h, hj]
theorem own_fz {w : World} {g : Nat} {cur : Array Value} (h : w.heap[g]? = some (.cells cur 3 (0, 0))) (j : Nat) : w.frozen? ⟨g, j, none⟩ = false := by
  simp [World.frozen?, h]
theorem al_get (w : World) (o : Obj) : (w.drew.alloc o).heap[w.heap.size]? = some o := by
  show (w.heap.push o)[w.heap.size]? = _
  exact Array.getElem?_push_size
theorem al_ch {ms : List BS} (w : World) (o : Obj) : Ch (In ms) w (w.drew.alloc o) := by
  refine ⟨rfl, rfl, rfl, ?_, fun j hj _ => ?_⟩
  · show w.heap.size ≤ (w.heap.push o).size
    rw [Array.size_push]; exact Nat.le_succ _
  · show (w.heap.push o)[j]? = _
    rw [Array.getElem?_push, if_neg (by omega)]
theorem al_get2 (w : World) (o : Obj) : ((w.alloc o).drew).heap[w.heap.size]? = some o := al_get w o
theorem al_ch2 {ms : List BS} (w : World) (o : Obj) : Ch (In ms) w ((w.alloc o).drew) := let h := al_ch (ms := ms) w o; ⟨h.os, h.tape, h.output, h.size, h.block⟩
theorem z_size (n : Nat) : (Builtin.zeroCells (Value.int .i64 0).cells n).size = n := by
  unfold Builtin.zeroCells
  rw [Array.size_map, Array.size_range]
  exact Nat.mul_one n
set_option maxHeartbeats 4000000 in
set_option maxRecDepth 100000 in
theorem ins_row {w : World} {F : Nat → Prop} {x_a v_a : Option Addr} {x_c v_c : Nat} {x v : List Int} (M : MS [abk x_a, abk v_a] w) (R : Row intE 3 0 F [abk x_a, abk v_a] w x_a x_c x) (V : Row intE 3 0 F [abk x_a, abk v_a] w v_a v_c v) (i : Int) (hi : (0 ≤ i ∧ i ≤ x.length) ∧ v.length = 1 ∧ x.length ≤ 1000) :
    Calls Try.prog 127 #[.slice x_a x.length x_c, .int .i64 i, .slice v_a v.length v_c] w fun e w' => ∃ (ra : Option Addr) (rc : Nat), e = .returned (.slice ra (x.take i.toNat ++ v ++ x.drop i.toNat).length rc) ∧ Row intE 3 0 F [abk ra] w' ra rc (x.take i.toNat ++ v ++ x.drop i.toNat) ∧ Tr [abk x_a, abk v_a] w [abk ra] w' := by
  obtain ⟨⟨hi0, hi1⟩, hv1, hx1⟩ := hi
  obtain ⟨k, rfl⟩ := Int.eq_ofNat_of_zero_le hi0
  have hk : k ≤ x.length := by omega
  rw [Int.toNat_natCast]
  have hn : intE.n = 1 := rfl
  rcases V.own.2 with ⟨h1, h2⟩ | ⟨vg, vc, vcur, h1, _, vh, vl, vm, vs, vt⟩
  · omega
  injection h1 with e1 e2 e3
  subst e1 e3
  rw [hn, Nat.mul_one] at vs vt
  rw [flat_int] at vt
  have hlen : (x.take k ++ v ++ x.drop k).length = x.length + 1 := by rw [List.length_append, List.length_append, List.length_take, List.length_drop, hv1]; omega
  have hmap : (x.take k ++ v ++ x.drop k).map encI = (x.map encI).take k ++ v.map encI ++ (x.map encI).drop k := by rw [List.map_append, List.map_append, List.map_take, List.map_drop]
  have hwf : ∀ y ∈ x.take k ++ v ++ x.drop k, inI64 y := fun y hy => by
    rcases List.mem_append.1 hy with hy | hy
    · rcases List.mem_append.1 hy with hy | hy
      · exact R.wf y (List.mem_of_mem_take hy)
      · exact V.wf y hy
    · exact R.wf y (List.mem_of_mem_drop hy)
  have hvl : (v.map encI).length = v.length := List.length_map _
  have hxl : (x.map encI).length = x.length := List.length_map _
  have hv1' : (v.map encI).length = 1 := hvl.trans hv1
  have hvcell : ∀ j u, (v.map encI)[j]? = some u → w.cell? ⟨vg, 0 + j, none⟩ = some u := own_cell vh vt
  rw [hlen]
  rcases R.own.2 with ⟨h1, h2⟩ | ⟨g, c, cur, h1, _, h3, h4, h5, h6, h7⟩
  · injection h1 with e1 e2 e3
    subst e1 e3
    have hx : x = [] := List.eq_nil_of_length_eq_zero h2
    subst hx
    obtain rfl : k = 0 := by simpa using hk
    refine (Go.Proofs.Any2.slices_Insert_int_end_grow layIn none 0 0 vg 0 v.length v_c [] (v.map encI) w (by omega) (Nat.le_refl _) (by omega) (by rw [hv1]; decide) rfl hvl (fun _ => rfl) (fun a ha => by cases ha) hvcell (enc1 v)).mono ?_
    rintro e w' ⟨rfl, rfl⟩
    have hgc := grownCap_ge w (0 + v.length) 0 (renIn.t 3)
    have hgm := grownCap_le_maxLen w (0 + v.length) 0 (renIn.t 3) (by rw [hv1]; decide)
    refine ⟨some ⟨w.heap.size, 0, none⟩, _, by rw [hv1]; rfl, ins_fin (al_ch w _) (al_get w _) (.inr (Nat.le_refl _)) (by rw [Array.size_append, z_size, List.size_toArray, List.nil_append, hvl]; omega) hgm (by rw [hlen, List.length_nil]; omega) ?_ hwf⟩
    rw [hlen, hmap, Array.toList_append]
    exact (List.take_left' (l₁ := v.map encI) hv1').trans (by simp)
  · injection h1 with e1 e2 e3
    subst e1 e3
    rw [hn, Nat.mul_one] at h6 h7
    rw [flat_int] at h7
    have hne : vg ≠ g := fun e => M.sep.1 g rfl (.inl (by subst e; rfl))
    have hxcell : ∀ j u, (x.map encI)[j]? = some u → w.cell? ⟨g, 0 + j, none⟩ = some u := own_cell h3 h7
    have hc63 : x_c ≤ 9223372036854775807 := by unfold maxLen at h5; omega
    have hL : cur.toList.length = x_c := by simp [h6]
    have hin : In [abk (some ⟨g, 0, none⟩), abk (some ⟨vg, 0, none⟩)] g := .inl rfl
    have h0 : cur.toList.take (x.map encI).length = x.map encI := by rw [hxl]; exact h7
    have hgc := grownCap_ge w (x.length + v.length) x_c (renIn.t 3)
    have hgm := grownCap_le_maxLen w (x.length + v.length) x_c (renIn.t 3) (by unfold maxLen; omega)
    rcases Nat.lt_or_ge k x.length with hlt | hge
    · rcases Nat.lt_or_ge x_c (x.length + v.length) with hr | hr
      · refine (Go.Proofs.Any2.slices_Insert_int_grow layIn g 0 x.length x_c k vg 0 v.length v_c (x.map encI) (v.map encI) w hlt (by omega) h4 hr (by omega) hxl hvl hxcell hvcell (enc1 x) (enc1 v)).mono ?_
        rintro e w' ⟨rfl, rfl⟩
        obtain ⟨arr, harr⟩ : ∃ arr, (((x.map encI).take k).toArray ++ Builtin.zeroCells (Value.int .i64 0).cells (x.length + v.length - k) ++ Builtin.zeroCells (Value.int .i64 0).cells (grownCap w (x.length + v.length) x_c (renIn.t 3) - (x.length + v.length))) = arr := ⟨_, rfl⟩
        rw [harr]
        have hsz : arr.size = grownCap w (x.length + v.length) x_c (renIn.t 3) := by rw [← harr, Array.size_append, Array.size_append, z_size, z_size, List.size_toArray, List.length_take, hxl]; omega
        have ht : arr.toList.take k = (x.map encI).take k := by
          rw [← harr, Array.toList_append, Array.toList_append, List.append_assoc]
          exact List.take_left' (by simp; omega)
        have hb0 : ((w.alloc (.cells arr (renIn.t 3))).drew).heap[w.heap.size]? = some (.cells arr 3 (0, 0)) := al_get2 w _
        obtain ⟨c1, hb1, ht1⟩ := sc_heap w.heap.size 3 (v.map encI) k _ arr hb0 (by omega)
        have hc1 : c1.toList.length = arr.size := by rw [ht1]; simp; omega
        obtain ⟨c2, hb2, ht2⟩ := sc_heap w.heap.size 3 ((x.map encI).drop k) (k + v.length) (((w.alloc (.cells arr (renIn.t 3))).drew.setCells w.heap.size k (v.map encI)).drew) c1 hb1 (by rw [List.length_drop, hxl, ← Array.length_toList, hc1]; omega)
        have hc2 : c2.toList.length = arr.size := by rw [ht2]; simp only [List.length_append, List.length_take, List.length_drop, hxl, hc1]; omega
        obtain ⟨a1, a2, a3, a4, a5⟩ := sc_rest w.heap.size ((x.map encI).drop k) (k + v.length) (((w.alloc (.cells arr (renIn.t 3))).drew.setCells w.heap.size k (v.map encI)).drew)
        obtain ⟨b1, b2, b3, b4, b5⟩ := sc_rest w.heap.size (v.map encI) k ((w.alloc (.cells arr (renIn.t 3))).drew)
        refine ⟨some ⟨w.heap.size, 0, none⟩, _, by rw [hv1], ins_fin ⟨a1.trans b1, a2.trans b2, a3.trans b3, Nat.le_trans (al_ch2 (ms := []) w (.cells arr (renIn.t 3))).size (Nat.le_of_eq (a4.trans b4).symm), fun j hj _ => (a5 j (by omega)).trans ((b5 j (by omega)).trans ((al_ch2 (ms := []) w (.cells arr (renIn.t 3))).block j hj id))⟩ hb2 (.inr (Nat.le_refl _)) (by rw [← Array.length_toList, hc2, hsz]) hgm (by rw [hlen]; omega) ?_ hwf⟩
        rw [hlen, hmap, ht2, ht1, hv1, ← hxl]
        have := insB (L0 := arr.toList) (cs := x.map encI) (vs := v.map encI) (k := k) (by rw [hxl]; exact hk) hv1' ht (by have e : arr.toList.length = arr.size := Array.length_toList; rw [hxl]; omega)
        rw [hv1'] at this ⊢
        exact this
      · refine (Go.Proofs.Any2.slices_Insert_int_shift layIn g 0 x.length x_c k vg 0 v.length v_c (x.map encI) (v.map encI) w hlt (by omega) hr hc63 hne hxl hvl hxcell (fun j hj => by rw [Nat.zero_add]; exact own_some h3 (by omega)) (fun j _ => own_fz h3 _) hvcell (enc1 x) (enc1 v) 3 3 vcur.size cur.size (by simp [World.shape?, vh]) (by simp [World.shape?, h3]) (by omega) (own_fz vh _) (own_fz vh _)).mono ?_
        rintro e w' ⟨rfl, rfl⟩
        rw [Nat.zero_add, Nat.zero_add]
        obtain ⟨c1, hb1, ht1⟩ := sc_heap g 3 ((x.map encI).drop k) (k + v.length) w.drew cur h3 (by rw [List.length_drop, hxl]; omega)
        have hc1 : c1.toList.length = x_c := by rw [ht1]; simp only [List.length_append, List.length_take, List.length_drop, hxl, hL]; omega
        obtain ⟨c2, hb2, ht2⟩ := sc_heap g 3 (v.map encI) k (w.drew.setCells g (k + v.length) ((x.map encI).drop k)) c1 hb1 (by rw [hvl, ← Array.length_toList, hc1]; omega)
        have hc2 : c2.toList.length = x_c := by rw [ht2]; simp only [List.length_append, List.length_take, List.length_drop, hvl, hc1]; omega
        obtain ⟨a1, a2, a3, a4, a5⟩ := sc_rest g (v.map encI) k (w.drew.setCells g (k + v.length) ((x.map encI).drop k))
        obtain ⟨b1, b2, b3, b4, b5⟩ := sc_rest g ((x.map encI).drop k) (k + v.length) w.drew
        refine ⟨some ⟨g, 0, none⟩, x_c, by rw [hv1], ins_fin ⟨a1.trans b1, a2.trans b2, a3.trans b3, by rw [a4, b4]; exact Nat.le_refl _, fun j _ hjn => (a5 j fun e => hjn (by subst e; exact hin)).trans (b5 j fun e => hjn (by subst e; exact hin))⟩ hb2 (.inl hin) (by rw [← Array.length_toList, hc2]) h5 (by rw [hlen]; omega) ?_ hwf⟩
        rw [hlen, hmap, ht2, ht1, hv1, ← hxl]
        exact insA (by rw [hxl]; exact hk) hv1' h0 (by rw [hxl, hL]; omega)
    · obtain rfl : k = x.length := by omega
      have e1 : x.take x.length ++ v ++ x.drop x.length = x ++ v := by rw [List.take_length, List.drop_length, List.append_nil]
      have e2 : (x.map encI).take x.length ++ v.map encI ++ (x.map encI).drop x.length = x.map encI ++ v.map encI := by rw [List.take_of_length_le (by omega), List.drop_of_length_le (by omega), List.append_nil]
      rw [e2] at hmap
      rcases Nat.lt_or_ge x_c (x.length + v.length) with hr | hr
      · refine (Go.Proofs.Any2.slices_Insert_int_end_grow layIn (some ⟨g, 0, none⟩) x.length x_c vg 0 v.length v_c (x.map encI) (v.map encI) w (by omega) h4 hr (by omega) hxl hvl (fun h => by cases h) (fun b hb j u hj => by cases hb; have := hxcell j u hj; rw [Addr.add_lit]; exact this) hvcell (enc1 v)).mono ?_
        rintro e w' ⟨rfl, rfl⟩
        refine ⟨some ⟨w.heap.size, 0, none⟩, _, by rw [hv1], ins_fin (al_ch w _) (al_get w _) (.inr (Nat.le_refl _)) (by rw [Array.size_append, z_size, List.size_toArray, List.length_append, hxl, hvl]; omega) hgm (by rw [hlen]; omega) ?_ hwf⟩
        rw [hlen, hmap, Array.toList_append]
        exact List.take_left' (by simp [hv1])
      · refine (Go.Proofs.Any2.slices_Insert_int_end_room layIn g 0 x.length x_c vg 0 v.length v_c (v.map encI) w (by omega) hr hc63 hvl (fun j hj => own_some h3 (by omega)) (fun j _ => own_fz h3 _) hvcell (enc1 v)).mono ?_
        rintro e w' ⟨rfl, rfl⟩
        rw [Nat.zero_add]
        obtain ⟨c1, hb1, ht1⟩ := sc_heap g 3 (v.map encI) x.length w cur h3 (by omega)
        have hc1 : c1.toList.length = x_c := by rw [ht1]; simp only [List.length_append, List.length_take, List.length_drop, hvl, hL]; omega
        obtain ⟨a1, a2, a3, a4, a5⟩ := sc_rest g (v.map encI) x.length w
        refine ⟨some ⟨g, 0, none⟩, x_c, by rw [hv1], ins_fin ⟨a1, a2, a3, by rw [a4]; exact Nat.le_refl _, fun j _ hjn => a5 j fun e => hjn (by subst e; exact hin)⟩ hb1 (.inl hin) (by rw [← Array.length_toList, hc1]) h5 (by rw [hlen]; omega) ?_ hwf⟩
        rw [hlen, hmap, ht1, h7]
        exact List.take_left' (by rw [List.length_append, hxl, hv1'])
end Go.Proofs.Ytobggnpnochnnaa.V
