/- slices.DeleteFunc at a list of numbers: the shelf's contract laid on the program. -/
import Derived.Shelf.SlicesE.DeleteFunc
import Derived.Test.YtobggnpnochnnaaVF
set_option linter.unusedVariables false
set_option linter.unusedSimpArgs false
namespace Go.Proofs.Ytobggnpnochnnaa.V
open Go.RowKit Go.Shelf
def renDf : Go.Shelf.Ren := ⟨fun | 6 => 129 | 10 => 124 | n => n, fun | 0 => 0 | 3 => 3 | 4 => 4 | 22 => 22 | 23 => 3 | 25 => 171 | n => n, fun n => n⟩
theorem layDf : Go.Proofs.SlLaysH.n10 Try.prog renDf := {
  mixed := by kernel_rfl
  f6 := ⟨"slices.IndexFunc[[]int,int]", by decide, Try.func129.trans (congrArg some (by kernel_rfl))⟩
  f10 := ⟨"slices.DeleteFunc[[]int,int]", by decide, Try.func124.trans (congrArg some (by kernel_rfl))⟩
  t0 := Try.underlying0
  a0 := Try.isAgg0
  z0 := Try.sizeOf0
  v0 := Try.zeroValue0
  t3 := Try.underlying3
  a3 := Try.isAgg3
  z3 := Try.sizeOf3
  v3 := Try.zeroValue3
  t4 := Try.underlying4
  a4 := Try.isAgg4
  z4 := Try.sizeOf4
  v4 := Try.zeroValue4
  t22 := Try.underlying22
  a22 := Try.isAgg22
  z22 := Try.sizeOf22
  v22 := Try.zeroValue22
  a23 := Try.isAgg3
  z23 := Try.sizeOf3
  t25 := Try.underlying171
  a25 := Try.isAgg171
  z25 := Try.sizeOf171
  v25 := Try.zeroValue171 }
theorem rm1 (b : Nat) (d x : Int) (W : World) (hc : W.cell? ⟨b, 0, none⟩ = some (.int .i64 d)) : Calls Try.prog 125 #[.int .i64 x, .pointer (some ⟨b, 0, none⟩)] W fun e w' => e = .returned (.bool (x == d)) ∧ w' = W := by
  have t3 := Try.underlying3
  have a3 := Try.isAgg3
  have z3 := Try.sizeOf3
  go_enter Try.func125, (show Try.f125.ntmps = 7 from rfl)
  go_wp2
  refine bodyPost_ret (v := .bool (x == d)) (by simp [results, Try.results125, go_sem]) rfl ?_
  exact ⟨rfl, rfl⟩
theorem cell_heap {w w' : World} {b : Nat} (h : w'.heap[b]? = w.heap[b]?) : w'.cell? ⟨b, 0, none⟩ = w.cell? ⟨b, 0, none⟩ := by simp [World.cell?, h]
abbrev encI (x : Int) : Value := .int .i64 x
theorem delDf (w : World) (b : Nat) (d : Int) (hK : Blk w.heap b [.int .i64 d] 3) (g cap : Nat) (xs : List Int) (cur : Array Value) (hg : w.heap[g]? = some (.cells cur 3 (0, 0))) (hcs : cur.toList.take xs.length = xs.map encI) (hsz : cur.size = cap) (hl : xs.length ≤ cap) (hm : cap ≤ maxLen) (hne : g ≠ b) :
    Calls Try.prog 124 #[.slice (some ⟨g, 0, none⟩) xs.length cap, .func (.func 125) #[] #[.pointer (some ⟨b, 0, none⟩)]] w fun e w' => e = .returned (.slice (some ⟨g, 0, none⟩) (xs.filter fun x => !(x == d)).length cap) ∧ ∃ q, w' = Sort.putRow encI (Sort.ahead w q) g 0 ((xs.filter fun x => !(x == d)) ++ List.replicate (xs.length - (xs.filter fun x => !(x == d)).length) 0).toArray := by
  have hc : w.cell? ⟨b, 0, none⟩ = some (.int .i64 d) := by unfold Blk at hK; simp [World.cell?, hK]
  have hblt : b < w.heap.size := hK.lt
  have hp : PredAt Try.prog 125 #[.pointer (some ⟨b, 0, none⟩)] encI (fun x => x == d) w := fun W x hb => by
    refine (rm1 b d x W ((cell_heap (hb.block b hblt)).trans hc)).mono ?_
    rintro e w' ⟨h1, h2⟩
    exact ⟨h1, 0, h2⟩
  have hpo : PredOver Try.prog 125 #[.pointer (some ⟨b, 0, none⟩)] encI (fun x => x == d) g 0 xs.toArray.size w := fun n os dk x _ => by
    have hb : (sortWorld encI w g 0 n dk os).heap[b]? = w.heap[b]? := by
      show ((w.heap.modify g _) ++ os)[b]? = _
      rw [Array.getElem?_append_left (by simpa using hblt), Array.getElem?_modify, if_neg hne]
    refine (rm1 b d x _ ((cell_heap hb).trans hc)).mono ?_
    rintro e w' ⟨h1, h2⟩
    exact ⟨h1, 0, h2⟩
  have hH : Sort.Holds encI w g 0 xs.toArray := fun j hj => by
    have hj' : j < xs.length := by simpa using hj
    have h1 : cur.toList[j]? = some (encI xs[j]) := by
      have : (cur.toList.take xs.length)[j]? = some (encI xs[j]) := by rw [hcs, List.getElem?_map, List.getElem?_eq_getElem hj']; rfl
      rwa [List.getElem?_take_of_lt hj'] at this
    have h2 : xs.toArray[j]! = xs[j] := by rw [getElem!_pos xs.toArray j hj]; simp
    rw [h2]
    constructor
    · simp [World.cell?, hg]; simpa using h1
    · simp [World.frozen?, hg]
  have key := Go.Proofs.AnyE.slices_DeleteFunc (P := Try.prog) (ρ := renDf) layDf encI (fun _ => rfl) (fun x => x == d) 125 #[.pointer (some ⟨b, 0, none⟩)] (enters_of Try.func125 (by decide) (show Try.f125.body = some _ from rfl)) 0 Try.zeroValue3 g 0 cap xs.toArray w hp hpo hH (by simp; unfold maxLen at hm; omega) (by simpa using hl)
  rw [show renDf.f 10 = 124 from rfl] at key
  simpa using key
theorem idx0 (b c : Nat) (w : World) : Calls Try.prog 129 #[.slice none 0 c, .func (.func 125) #[] #[.pointer (some ⟨b, 0, none⟩)]] w fun e w' => e = .returned (.int .i64 (-1)) ∧ w' = w := by
  have t22 := Try.underlying22
  have t3 := Try.underlying3
  go_enter Try.func129, (show Try.f129.ntmps = 19 from rfl)
  go_wp2
  go_loopg [8] 0 (fun _ s8 wr => s8 = .int .i64 0 ∧ wr = w)
  case atStart => exact ⟨rfl, rfl⟩
  case round =>
    obtain ⟨rfl, rfl⟩ := hrel
    go_wp2
    refine bodyPost_ret (v := .int .i64 (-1)) (by simp [results, Try.results129, go_sem]) rfl ?_
    exact ⟨rfl, rfl⟩
theorem del0 (b c : Nat) (w : World) : Calls Try.prog 124 #[.slice none 0 c, .func (.func 125) #[] #[.pointer (some ⟨b, 0, none⟩)]] w fun e w' => e = .returned (.slice none 0 c) ∧ w' = w := by
  have t22 := Try.underlying22
  have t3 := Try.underlying3
  have H := idx0 b c
  go_enter Try.func124, (show Try.f124.ntmps = 42 from rfl)
  go_wp2_with (go_at_call 129; refine (H _).mono ?_; rintro e w2 ⟨rfl, rfl⟩)
  refine bodyPost_ret (v := .slice none 0 c) (by simp [results, Try.results124, go_sem]) rfl ?_
  exact ⟨rfl, rfl⟩
theorem flat_int (x : List Int) : x.flatMap intE.cells = x.map encI := by
  induction x with
  | nil => rfl
  | cons y r ih => rw [List.flatMap_cons, ih]; rfl
theorem del_row {w : World} {F : Nat → Prop} {x_a : Option Addr} {x_c : Nat} {x : List Int} (M : MS [abk x_a] w) (R : Row intE 3 0 F [abk x_a] w x_a x_c x) (b : Nat) (d : Int) (hK : Blk w.heap b [.int .i64 d] 3) (hb : ¬ In [abk x_a] b) :
    Calls Try.prog 124 #[.slice x_a x.length x_c, .func (.func 125) #[] #[.pointer (some ⟨b, 0, none⟩)]] w fun e w' => ∃ (ra : Option Addr) (rc : Nat), e = .returned (.slice ra (x.filter fun y => !(y == d)).length rc) ∧ Row intE 3 0 F [abk ra] w' ra rc (x.filter fun y => !(y == d)) ∧ Tr [abk x_a] w [abk ra] w' := by
  have hlen : (x.filter fun y => !(y == d)).length ≤ x.length := List.length_filter_le _ _
  rcases R.own.2 with ⟨h1, h2⟩ | ⟨g, c, cur, h1, _, h3, h4, h5, h6, h7⟩
  · injection h1 with e1 e2 e3
    subst e1 e3
    have hx : x = [] := List.eq_nil_of_length_eq_zero h2
    subst hx
    refine (del0 b 0 w).mono ?_
    rintro e w2 ⟨rfl, rfl⟩
    exact ⟨none, 0, rfl, R, Tr.refl M⟩
  · injection h1 with e1 e2 e3
    subst e1 e3
    have hne : g ≠ b := fun e => hb (.inl (by subst e; rfl))
    have hm : intE.n = 1 := rfl
    rw [hm, Nat.mul_one] at h6 h7
    rw [flat_int] at h7
    refine (delDf w b d hK g x_c x cur h3 h7 h6 h4 h5 hne).mono ?_
    rintro e w2 ⟨rfl, q, rfl⟩
    obtain ⟨ys, hys⟩ : ∃ ys, (x.filter fun y => !(y == d)) = ys := ⟨_, rfl⟩
    rw [hys] at hlen ⊢
    obtain ⟨zs, hzs⟩ : ∃ zs, (ys ++ List.replicate (x.length - ys.length) 0).toArray = zs := ⟨_, rfl⟩
    have hg : (Sort.putRow encI (Sort.ahead w q) g 0 zs).heap[g]? = some (.cells (Sort.putCells encI 0 zs cur) 3 (0, 0)) := by
      show (w.heap.modify g _)[g]? = _
      rw [Array.getElem?_modify, if_pos rfl, h3]; rfl
    have hch : Ch (In [abk (some ⟨g, 0, none⟩)]) w (Sort.putRow encI (Sort.ahead w q) g 0 zs) := by
      refine ⟨rfl, rfl, rfl, ?_, fun k hk hn => ?_⟩
      · show w.heap.size ≤ (w.heap.modify g _).size
        rw [Array.size_modify]; exact Nat.le_refl _
      · show (w.heap.modify g _)[k]? = _
        rw [Array.getElem?_modify, if_neg fun e => hn (.inl (by subst e; rfl))]
    rw [hzs]
    have T := Tr.of_ch M hch fun o ho => ho
    refine ⟨some ⟨g, 0, none⟩, x_c, rfl, ⟨⟨by rw [flat_int, List.length_map, hm, Nat.mul_one], .inr ⟨g, x_c, _, rfl, Nat.zero_le _, hg, by omega, h5, ?_, ?_⟩⟩, fun y hy => ?_⟩, T⟩
    · simp [Sort.putCells, hm, h6]
    · rw [flat_int, hm, Nat.mul_one]
      apply List.ext_getElem?
      intro i
      rcases Nat.lt_or_ge i ys.length with hi | hi
      · have hic : i < cur.size := by omega
        have hzz : i < zs.size := by rw [← hzs]; simp; omega
        have hz : zs[i] = ys[i] := by
          subst hzs
          simp [List.getElem_append_left hi]
        rw [List.getElem?_take_of_lt hi, List.getElem?_map, List.getElem?_eq_getElem hi]
        simp [Sort.putCells, hic, hzz, hz]
      · rw [List.getElem?_eq_none (by simp; omega), List.getElem?_eq_none (by simp; omega)]
    · have : y ∈ x := by rw [← hys] at hy; exact (List.mem_filter.1 hy).1
      exact R.wf y this

end Go.Proofs.Ytobggnpnochnnaa.V
