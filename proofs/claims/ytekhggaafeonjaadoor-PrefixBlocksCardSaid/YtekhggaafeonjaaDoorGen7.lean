/- Walks of the generator: Number, Range. -/
import Derived.Test.YtekhggaafeonjaaDoorGen4
import Derived.Test.YtekhggaafeonjaaDoorBox
namespace Go.Proofs.YtekhggaafeonjaaDoor
open Go.RowKit
def U32Post (T : Nat) (w : World) (e : Ending) (w' : World) : Prop := ∃ a : Int, e = .returned (.int .u32 a) ∧ 0 ≤ a ∧ a ≤ 4294967295 ∧ Tp T w' ∧ Keep T w w'
theorem u32_all {l : List Int} (h : ∀ x ∈ l, 0 ≤ x ∧ x ≤ 4294967295) : ∀ (j : Nat), j < l.length → ∃ y, (l.map (Value.int .u32))[j]? = some (.int .u32 y) ∧ 0 ≤ y ∧ y ≤ 4294967295 := fun j hj =>
  ⟨l[j], by rw [List.getElem?_map, List.getElem?_eq_getElem hj]; rfl, (h _ (List.getElem_mem hj)).1, (h _ (List.getElem_mem hj)).2⟩
set_option maxHeartbeats 1000000 in
theorem gen_Number (T : Nat) (top : Int) (ht0 : 0 ≤ top) (ht1 : top ≤ 4294967295) (w : World) (h : Tp T w) :
    Calls Tryd.prog 49 #[.pointer (some ⟨T, 0, none⟩), .int .u32 top] w (U32Post T w) := by
  have H := Lib.hid h
  clear h
  go_enter Tryd.func49, Tryd.ntmps49
  go_wp2_with fail
  obtain ⟨l, hl⟩ : ∃ l : List Int, l = [0, 1, 2, 5, 7, 8, 9, 15, 16, 80, 255, 256, 1024, 65535, top / 2, (top - 1) % 4294967296, top] := ⟨_, rfl⟩
  have hlen : l.length = 17 := by rw [hl]; rfl
  have hall : ∀ x ∈ l, 0 ≤ x ∧ x ≤ 4294967295 := by
    intro x hx
    rw [hl] at hx
    simp only [List.mem_cons, List.not_mem_nil, or_false] at hx
    omega
  have hbox := Box.new w #[.int .u32 0, .int .u32 1, .int .u32 2, .int .u32 5, .int .u32 7, .int .u32 8, .int .u32 9, .int .u32 15, .int .u32 16, .int .u32 80, .int .u32 255, .int .u32 256, .int .u32 1024, .int .u32 65535, .int .u32 (top / 2), .int .u32 ((top - 1) % 4294967296), .int .u32 top] 23
  have hbl : ([.int .u32 0, .int .u32 1, .int .u32 2, .int .u32 5, .int .u32 7, .int .u32 8, .int .u32 9, .int .u32 15, .int .u32 16, .int .u32 80, .int .u32 255, .int .u32 256, .int .u32 1024, .int .u32 65535, .int .u32 (top / 2), .int .u32 ((top - 1) % 4294967296), .int .u32 top] : List Value) = l.map (Value.int .u32) := by rw [hl]; rfl
  obtain ⟨W, hW⟩ : ∃ W, W = w.alloc (.cells #[.int .u32 0, .int .u32 1, .int .u32 2, .int .u32 5, .int .u32 7, .int .u32 8, .int .u32 9, .int .u32 15, .int .u32 16, .int .u32 80, .int .u32 255, .int .u32 256, .int .u32 1024, .int .u32 65535, .int .u32 (top / 2), .int .u32 ((top - 1) % 4294967296), .int .u32 top] 23) := ⟨_, rfl⟩
  rw [← hW] at hbox ⊢
  have HB : Hid (Box W w.heap.size (l.map (Value.int .u32))) := Lib.hid (hbl ▸ hbox)
  have HR : Hid (RS T w W) := Lib.hid (by rw [hW]; exact (RS.refl H.out).alloc _)
  have hne : w.heap.size ≠ T := by have := H.out.lt; omega
  clear hW hbl hbox hl
  refine (gen_Next T 17 (by decide) _ HR.out.1).mono ?_
  rintro e w2 ⟨d, rfl, hd0, hd1, hT2, hK2⟩
  have HR2 := Lib.hid (HR.out.step hT2 hK2)
  obtain ⟨d, rfl⟩ := Int.eq_ofNat_of_zero_le hd0
  obtain ⟨y, hy, hy0, hy1⟩ := u32_all hall d (by omega)
  have c0 := (HB.out.keep hK2 hne).cell d _ hy
  have hd17 : (d : Int) < 17 := by omega
  clear hT2 hK2 hy hall HB HR hd1 hlen
  go_wp2
  all_goals
    go_ret
    exact ⟨_, rfl, by omega, by omega, HR2.out.1, HR2.out.2⟩
def RngPost (T : Nat) (w : World) (e : Ending) (w' : World) : Prop := ∃ a b : Int, e = .returned (.agg #[.int .u32 a, .int .u32 b]) ∧ 0 ≤ a ∧ a ≤ 4294967295 ∧ 0 ≤ b ∧ b ≤ 4294967295 ∧ Tp T w' ∧ Keep T w w'
set_option maxHeartbeats 1000000 in
theorem gen_Range (T : Nat) (top : Int) (ht0 : 0 ≤ top) (ht1 : top ≤ 4294967295) (w : World) (h : Tp T w) :
    Calls Tryd.prog 28 #[.pointer (some ⟨T, 0, none⟩), .int .u32 top] w (RngPost T w) := by
  have H := Lib.hid h
  clear h
  go_enter Tryd.func28, Tryd.ntmps28
  go_wp2_with fail
  have hlt := H.out.lt
  have hne : w.heap.size ≠ T := by omega
  have HB := Lib.hid (Box.new w #[.int .u32 0, .int .u32 0] 44)
  have HR := Lib.hid ((RS.refl H.out).alloc (.cells #[.int .u32 0, .int .u32 0] 44))
  refine (gen_Number T top ht0 ht1 _ HR.out.1).mono ?_
  rintro e w1 ⟨a, rfl, ha0, ha1, hT1, hK1⟩
  have HR1 := Lib.hid (HR.out.step hT1 hK1)
  have HB1 := Lib.hid (HB.out.keep hK1 hne)
  clear hT1 hK1 HR HB
  go_wp2_with fail
  refine (gen_Number T top ht0 ht1 _ HR1.out.1).mono ?_
  rintro e w2 ⟨b, rfl, hb0, hb1, hT2, hK2⟩
  have HR2 := Lib.hid (HR1.out.step hT2 hK2)
  have HB2 := Lib.hid (HB1.out.keep hK2 hne)
  clear hT2 hK2 HR1 HB1
  have p0 := HB2.out.cell 0 _ rfl
  have p1 := HB2.out.cell 1 _ rfl
  have f0 := HB2.out.froz 0 _ rfl
  have f1 := HB2.out.froz 1 _ rfl
  have z2 := HB2.out.lt
  have fin : ∀ x z : Int, RS T w ((w2.setCell ⟨w.heap.size, 0, none⟩ (.int .u32 x)).setCell ⟨w.heap.size, 1, none⟩ (.int .u32 z)) := fun x z => (HR2.out.setCell (p := ⟨w.heap.size, 0, none⟩) (Nat.le_refl _) hlt _).setCell (p := ⟨w.heap.size, 1, none⟩) (Nat.le_refl _) hlt _
  have FIN := Lib.hid fin
  have res := fun x z : Int => res2 (w := w2) (b := w.heap.size) (u := .int .u32 x) (v := .int .u32 z) p0 p1
  have RES := Lib.hid res
  clear fin res
  go_wp2
  all_goals first | (have kr := RES.out b a; refine bodyPost_ret (v := .agg #[.int .u32 b, .int .u32 a]) (by simp [results, Tryd.results28, go_sem, kr.1, kr.2]) rfl ?_; exact ⟨_, _, rfl, by omega, by omega, by omega, by omega, (FIN.out b a).1, (FIN.out b a).2⟩) | (have kr := RES.out a b; refine bodyPost_ret (v := .agg #[.int .u32 a, .int .u32 b]) (by simp [results, Tryd.results28, go_sem, kr.1, kr.2]) rfl ?_; exact ⟨_, _, rfl, by omega, by omega, by omega, by omega, (FIN.out a b).1, (FIN.out a b).2⟩) | (have kr := RES.out a a; refine bodyPost_ret (v := .agg #[.int .u32 a, .int .u32 a]) (by simp [results, Tryd.results28, go_sem, kr.1, kr.2]) rfl ?_; exact ⟨_, _, rfl, by omega, by omega, by omega, by omega, (FIN.out a a).1, (FIN.out a a).2⟩) | (have kr := RES.out b b; refine bodyPost_ret (v := .agg #[.int .u32 b, .int .u32 b]) (by simp [results, Tryd.results28, go_sem, kr.1, kr.2]) rfl ?_; exact ⟨_, _, rfl, by omega, by omega, by omega, by omega, (FIN.out b b).1, (FIN.out b b).2⟩)
end Go.Proofs.YtekhggaafeonjaaDoor
