/- Walks of package source and of its reference: ranges of ports. -/
import Derived.Test.YtmaiillomoehgaaDoorPrtM
import Derived.Test.YtmaiillomoehgaaDoorSrc2
import Derived.Test.YtmaiillomoehgaaDoorLin3
namespace Go.Proofs.YtmaiillomoehgaaDoor
open Go.RowKit
theorem u32_in (n : Int) (h0 : 0 ≤ n) (h1 : n ≤ 4294967295) : IntKind.u32.wrap n = n := by simp [IntKind.wrap, IntKind.bits, IntKind.signed]; omega
set_option maxHeartbeats 4000000 in
theorem src_Ports (s : ByteArray) (hs : s.size ≤ maxLen) {r : Option (Int × Int)} (hr : portsL s.data.toList = r) (w : World) :
    Calls Tryd.prog 22 #[.string s] w fun e w' => e = .returned (.tuple #[.agg #[.int .u32 (r.getD (0, 0)).1, .int .u32 (r.getD (0, 0)).2], .bool r.isSome]) ∧ Below w.heap.size w w' := by
  have hsz := cutB_sz 45 s hs
  have HC : Hid (∀ w, Calls Tryd.prog 35 #[.string s, .string ⟨#[45]⟩] w fun e w' => e = .returned (.tuple #[.string (cutB 45 s).1, .string (cutB 45 s).2.1, .bool (cutB 45 s).2.2]) ∧ Below w.heap.size w w') := Lib.hid fun w => strings_Cut1 s 45 w hs
  rw [← ports_cut s] at hr
  generalize cutB 45 s = ct at *
  obtain ⟨l, q, f⟩ := ct
  dsimp only at *
  obtain ⟨hl, hq⟩ := hsz
  obtain ⟨rr, hrr⟩ : ∃ rr : ByteArray, rr = if f then q else l := ⟨_, rfl⟩
  have hrs : rr.size ≤ maxLen := by rw [hrr]; split <;> assumption
  have hr' : portsC l.data.toList rr.data.toList true = r := by
    rw [← hr, hrr]; unfold portsC; cases f <;> rfl
  unfold portsC at hr'
  simp only [if_true] at hr'
  obtain ⟨x, hx⟩ : ∃ x, numB l.data.toList 0 65535 = x := ⟨_, rfl⟩
  rw [hx] at hr'
  have HX := Lib.hid hx
  clear hr hx
  cases x with
  | none =>
    have : r = none := hr'.symm
    subst this
    obtain ⟨y, hy⟩ : ∃ y, numB rr.data.toList 0 65535 = y := ⟨_, rfl⟩
    have HY := Lib.hid hy
    clear hr' hy
    cases f
    all_goals
      simp only [if_true, if_false, Bool.false_eq_true] at hrr
      subst hrr
      go_enter Tryd.func22, Tryd.ntmps22
      go_wp2_with (first | (go_at_call 35; refine (HC.out _).mono ?_; rintro e w2 ⟨rfl, hb2⟩; obtain ⟨hc2, hf2⟩ := bcell hb2; have hs2 := hb2.size; simp at hs2; have hz2 : w.heap.size < w2.heap.size := by omega) | (go_at_call 21; with_reducible refine (src_Number _ 0 65535 (by decide) (by decide) (by decide) (by decide) (by assumption) HX.out _).mono ?_; rintro e w' ⟨rfl, rfl⟩) | (go_at_call 21; with_reducible refine (src_Number _ 0 65535 (by decide) (by decide) (by decide) (by decide) (by assumption) HY.out _).mono ?_; rintro e w' ⟨rfl, rfl⟩))
      go_wp2
      refine bodyPost_ret (v := .tuple #[.agg #[.int .u32 0, .int .u32 0], .bool false]) (by simp [results, Tryd.results22, go_sem, hc2, hz2]) rfl ?_
      exact ⟨rfl, by ((repeat (first | exact Below.refl _ _ | refine Below.drew ?_ | refine Below.setCell ?_ (by first | (simp; done) | (simp; omega) | omega) _ | refine Below.alloc ?_ (by first | (simp; done) | (simp; omega) | omega) _ | refine Below.trans ?_ (Below.mono hb2 (by first | (simp; done) | (simp; omega) | omega)))); done)⟩
  | some a =>
    have ha := numB_bd HX.out
    rw [Option.bind_some] at hr'
    obtain ⟨y, hy⟩ : ∃ y, numB rr.data.toList a 65535 = y := ⟨_, rfl⟩
    rw [hy] at hr'
    have HY := Lib.hid hy
    clear hy
    cases y with
    | none =>
      have : r = none := hr'.symm
      subst this
      clear hr'
      cases f
      all_goals
        simp only [if_true, if_false, Bool.false_eq_true] at hrr
        subst hrr
        go_enter Tryd.func22, Tryd.ntmps22
        go_wp2_with (first | (go_at_call 35; refine (HC.out _).mono ?_; rintro e w2 ⟨rfl, hb2⟩; obtain ⟨hc2, hf2⟩ := bcell hb2; have hs2 := hb2.size; simp at hs2; have hz2 : w.heap.size < w2.heap.size := by omega) | (go_at_call 21; with_reducible refine (src_Number _ 0 65535 (by decide) (by decide) (by decide) (by decide) (by assumption) HX.out _).mono ?_; rintro e w' ⟨rfl, rfl⟩) | (go_at_call 21; with_reducible refine (src_Number _ a 65535 (by omega) (by omega) (by decide) (by decide) (by assumption) HY.out _).mono ?_; rintro e w' ⟨rfl, rfl⟩))
        go_wp2
        refine bodyPost_ret (v := .tuple #[.agg #[.int .u32 0, .int .u32 0], .bool false]) (by simp [results, Tryd.results22, go_sem, hc2, hz2]) rfl ?_
        exact ⟨rfl, by ((repeat (first | exact Below.refl _ _ | refine Below.drew ?_ | refine Below.setCell ?_ (by first | (simp; done) | (simp; omega) | omega) _ | refine Below.alloc ?_ (by first | (simp; done) | (simp; omega) | omega) _ | refine Below.trans ?_ (Below.mono hb2 (by first | (simp; done) | (simp; omega) | omega)))); done)⟩
    | some b =>
      have hb := numB_bd HY.out
      have : r = some (a, b) := hr'.symm
      subst this
      clear hr'
      have e1 := u32_in a (by omega) (by omega)
      have e2 := u32_in b (by omega) (by omega)
      cases f
      all_goals
        simp only [if_true, if_false, Bool.false_eq_true] at hrr
        subst hrr
        go_enter Tryd.func22, Tryd.ntmps22
        go_wp2_with (first | (go_at_call 35; refine (HC.out _).mono ?_; rintro e w2 ⟨rfl, hb2⟩; obtain ⟨hc2, hf2⟩ := bcell hb2; have hs2 := hb2.size; simp at hs2; have hz2 : w.heap.size < w2.heap.size := by omega) | (go_at_call 21; with_reducible refine (src_Number _ 0 65535 (by decide) (by decide) (by decide) (by decide) (by assumption) HX.out _).mono ?_; rintro e w' ⟨rfl, rfl⟩) | (go_at_call 21; with_reducible refine (src_Number _ a 65535 (by omega) (by omega) (by decide) (by decide) (by assumption) HY.out _).mono ?_; rintro e w' ⟨rfl, rfl⟩))
        go_wp2
        refine bodyPost_ret (v := .tuple #[.agg #[.int .u32 a, .int .u32 b], .bool true]) (by simp [results, Tryd.results22, go_sem, hc2, hz2]) rfl ?_
        exact ⟨rfl, by ((repeat (first | exact Below.refl _ _ | refine Below.drew ?_ | refine Below.setCell ?_ (by first | (simp; done) | (simp; omega) | omega) _ | refine Below.alloc ?_ (by first | (simp; done) | (simp; omega) | omega) _ | refine Below.trans ?_ (Below.mono hb2 (by first | (simp; done) | (simp; omega) | omega)))); done)⟩

set_option maxHeartbeats 4000000 in
theorem ref_Ports (s : ByteArray) (hs : s.size ≤ 4398046511104) {r : Option (Int × Int)} (hr : portsL s.data.toList = r) (w : World) :
    Calls Tryd.prog 27 #[.string s] w fun e w' => e = .returned (.tuple #[.agg #[.int .u32 (r.getD (0, 0)).1, .int .u32 (r.getD (0, 0)).2], .bool r.isSome]) ∧ Below w.heap.size w w' := by
  rw [ports_ref] at hr
  obtain ⟨m, hm⟩ : ∃ m, (partsL 45 s.data.toList).length = m := ⟨_, rfl⟩
  rw [hm] at hr
  have hm0 : 0 < m := by rw [← hm]; exact List.length_pos_iff.2 (partsL_ne _ _)
  have hml : m ≤ s.size + 1 := by rw [← hm, size_len]; exact partsL_len _ _
  obtain ⟨x, hx⟩ : ∃ x : ByteArray, x = ⟨((partsL 45 s.data.toList).getD 0 []).toArray⟩ := ⟨_, rfl⟩
  obtain ⟨y, hy⟩ : ∃ y : ByteArray, y = ⟨((partsL 45 s.data.toList).getD (m - 1) []).toArray⟩ := ⟨_, rfl⟩
  have hle : ∀ j, ((partsL 45 s.data.toList).getD j []).length ≤ s.size := fun j => by
    rw [size_len]
    by_cases hj : j < (partsL 45 s.data.toList).length
    · rw [List.getD_eq_getElem?_getD, List.getElem?_eq_getElem hj]; exact parts_le _ _ _ (List.getElem_mem hj)
    · rw [List.getD_eq_getElem?_getD, List.getElem?_eq_none (by omega)]; simp
  have hxs : x.size ≤ maxLen := by rw [hx, size_list]; have := hle 0; unfold maxLen; omega
  have hys : y.size ≤ maxLen := by rw [hy, size_list]; have := hle (m - 1); unfold maxLen; omega
  have HP : Hid (∀ w, Calls Tryd.prog 42 #[.string s, .int .u8 45] w fun e w' => ∃ g cap, e = .returned (.slice (some ⟨g, 0, none⟩) m cap) ∧ w.heap.size ≤ g ∧ g < w'.heap.size ∧ w'.cell? ⟨g, 0, none⟩ = some (.string x) ∧ w'.cell? ⟨g, m - 1, none⟩ = some (.string y) ∧ Below w.heap.size w w') := Lib.hid fun w => by
    have h := ref_PartsS s 45 hs w
    rw [hm] at h
    refine h.mono fun e w' ⟨g, cap, h1, h2, h3, h4, h5⟩ => ⟨g, cap, h1, h2, h3, ?_, ?_, h5⟩
    · rw [hx]; exact h4 0 _ (by rw [List.getD_eq_getElem?_getD, List.getElem?_eq_getElem (by rw [hm]; omega)]; rfl)
    · rw [hy]; exact h4 (m - 1) _ (by rw [List.getD_eq_getElem?_getD, List.getElem?_eq_getElem (by rw [hm]; omega)]; rfl)
  have ex : (partsL 45 s.data.toList).getD 0 [] = x.data.toList := by rw [hx]
  have ey : (partsL 45 s.data.toList).getD (m - 1) [] = y.data.toList := by rw [hy]
  rw [ex, ey] at hr
  have hxy : m = 1 → x = y := fun h => by rw [hx, hy, h]
  clear ex ey hx hy hle hm
  by_cases h2 : 2 < m
  · rw [if_pos h2] at hr
    subst hr
    go_enter Tryd.func27, Tryd.ntmps27
    go_wp2_with (go_at_call 42; refine (HP.out _).mono ?_; rintro e w2 ⟨g, cap, rfl, hg0, hg1, hx0, hy0, hb2⟩; obtain ⟨hc2, hf2⟩ := bcell hb2; have hs2 := hb2.size; simp at hs2; have hz2 : w.heap.size < w2.heap.size := (by omega))
    go_wp2
    refine bodyPost_ret (v := .tuple #[.agg #[.int .u32 0, .int .u32 0], .bool false]) (by simp [results, Tryd.results27, go_sem, hc2, hz2]) rfl ?_
    exact ⟨rfl, by ((repeat (first | exact Below.refl _ _ | refine Below.drew ?_ | refine Below.setCell ?_ (by first | (simp; done) | (simp; omega) | omega) _ | refine Below.alloc ?_ (by first | (simp; done) | (simp; omega) | omega) _ | refine Below.trans ?_ (Below.mono hb2 (by first | (simp; done) | (simp; omega) | omega)))); done)⟩
  rw [if_neg h2] at hr
  obtain ⟨p, hp⟩ : ∃ p, numB x.data.toList 0 65535 = p := ⟨_, rfl⟩
  obtain ⟨q, hq⟩ : ∃ q, numB y.data.toList 0 65535 = q := ⟨_, rfl⟩
  rw [hp, hq] at hr
  have HX := Lib.hid hp
  have HY := Lib.hid hq
  clear hp hq
  have hm12 : m = 1 ∨ m = 2 := by omega
  clear h2 hm0 hml
  rcases hm12 with rfl | rfl
  · obtain rfl := hxy rfl
    obtain rfl : p = q := HX.out.symm.trans HY.out
    clear hxy HY hys
    cases p with
    | none =>
      have : r = none := hr.symm
      subst this
      clear hr
      go_enter Tryd.func27, Tryd.ntmps27
      go_wp2_with (first | (go_at_call 42; refine (HP.out _).mono ?_; rintro e w2 ⟨g, cap, rfl, hg0, hg1, hx0, hy0, hb2⟩; obtain ⟨hc2, hf2⟩ := bcell hb2; have hs2 := hb2.size; simp at hs2 hg0; have hz2 : w.heap.size < w2.heap.size := (by omega)) | (go_at_call 26; with_reducible refine (ref_Num _ 0 65535 (by decide) (by decide) (by decide) (by decide) hxs HX.out _).mono ?_; rintro e w' ⟨rfl, rfl⟩))
      go_wp2
      refine bodyPost_ret (v := .tuple #[.agg #[.int .u32 0, .int .u32 0], .bool false]) (by simp [results, Tryd.results27, go_sem, hc2, hz2]) rfl ?_
      exact ⟨rfl, by ((repeat (first | exact Below.refl _ _ | refine Below.drew ?_ | refine Below.setCell ?_ (by first | (simp; done) | (simp; omega) | omega) _ | refine Below.alloc ?_ (by first | (simp; done) | (simp; omega) | omega) _ | refine Below.trans ?_ (Below.mono hb2 (by first | (simp; done) | (simp; omega) | omega)))); done)⟩
    | some a =>
      have ha := numB_bd HX.out
      rw [Option.bind_some, Option.bind_some, if_neg (by omega)] at hr
      subst hr
      have e1 := u32_in a (by omega) (by omega)
      go_enter Tryd.func27, Tryd.ntmps27
      go_wp2_with (first | (go_at_call 42; refine (HP.out _).mono ?_; rintro e w2 ⟨g, cap, rfl, hg0, hg1, hx0, hy0, hb2⟩; obtain ⟨hc2, hf2⟩ := bcell hb2; have hs2 := hb2.size; simp at hs2 hg0; have hz2 : w.heap.size < w2.heap.size := (by omega)) | (go_at_call 26; with_reducible refine (ref_Num _ 0 65535 (by decide) (by decide) (by decide) (by decide) hxs HX.out _).mono ?_; rintro e w' ⟨rfl, rfl⟩))
      go_wp2
      refine bodyPost_ret (v := .tuple #[.agg #[.int .u32 a, .int .u32 a], .bool true]) (by simp [results, Tryd.results27, go_sem, hc2, hz2]) rfl ?_
      exact ⟨rfl, by ((repeat (first | exact Below.refl _ _ | refine Below.drew ?_ | refine Below.setCell ?_ (by first | (simp; done) | (simp; omega) | omega) _ | refine Below.alloc ?_ (by first | (simp; done) | (simp; omega) | omega) _ | refine Below.trans ?_ (Below.mono hb2 (by first | (simp; done) | (simp; omega) | omega)))); done)⟩
  · clear hxy
    cases p with
    | none =>
      have : r = none := hr.symm
      subst this
      clear hr
      go_enter Tryd.func27, Tryd.ntmps27
      go_wp2_with (first | (go_at_call 42; refine (HP.out _).mono ?_; rintro e w2 ⟨g, cap, rfl, hg0, hg1, hx0, hy0, hb2⟩; obtain ⟨hc2, hf2⟩ := bcell hb2; have hs2 := hb2.size; simp at hs2 hg0; have hz2 : w.heap.size < w2.heap.size := (by omega)) | (go_at_call 26; with_reducible refine (ref_Num _ 0 65535 (by decide) (by decide) (by decide) (by decide) hxs HX.out _).mono ?_; rintro e w' ⟨rfl, rfl⟩) | (go_at_call 26; with_reducible refine (ref_Num _ 0 65535 (by decide) (by decide) (by decide) (by decide) hys HY.out _).mono ?_; rintro e w' ⟨rfl, rfl⟩))
      go_wp2
      refine bodyPost_ret (v := .tuple #[.agg #[.int .u32 0, .int .u32 0], .bool false]) (by simp [results, Tryd.results27, go_sem, hc2, hz2]) rfl ?_
      exact ⟨rfl, by ((repeat (first | exact Below.refl _ _ | refine Below.drew ?_ | refine Below.setCell ?_ (by first | (simp; done) | (simp; omega) | omega) _ | refine Below.alloc ?_ (by first | (simp; done) | (simp; omega) | omega) _ | refine Below.trans ?_ (Below.mono hb2 (by first | (simp; done) | (simp; omega) | omega)))); done)⟩
    | some a =>
      have ha := numB_bd HX.out
      rw [Option.bind_some] at hr
      cases q with
      | none =>
        have : r = none := hr.symm
        subst this
        clear hr
        go_enter Tryd.func27, Tryd.ntmps27
        go_wp2_with (first | (go_at_call 42; refine (HP.out _).mono ?_; rintro e w2 ⟨g, cap, rfl, hg0, hg1, hx0, hy0, hb2⟩; obtain ⟨hc2, hf2⟩ := bcell hb2; have hs2 := hb2.size; simp at hs2 hg0; have hz2 : w.heap.size < w2.heap.size := (by omega)) | (go_at_call 26; with_reducible refine (ref_Num _ 0 65535 (by decide) (by decide) (by decide) (by decide) hxs HX.out _).mono ?_; rintro e w' ⟨rfl, rfl⟩) | (go_at_call 26; with_reducible refine (ref_Num _ 0 65535 (by decide) (by decide) (by decide) (by decide) hys HY.out _).mono ?_; rintro e w' ⟨rfl, rfl⟩))
        go_wp2
        refine bodyPost_ret (v := .tuple #[.agg #[.int .u32 0, .int .u32 0], .bool false]) (by simp [results, Tryd.results27, go_sem, hc2, hz2]) rfl ?_
        exact ⟨rfl, by ((repeat (first | exact Below.refl _ _ | refine Below.drew ?_ | refine Below.setCell ?_ (by first | (simp; done) | (simp; omega) | omega) _ | refine Below.alloc ?_ (by first | (simp; done) | (simp; omega) | omega) _ | refine Below.trans ?_ (Below.mono hb2 (by first | (simp; done) | (simp; omega) | omega)))); done)⟩
      | some b =>
        have hb := numB_bd HY.out
        rw [Option.bind_some] at hr
        by_cases hba : b < a
        · rw [if_pos hba] at hr
          subst hr
          go_enter Tryd.func27, Tryd.ntmps27
          go_wp2_with (first | (go_at_call 42; refine (HP.out _).mono ?_; rintro e w2 ⟨g, cap, rfl, hg0, hg1, hx0, hy0, hb2⟩; obtain ⟨hc2, hf2⟩ := bcell hb2; have hs2 := hb2.size; simp at hs2 hg0; have hz2 : w.heap.size < w2.heap.size := (by omega)) | (go_at_call 26; with_reducible refine (ref_Num _ 0 65535 (by decide) (by decide) (by decide) (by decide) hxs HX.out _).mono ?_; rintro e w' ⟨rfl, rfl⟩) | (go_at_call 26; with_reducible refine (ref_Num _ 0 65535 (by decide) (by decide) (by decide) (by decide) hys HY.out _).mono ?_; rintro e w' ⟨rfl, rfl⟩))
          go_wp2
          refine bodyPost_ret (v := .tuple #[.agg #[.int .u32 0, .int .u32 0], .bool false]) (by simp [results, Tryd.results27, go_sem, hc2, hz2]) rfl ?_
          exact ⟨rfl, by ((repeat (first | exact Below.refl _ _ | refine Below.drew ?_ | refine Below.setCell ?_ (by first | (simp; done) | (simp; omega) | omega) _ | refine Below.alloc ?_ (by first | (simp; done) | (simp; omega) | omega) _ | refine Below.trans ?_ (Below.mono hb2 (by first | (simp; done) | (simp; omega) | omega)))); done)⟩
        · rw [if_neg hba] at hr
          subst hr
          have e1 := u32_in a (by omega) (by omega)
          have e2 := u32_in b (by omega) (by omega)
          go_enter Tryd.func27, Tryd.ntmps27
          go_wp2_with (first | (go_at_call 42; refine (HP.out _).mono ?_; rintro e w2 ⟨g, cap, rfl, hg0, hg1, hx0, hy0, hb2⟩; obtain ⟨hc2, hf2⟩ := bcell hb2; have hs2 := hb2.size; simp at hs2 hg0; have hz2 : w.heap.size < w2.heap.size := (by omega)) | (go_at_call 26; with_reducible refine (ref_Num _ 0 65535 (by decide) (by decide) (by decide) (by decide) hxs HX.out _).mono ?_; rintro e w' ⟨rfl, rfl⟩) | (go_at_call 26; with_reducible refine (ref_Num _ 0 65535 (by decide) (by decide) (by decide) (by decide) hys HY.out _).mono ?_; rintro e w' ⟨rfl, rfl⟩))
          go_wp2
          refine bodyPost_ret (v := .tuple #[.agg #[.int .u32 a, .int .u32 b], .bool true]) (by simp [results, Tryd.results27, go_sem, hc2, hz2]) rfl ?_
          exact ⟨rfl, by ((repeat (first | exact Below.refl _ _ | refine Below.drew ?_ | refine Below.setCell ?_ (by first | (simp; done) | (simp; omega) | omega) _ | refine Below.alloc ?_ (by first | (simp; done) | (simp; omega) | omega) _ | refine Below.trans ?_ (Below.mono hb2 (by first | (simp; done) | (simp; omega) | omega)))); done)⟩
end Go.Proofs.YtmaiillomoehgaaDoor
