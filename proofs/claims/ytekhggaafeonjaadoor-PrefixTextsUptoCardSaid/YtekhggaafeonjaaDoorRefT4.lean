/- Walks of the reference's texts: Parse. -/
import Derived.Test.YtekhggaafeonjaaDoorRefT3
namespace Go.Proofs.YtekhggaafeonjaaDoor
open Go.RowKit
theorem raRes_bd (l : List UInt8) : 0 ≤ (raRes l).1 ∧ (raRes l).1 ≤ 4294967295 := by
  cases h : (raRes l).2 with
  | true => exact (raRes_only l (raRes l).1 (Prod.ext rfl h)).2
  | false => rw [raRes_false l h]; simp
set_option maxRecDepth 100000 in
set_option maxHeartbeats 4000000 in
theorem ref_Parse (s : ByteArray) (hs : s.size ≤ 4398046511104) (a n : Int) (ok : Bool) (hr : rpRes s.data.toList = (a, n, ok)) (w : World) :
    Calls Tryd.prog 19 #[.string s] w fun e w' => e = .returned (.tuple #[.agg #[.int .u32 a, .int .i64 n], .bool ok]) ∧ Below w.heap.size w w' := by
  obtain ⟨m, hm⟩ : ∃ m, (partsL 47 s.data.toList).length = m := ⟨_, rfl⟩
  by_cases h2 : m = 2
  · subst h2
    match hp : partsL 47 s.data.toList, hm with
    | [p0, p1], _ =>
      have hr2 : (match raRes p0, readB p1 32 with | (a, true), some n => if valB a n = true then (a, n, true) else (0, 0, false) | _, _ => (0, 0, false)) = (a, n, ok) := by
        rw [← hr]; unfold rpRes; rw [hp]; rfl
      have hle : ∀ x ∈ partsL 47 s.data.toList, x.length ≤ s.size := fun x hx => by have := parts_le 47 s.data.toList x hx; rw [← size_len] at this; exact this
      obtain ⟨x, hx⟩ : ∃ x : ByteArray, x = ⟨p0.toArray⟩ := ⟨_, rfl⟩
      obtain ⟨y, hy⟩ : ∃ y : ByteArray, y = ⟨p1.toArray⟩ := ⟨_, rfl⟩
      have hxs : x.size ≤ 4398046511104 := by rw [hx, size_list]; have := hle p0 (by rw [hp]; simp); omega
      have hys : y.size ≤ maxLen := by rw [hy, size_list]; have := hle p1 (by rw [hp]; simp); unfold maxLen; omega
      have HP : Hid (∀ w, Calls Tryd.prog 41 #[.string s, .int .u8 47] w fun e w' => ∃ g cap, e = .returned (.slice (some ⟨g, 0, none⟩) 2 cap) ∧ w.heap.size ≤ g ∧ g < w'.heap.size ∧ w'.cell? ⟨g, 0, none⟩ = some (.string x) ∧ w'.cell? ⟨g, 1, none⟩ = some (.string y) ∧ Below w.heap.size w w') := Lib.hid fun w => by
        have h := ref_PartsS s 47 hs w
        rw [hp] at h
        exact h.mono fun e w' ⟨g, cap, h1, h2, h3, h4, h5⟩ => ⟨g, cap, h1, h2, h3, by rw [hx]; exact h4 0 _ rfl, by rw [hy]; exact h4 1 _ rfl, h5⟩
      have hbd := raRes_bd p0
      obtain ⟨c, hc⟩ : ∃ c, raRes p0 = c := ⟨_, rfl⟩
      obtain ⟨q, hq⟩ : ∃ q, readB p1 32 = q := ⟨_, rfl⟩
      rw [hc, hq] at hr2
      rw [hc] at hbd
      have HX : Hid (raRes x.data.toList = c) := Lib.hid (by rw [hx]; exact hc)
      have HY : Hid (readB y.data.toList 32 = q) := Lib.hid (by rw [hy]; exact hq)
      clear hx hy hle hc hq hp hr
      obtain ⟨c, okx⟩ := c
      dsimp only at hbd
      have key : (okx = true ∧ ∃ z, q = some z ∧ valB c z = true ∧ (c, z, true) = (a, n, ok)) ∨ (((0 : Int), (0 : Int), false) = (a, n, ok) ∧ (okx = false ∨ q = none ∨ ∃ z, q = some z ∧ valB c z = false)) := by
        cases okx
        · exact .inr ⟨hr2, .inl rfl⟩
        · cases q with
          | none => exact .inr ⟨hr2, .inr (.inl rfl)⟩
          | some z =>
            dsimp only at hr2
            by_cases hv : valB c z = true
            · rw [if_pos hv] at hr2; exact .inl ⟨rfl, z, rfl, hv, hr2⟩
            · rw [if_neg hv] at hr2; exact .inr ⟨hr2, .inr (.inr ⟨z, rfl, by simpa using hv⟩)⟩
      clear hr2
      rcases key with ⟨rfl, z, rfl, hv, he⟩ | ⟨he, hno⟩
      · obtain ⟨rfl, he2⟩ := Prod.mk.inj he
        obtain ⟨rfl, rfl⟩ := Prod.mk.inj he2
        have HV := Lib.hid hv
        clear he he2 hv
        go_enter Tryd.func19, Tryd.ntmps19
        go_wp2_with (first | (go_at_call 41; refine (HP.out _).mono ?_; rintro e w2 ⟨g, cap, rfl, hg0, hg1, hx0, hy0, hb2⟩; simp at hg0; obtain ⟨hc2, hf2⟩ := bcell hb2; have hs2 := hb2.size; simp at hs2; have hz2 : w.heap.size < w2.heap.size := (by omega)) | (go_at_call 17; refine (ref_ParseAddr x hxs c true HX.out _).mono ?_; rintro e w3 ⟨rfl, hb3⟩; obtain ⟨hc3, hf3⟩ := bcell hb3; have hs3 := hb3.size; have hz3 : g < w3.heap.size := (by omega); have hz3' : w.heap.size < w3.heap.size := (by omega)) | (go_at_call 42; refine (ref_Read y 32 (by decide) (by decide) hys HY.out _).mono ?_; rintro e w' ⟨rfl, rfl⟩) | (go_at_call 38; refine (ref_Valid c z hbd.1 hbd.2 HV.out _).mono ?_; rintro e w4 ⟨rfl, hb4⟩; obtain ⟨hc4, hf4⟩ := bcell hb4; have hs4 := hb4.size; have hz4 : w.heap.size < w4.heap.size := (by omega)))
        go_wp2
        refine bodyPost_ret (v := .tuple #[.agg #[.int .u32 c, .int .i64 z], .bool true]) (by simp [results, Tryd.results19, go_sem, hc4, hc3, hc2, hz4, hz3', hz2]) rfl ?_
        exact ⟨rfl, by ((repeat (first | exact Below.refl _ _ | refine Below.drew ?_ | refine Below.setCell ?_ (by first | (simp; done) | (simp; omega) | omega) _ | refine Below.alloc ?_ (by first | (simp; done) | (simp; omega) | omega) _ | refine Below.trans ?_ (Below.mono hb4 (by first | (simp; done) | (simp; omega) | omega)) | refine Below.trans ?_ (Below.mono hb3 (by first | (simp; done) | (simp; omega) | omega)) | refine Below.trans ?_ (Below.mono hb2 (by first | (simp; done) | (simp; omega) | omega)))); done)⟩
      · obtain ⟨rfl, he2⟩ := Prod.mk.inj he
        obtain ⟨rfl, rfl⟩ := Prod.mk.inj he2
        clear he he2
        rcases hno with rfl | rfl | ⟨z, rfl, hv⟩
        · rcases q with _ | z
          all_goals
            go_enter Tryd.func19, Tryd.ntmps19
            go_wp2_with (first | (go_at_call 41; refine (HP.out _).mono ?_; rintro e w2 ⟨g, cap, rfl, hg0, hg1, hx0, hy0, hb2⟩; simp at hg0; obtain ⟨hc2, hf2⟩ := bcell hb2; have hs2 := hb2.size; simp at hs2; have hz2 : w.heap.size < w2.heap.size := (by omega)) | (go_at_call 17; refine (ref_ParseAddr x hxs c false HX.out _).mono ?_; rintro e w3 ⟨rfl, hb3⟩; obtain ⟨hc3, hf3⟩ := bcell hb3; have hs3 := hb3.size; have hz3 : g < w3.heap.size := (by omega); have hz3' : w.heap.size < w3.heap.size := (by omega)) | (go_at_call 42; refine (ref_Read y 32 (by decide) (by decide) hys HY.out _).mono ?_; rintro e w' ⟨rfl, rfl⟩))
            go_wp2
            refine bodyPost_ret (v := .tuple #[.agg #[.int .u32 0, .int .i64 0], .bool false]) (by simp [results, Tryd.results19, go_sem, hc3, hc2, hz3', hz2]) rfl ?_
            exact ⟨rfl, by ((repeat (first | exact Below.refl _ _ | refine Below.drew ?_ | refine Below.setCell ?_ (by first | (simp; done) | (simp; omega) | omega) _ | refine Below.alloc ?_ (by first | (simp; done) | (simp; omega) | omega) _ | refine Below.trans ?_ (Below.mono hb3 (by first | (simp; done) | (simp; omega) | omega)) | refine Below.trans ?_ (Below.mono hb2 (by first | (simp; done) | (simp; omega) | omega)))); done)⟩
        · cases okx
          all_goals
            go_enter Tryd.func19, Tryd.ntmps19
            go_wp2_with (first | (go_at_call 41; refine (HP.out _).mono ?_; rintro e w2 ⟨g, cap, rfl, hg0, hg1, hx0, hy0, hb2⟩; simp at hg0; obtain ⟨hc2, hf2⟩ := bcell hb2; have hs2 := hb2.size; simp at hs2; have hz2 : w.heap.size < w2.heap.size := (by omega)) | (go_at_call 17; refine (ref_ParseAddr x hxs c _ HX.out _).mono ?_; rintro e w3 ⟨rfl, hb3⟩; obtain ⟨hc3, hf3⟩ := bcell hb3; have hs3 := hb3.size; have hz3 : g < w3.heap.size := (by omega); have hz3' : w.heap.size < w3.heap.size := (by omega)) | (go_at_call 42; refine (ref_Read y 32 (by decide) (by decide) hys HY.out _).mono ?_; rintro e w' ⟨rfl, rfl⟩))
            go_wp2
            refine bodyPost_ret (v := .tuple #[.agg #[.int .u32 0, .int .i64 0], .bool false]) (by simp [results, Tryd.results19, go_sem, hc3, hc2, hz3', hz2]) rfl ?_
            exact ⟨rfl, by ((repeat (first | exact Below.refl _ _ | refine Below.drew ?_ | refine Below.setCell ?_ (by first | (simp; done) | (simp; omega) | omega) _ | refine Below.alloc ?_ (by first | (simp; done) | (simp; omega) | omega) _ | refine Below.trans ?_ (Below.mono hb3 (by first | (simp; done) | (simp; omega) | omega)) | refine Below.trans ?_ (Below.mono hb2 (by first | (simp; done) | (simp; omega) | omega)))); done)⟩
        · have HV := Lib.hid hv
          clear hv
          cases okx
          · go_enter Tryd.func19, Tryd.ntmps19
            go_wp2_with (first | (go_at_call 41; refine (HP.out _).mono ?_; rintro e w2 ⟨g, cap, rfl, hg0, hg1, hx0, hy0, hb2⟩; simp at hg0; obtain ⟨hc2, hf2⟩ := bcell hb2; have hs2 := hb2.size; simp at hs2; have hz2 : w.heap.size < w2.heap.size := (by omega)) | (go_at_call 17; refine (ref_ParseAddr x hxs c false HX.out _).mono ?_; rintro e w3 ⟨rfl, hb3⟩; obtain ⟨hc3, hf3⟩ := bcell hb3; have hs3 := hb3.size; have hz3 : g < w3.heap.size := (by omega); have hz3' : w.heap.size < w3.heap.size := (by omega)) | (go_at_call 42; refine (ref_Read y 32 (by decide) (by decide) hys HY.out _).mono ?_; rintro e w' ⟨rfl, rfl⟩))
            go_wp2
            refine bodyPost_ret (v := .tuple #[.agg #[.int .u32 0, .int .i64 0], .bool false]) (by simp [results, Tryd.results19, go_sem, hc3, hc2, hz3', hz2]) rfl ?_
            exact ⟨rfl, by ((repeat (first | exact Below.refl _ _ | refine Below.drew ?_ | refine Below.setCell ?_ (by first | (simp; done) | (simp; omega) | omega) _ | refine Below.alloc ?_ (by first | (simp; done) | (simp; omega) | omega) _ | refine Below.trans ?_ (Below.mono hb3 (by first | (simp; done) | (simp; omega) | omega)) | refine Below.trans ?_ (Below.mono hb2 (by first | (simp; done) | (simp; omega) | omega)))); done)⟩
          · go_enter Tryd.func19, Tryd.ntmps19
            go_wp2_with (first | (go_at_call 41; refine (HP.out _).mono ?_; rintro e w2 ⟨g, cap, rfl, hg0, hg1, hx0, hy0, hb2⟩; simp at hg0; obtain ⟨hc2, hf2⟩ := bcell hb2; have hs2 := hb2.size; simp at hs2; have hz2 : w.heap.size < w2.heap.size := (by omega)) | (go_at_call 17; refine (ref_ParseAddr x hxs c true HX.out _).mono ?_; rintro e w3 ⟨rfl, hb3⟩; obtain ⟨hc3, hf3⟩ := bcell hb3; have hs3 := hb3.size; have hz3 : g < w3.heap.size := (by omega); have hz3' : w.heap.size < w3.heap.size := (by omega)) | (go_at_call 42; refine (ref_Read y 32 (by decide) (by decide) hys HY.out _).mono ?_; rintro e w' ⟨rfl, rfl⟩) | (go_at_call 38; refine (ref_Valid c z hbd.1 hbd.2 HV.out _).mono ?_; rintro e w4 ⟨rfl, hb4⟩; obtain ⟨hc4, hf4⟩ := bcell hb4; have hs4 := hb4.size; have hz4 : w.heap.size < w4.heap.size := (by omega)))
            go_wp2
            refine bodyPost_ret (v := .tuple #[.agg #[.int .u32 0, .int .i64 0], .bool false]) (by simp [results, Tryd.results19, go_sem, hc4, hc3, hc2, hz4, hz3', hz2]) rfl ?_
            exact ⟨rfl, by ((repeat (first | exact Below.refl _ _ | refine Below.drew ?_ | refine Below.setCell ?_ (by first | (simp; done) | (simp; omega) | omega) _ | refine Below.alloc ?_ (by first | (simp; done) | (simp; omega) | omega) _ | refine Below.trans ?_ (Below.mono hb4 (by first | (simp; done) | (simp; omega) | omega)) | refine Below.trans ?_ (Below.mono hb3 (by first | (simp; done) | (simp; omega) | omega)) | refine Below.trans ?_ (Below.mono hb2 (by first | (simp; done) | (simp; omega) | omega)))); done)⟩
  · have hr2 : rpRes s.data.toList = (0, 0, false) := by
      unfold rpRes
      split
      · rename_i p0 p1 hp
        rw [hp] at hm
        exact absurd hm.symm h2
      · rfl
    rw [hr2] at hr
    obtain ⟨rfl, he2⟩ := Prod.mk.inj hr
    obtain ⟨rfl, rfl⟩ := Prod.mk.inj he2
    have HP : Hid (∀ w, Calls Tryd.prog 41 #[.string s, .int .u8 47] w fun e w' => ∃ g cap, e = .returned (.slice (some ⟨g, 0, none⟩) m cap) ∧ Below w.heap.size w w') := Lib.hid fun w => by
      have h := ref_PartsS s 47 hs w
      rw [hm] at h
      exact h.mono fun e w' ⟨g, cap, h1, _, _, _, h5⟩ => ⟨g, cap, h1, h5⟩
    have g2 := (show ((m : Int) != 2) = true by rw [bne_iff_ne]; omega)
    clear hr he2 hr2 hm h2
    go_enter Tryd.func19, Tryd.ntmps19
    go_wp2_with (go_at_call 41; refine (HP.out _).mono ?_; rintro e w2 ⟨g, cap, rfl, hb2⟩; obtain ⟨hc2, hf2⟩ := bcell hb2; have hs2 := hb2.size; simp at hs2; have hz2 : w.heap.size < w2.heap.size := (by omega))
    go_wp2
    refine bodyPost_ret (v := .tuple #[.agg #[.int .u32 0, .int .i64 0], .bool false]) (by simp [results, Tryd.results19, go_sem, hc2, hz2]) rfl ?_
    exact ⟨rfl, by ((repeat (first | exact Below.refl _ _ | refine Below.drew ?_ | refine Below.setCell ?_ (by first | (simp; done) | (simp; omega) | omega) _ | refine Below.alloc ?_ (by first | (simp; done) | (simp; omega) | omega) _ | refine Below.trans ?_ (Below.mono hb2 (by first | (simp; done) | (simp; omega) | omega)))); done)⟩
end Go.Proofs.YtekhggaafeonjaaDoor
