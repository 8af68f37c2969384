/- Walks of the generator: Addr. -/
import Derived.Test.YtekhggaafeonjaaDoorGen2
namespace Go.Proofs.YtekhggaafeonjaaDoor
open Go.RowKit
theorem u32_bd (x : Int) : 0 ≤ IntKind.u32.wrap x ∧ IntKind.u32.wrap x ≤ 4294967295 := by
  simp [IntKind.wrap, IntKind.signed, IntKind.bits]
  omega
def AddrPost (T : Nat) (w : World) (e : Ending) (w' : World) : Prop := ∃ a : Int, e = .returned (.int .u32 a) ∧ 0 ≤ a ∧ a ≤ 4294967295 ∧ Tp T w' ∧ Keep T w w'
set_option maxHeartbeats 2000000 in
theorem gen_Addr (T : Nat) (w : World) (h : Tp T w) : Calls Tryd.prog 15 #[.pointer (some ⟨T, 0, none⟩)] w (AddrPost T w) := by
  have H := Lib.hid h
  clear h
  go_enter Tryd.func15, Tryd.ntmps15
  go_wp2_with fail
  refine (gen_Next T 5 (by decide) _ H.out).mono ?_
  rintro e w1 ⟨c, rfl, hc0, hc1, hT1, hK1⟩
  have hlt1 := hT1.lt
  have hne1 : ¬ w1.heap.size = T := by omega
  have HT1 := Lib.hid hT1
  have HK1 := Lib.hid hK1
  clear hT1 hK1
  rcases Bool.eq_false_or_eq_true (c == 4) with g4 | g4
  · go_wp2_with fail
    refine (gen_Next T 6 (by decide) _ (HT1.out.alloc _)).mono ?_
    rintro e w2 ⟨d, rfl, hd0, hd1, hT2, hK2⟩
    obtain ⟨hc2, hf2⟩ := kcell hK2
    have HT2 := Lib.hid hT2
    have HK2 := Lib.hid hK2
    clear hT2 hK2
    have h6 : d = 0 ∨ d = 1 ∨ d = 2 ∨ d = 3 ∨ d = 4 ∨ d = 5 := by omega
    clear hd0 hd1
    rcases h6 with rfl | rfl | rfl | rfl | rfl | rfl
    all_goals
      go_wp2
      go_ret
      exact ⟨_, rfl, by decide, by decide, HT2.out, (HK1.out.alloc _).trans HK2.out⟩
  · go_wp2_with fail
    refine (gen_Next T 6 (by decide) _ HT1.out).mono ?_
    rintro e w2 ⟨d, rfl, hd0, hd1, hT2, hK2⟩
    have HT2 := Lib.hid hT2
    have HK2 := Lib.hid hK2
    have hlt2 := hT2.lt
    clear hT2 hK2
    go_wp2_with fail
    refine (gen_Subnet d hd0 (by omega) _).mono ?_
    rintro e w3 ⟨a, n, rfl, ha0, ha1, hv, hb3⟩
    have HV := Lib.hid hv
    clear hv
    have hs3 := hb3.size
    have HB3 := Lib.hid hb3
    clear hb3
    go_wp2_with fail
    refine (ref_Of_yes a n ha0 ha1 HV.out _).mono ?_
    rintro e w4 ⟨rfl, hb4⟩
    obtain ⟨hc4, hf4⟩ := bcell hb4
    have hs4 := hb4.size
    simp at hs4
    have HB4 := Lib.hid hb4
    clear hb4
    have hvb := (valB_iff a n).1 HV.out
    have hu := upper_le a n ha1 hvb.1 hvb.2.2 ha0 hvb.2.1
    have hp := pw_pos n
    obtain ⟨hi, hhi⟩ : ∃ hi, a + (pw n - 1) = hi := ⟨_, rfl⟩
    rw [hhi]
    have hh0 : 0 ≤ hi := by omega
    have hh1 : hi ≤ 4294967295 := by omega
    clear hvb hu hp hhi
    go_wp2_with fail
    obtain ⟨W, hW⟩ : ∃ W, W = w4.alloc (.cells #[.int .u32 a, .int .u32 hi] 44) := ⟨_, rfl⟩
    rw [← hW]
    have k0 : W.cell? ⟨w4.heap.size, 0, none⟩ = some (.int .u32 a) := by rw [hW, World.cell?_alloc_at _ _ _ _ rfl]; rfl
    have k1 : W.cell? ⟨w4.heap.size, 1, none⟩ = some (.int .u32 hi) := by rw [hW, World.cell?_alloc_at _ _ _ _ rfl]; rfl
    have kz : w4.heap.size < W.heap.size := by rw [hW]; simp
    have kb : RS T w W := by
      rw [hW]
      have h2 : RS T w w2 := (RS.step ⟨HT1.out, HK1.out⟩ HT2.out HK2.out)
      exact ((((h2.below HB3.out).alloc _).below HB4.out).alloc _)
    have kne : ¬ w4.heap.size = T := by have := HT2.out.lt; omega
    have hmk : ∀ w', RS T W w' → w'.cell? ⟨w4.heap.size, 0, none⟩ = some (.int .u32 a) ∧ w'.cell? ⟨w4.heap.size, 1, none⟩ = some (.int .u32 hi) ∧ RS T W w' := fun w' h => ⟨(h.cell kz kne).trans k0, (h.cell kz kne).trans k1, h⟩
    have HMK := Lib.hid hmk
    have KB := Lib.hid kb
    clear hW hmk kb hc4 hf4
    obtain ⟨f, hf0, hf1, hN⟩ := gen_Next_in T 5 (by decide) W KB.out.1
    have HN := Lib.hid hN
    have kneW : ¬ W.heap.size = T := by have := KB.out.1.lt; omega
    have h5 : f = 0 ∨ f = 1 ∨ f = 2 ∨ f = 3 ∨ f = 4 := by omega
    clear hf0 hf1 hN k0 k1 hd0 hd1 hc0 hc1 hlt1 hlt2 hne1
    rcases h5 with rfl | rfl | rfl | rfl | rfl
    all_goals
      refine wp_region_held_drew (S := fun w' => w'.cell? ⟨w4.heap.size, 0, none⟩ = some (.int .u32 a) ∧ w'.cell? ⟨w4.heap.size, 1, none⟩ = some (.int .u32 hi) ∧ RS T W w') (by kernel_rfl) (HMK.out _ (RS.drew (RS.refl KB.out.1))) (fun hHeld => ?_)
      refine wpAnyH_take (i := 0) (oi := _) (v := ?_) (List.getElem?_toArray.trans rfl) (by kernel_rfl) (by kernel_rfl) (by kernel_rfl) (fun _ _ _ h => h) (Or.inl ⟨by rfl, by (intro w' hSw; (try dsimp only at hSw); go_simp; first | done | with_reducible rfl)⟩) (by assumption) ?_
      simp only [Act.put, List.setIfInBounds_toArray, List.set_cons_zero, List.set_cons_succ]
      refine wpAnyH_take (i := 1) (oi := _) (v := ?_) (List.getElem?_toArray.trans rfl) (by kernel_rfl) (by kernel_rfl) (by kernel_rfl) (fun _ _ _ h => h) (Or.inl ⟨by rfl, by (intro w' hSw; (try dsimp only at hSw); go_simp; first | done | with_reducible rfl)⟩) (by assumption) ?_
      simp only [Act.put, List.setIfInBounds_toArray, List.set_cons_zero, List.set_cons_succ]
      refine wpAnyH_take (i := 2) (oi := _) (v := ?_) (List.getElem?_toArray.trans rfl) (by kernel_rfl) (by kernel_rfl) (by kernel_rfl) (fun _ _ _ h => h) (Or.inl ⟨by rfl, by (intro w' hSw; (try dsimp only at hSw); go_simp; first | done | with_reducible rfl)⟩) (by assumption) ?_
      simp only [Act.put, List.setIfInBounds_toArray, List.set_cons_zero, List.set_cons_succ]
      refine wpAnyH_take (i := 3) (oi := _) (v := ?_) (List.getElem?_toArray.trans rfl) (by kernel_rfl) (by kernel_rfl) (by kernel_rfl) (fun _ _ _ h => h) (Or.inl ⟨by rfl, by (intro w' hSw; (try dsimp only at hSw); go_simp; first | done | with_reducible rfl)⟩) (by assumption) ?_
      simp only [Act.put, List.setIfInBounds_toArray, List.set_cons_zero, List.set_cons_succ]
      refine wpAnyH_take (i := 4) (oi := _) (v := ?_) (List.getElem?_toArray.trans rfl) (by kernel_rfl) (by kernel_rfl) (by kernel_rfl) (fun _ _ _ h => h) (Or.inl ⟨by rfl, by (intro w' hSw; (try dsimp only at hSw); go_simp; first | done | with_reducible rfl)⟩) (by assumption) ?_
      simp only [Act.put, List.setIfInBounds_toArray, List.set_cons_zero, List.set_cons_succ]
      refine wpAnyH_take (i := 5) (oi := _) (v := ?_) (List.getElem?_toArray.trans rfl) (by kernel_rfl) (by kernel_rfl) (by kernel_rfl) (fun _ _ _ h => h) (Or.inl ⟨by rfl, by (intro w' hSw; (try dsimp only at hSw); go_simp; first | done | with_reducible rfl)⟩) (by assumption) ?_
      simp only [Act.put, List.setIfInBounds_toArray, List.set_cons_zero, List.set_cons_succ]
      refine wpAnyH_take (i := 6) (oi := _) (v := ?_) (List.getElem?_toArray.trans rfl) (by kernel_rfl) (by kernel_rfl) (by kernel_rfl) (fun _ _ _ h => h) (Or.inl ⟨by rfl, by (intro w' hSw; (try dsimp only at hSw); go_simp; first | done | with_reducible rfl)⟩) (by assumption) ?_
      simp only [Act.put, List.setIfInBounds_toArray, List.set_cons_zero, List.set_cons_succ]
      refine wpAnyH_take (i := 7) (oi := _) (v := ?_) (List.getElem?_toArray.trans rfl) (by kernel_rfl) (by kernel_rfl) (by kernel_rfl) (fun _ _ _ h => h) (Or.inl ⟨by rfl, by (intro w' hSw; (try dsimp only at hSw); go_simp; first | done | with_reducible rfl)⟩) (by assumption) ?_
      simp only [Act.put, List.setIfInBounds_toArray, List.set_cons_zero, List.set_cons_succ]
      refine wpAnyH_take (i := 8) (oi := _) (v := ?_) (List.getElem?_toArray.trans rfl) (by kernel_rfl) (by kernel_rfl) (by kernel_rfl) (fun _ _ _ h => h) (Or.inl ⟨by rfl, by (intro w' hSw; (try dsimp only at hSw); go_simp; first | done | with_reducible rfl)⟩) (by assumption) ?_
      simp only [Act.put, List.setIfInBounds_toArray, List.set_cons_zero, List.set_cons_succ]
      refine wpAnyH_take (i := 9) (oi := _) (v := ?_) (List.getElem?_toArray.trans rfl) (by kernel_rfl) (by kernel_rfl) (by kernel_rfl) (fun _ _ _ h => h) (Or.inl ⟨by rfl, by (intro w' hSw; (try dsimp only at hSw); go_simp; first | done | with_reducible rfl)⟩) (by assumption) ?_
      simp only [Act.put, List.setIfInBounds_toArray, List.set_cons_zero, List.set_cons_succ]
      refine wpAnyH_take (i := 10) (oi := _) (v := ?_) (List.getElem?_toArray.trans rfl) (by kernel_rfl) (by kernel_rfl) (by kernel_rfl) (fun _ _ _ h => h) (Or.inl ⟨by rfl, by (intro w' hSw; (try dsimp only at hSw); go_simp; first | done | with_reducible rfl)⟩) (by assumption) ?_
      simp only [Act.put, List.setIfInBounds_toArray, List.set_cons_zero, List.set_cons_succ]
      refine wpAnyH_take (i := 11) (oi := _) (v := ?_) (List.getElem?_toArray.trans rfl) (by kernel_rfl) (by kernel_rfl) (by kernel_rfl) (fun _ _ _ h => h) (Or.inl ⟨by rfl, by (intro w' hSw; (try dsimp only at hSw); go_simp; first | done | with_reducible rfl)⟩) (by assumption) ?_
      simp only [Act.put, List.setIfInBounds_toArray, List.set_cons_zero, List.set_cons_succ]
      refine wpAnyH_take (i := 12) (oi := _) (v := ?_) (List.getElem?_toArray.trans rfl) (by kernel_rfl) (by kernel_rfl) (by kernel_rfl) (fun _ _ _ h => h) (Or.inl ⟨by rfl, by (intro w' hSw; (try dsimp only at hSw); go_simp; first | done | with_reducible rfl)⟩) (by assumption) ?_
      simp only [Act.put, List.setIfInBounds_toArray, List.set_cons_zero, List.set_cons_succ]
      refine wpAnyH_take (i := 14) (oi := _) (v := ?_) (List.getElem?_toArray.trans rfl) (by kernel_rfl) (by kernel_rfl) (by kernel_rfl) (fun _ _ _ h => h) (Or.inl ⟨by rfl, by (intro w' hSw; (try dsimp only at hSw); go_simp; first | done | with_reducible rfl)⟩) (by assumption) ?_
      simp only [Act.put, List.setIfInBounds_toArray, List.set_cons_zero, List.set_cons_succ]
      refine wpAnyH_ready (rs := [13, 15]) (by kernel_rfl) (by simp) (AllReadyH.cons (o := _) (List.getElem?_toArray.trans rfl) (fun K hK => ?_) (AllReadyH.cons (o := _) (List.getElem?_toArray.trans rfl) (fun K hK => ?_) (AllReadyH.nil)))
      ·
        go_simp
        refine hK.out _ _ ?_ (fun hHeld => ?_)
        · try dsimp only
          exact HMK.out _ (hHeld.2.2.alloc _)
        clear hK K
        try simp only [Act.put, List.setIfInBounds_toArray, List.set_cons_zero, List.set_cons_succ]
        refine wpAnyH_ready (rs := [15]) (by kernel_rfl) (by simp) (AllReadyH.cons (o := _) (List.getElem?_toArray.trans rfl) (fun K hK => ?_) (AllReadyH.nil))
        go_simp; go_at_call 23; refine (HN.out _ (by ((repeat (first | exact Below.refl _ _ | refine Below.drew ?_ | refine Below.setCell ?_ (by first | (simp; done) | (simp; omega) | omega) _ | refine Below.alloc ?_ (by first | (simp; done) | (simp; omega) | omega) _)); done))).mono ?_; rintro e w5 ⟨rfl, hT5, hK5⟩; obtain ⟨hc5, hf5⟩ := kcell hK5
        refine hK.out _ _ ?_ (fun hHeld => ?_)
        · try dsimp only
          exact HMK.out _ (hHeld.2.2.step hT5 hK5)
        clear hK K
        try simp only [Act.put, List.setIfInBounds_toArray, List.set_cons_zero, List.set_cons_succ]
        refine wpAnyH_take (i := 16) (oi := _) (v := ?_) (List.getElem?_toArray.trans rfl) (by kernel_rfl) (by kernel_rfl) (by kernel_rfl) (fun _ _ _ h => h) (Or.inl ⟨by rfl, by (intro w' hSw; (try dsimp only at hSw); go_simp; first | done | with_reducible rfl)⟩) (by assumption) ?_
        simp only [Act.put, List.setIfInBounds_toArray, List.set_cons_zero, List.set_cons_succ]
        refine wpAnyH_ready (rs := [17]) (by kernel_rfl) (by simp) (AllReadyH.cons (o := _) (List.getElem?_toArray.trans rfl) (fun K hK => ?_) (AllReadyH.nil))
        go_simp
        refine hK.out _ _ ?_ (fun hHeld => ?_)
        · try dsimp only
          exact hHeld
        clear hK K
        try simp only [Act.put, List.setIfInBounds_toArray, List.set_cons_zero, List.set_cons_succ]
        refine wpAnyH_take (i := 18) (oi := _) (v := ?_) (List.getElem?_toArray.trans rfl) (by kernel_rfl) (by kernel_rfl) (by kernel_rfl) (fun _ _ _ h => h) (Or.inl ⟨by rfl, by (intro w' hSw; (try dsimp only at hSw); go_simp; first | done | with_reducible rfl)⟩) (by assumption) ?_
        simp only [Act.put, List.setIfInBounds_toArray, List.set_cons_zero, List.set_cons_succ]
        refine wpAnyH_done (by kernel_rfl) ?_ _
        go_wp2
        go_ret
        exact ⟨_, rfl, by first | assumption | exact (u32_bd _).1, by first | assumption | exact (u32_bd _).2, hHeld.2.2.1, KB.out.2.trans hHeld.2.2.2⟩
      ·
        go_simp; go_at_call 23; refine (HN.out _ (by ((repeat (first | exact Below.refl _ _ | refine Below.drew ?_ | refine Below.setCell ?_ (by first | (simp; done) | (simp; omega) | omega) _ | refine Below.alloc ?_ (by first | (simp; done) | (simp; omega) | omega) _)); done))).mono ?_; rintro e w5 ⟨rfl, hT5, hK5⟩; obtain ⟨hc5, hf5⟩ := kcell hK5
        refine hK.out _ _ ?_ (fun hHeld => ?_)
        · try dsimp only
          exact HMK.out _ (hHeld.2.2.step hT5 hK5)
        clear hK K
        try simp only [Act.put, List.setIfInBounds_toArray, List.set_cons_zero, List.set_cons_succ]
        refine wpAnyH_ready (rs := [13]) (by kernel_rfl) (by simp) (AllReadyH.cons (o := _) (List.getElem?_toArray.trans rfl) (fun K hK => ?_) (AllReadyH.nil))
        go_simp
        refine hK.out _ _ ?_ (fun hHeld => ?_)
        · try dsimp only
          exact HMK.out _ (hHeld.2.2.alloc _)
        clear hK K
        try simp only [Act.put, List.setIfInBounds_toArray, List.set_cons_zero, List.set_cons_succ]
        refine wpAnyH_take (i := 16) (oi := _) (v := ?_) (List.getElem?_toArray.trans rfl) (by kernel_rfl) (by kernel_rfl) (by kernel_rfl) (fun _ _ _ h => h) (Or.inl ⟨by rfl, by (intro w' hSw; (try dsimp only at hSw); go_simp; first | done | with_reducible rfl)⟩) (by assumption) ?_
        simp only [Act.put, List.setIfInBounds_toArray, List.set_cons_zero, List.set_cons_succ]
        refine wpAnyH_ready (rs := [17]) (by kernel_rfl) (by simp) (AllReadyH.cons (o := _) (List.getElem?_toArray.trans rfl) (fun K hK => ?_) (AllReadyH.nil))
        go_simp
        refine hK.out _ _ ?_ (fun hHeld => ?_)
        · try dsimp only
          exact hHeld
        clear hK K
        try simp only [Act.put, List.setIfInBounds_toArray, List.set_cons_zero, List.set_cons_succ]
        refine wpAnyH_take (i := 18) (oi := _) (v := ?_) (List.getElem?_toArray.trans rfl) (by kernel_rfl) (by kernel_rfl) (by kernel_rfl) (fun _ _ _ h => h) (Or.inl ⟨by rfl, by (intro w' hSw; (try dsimp only at hSw); go_simp; first | done | with_reducible rfl)⟩) (by assumption) ?_
        simp only [Act.put, List.setIfInBounds_toArray, List.set_cons_zero, List.set_cons_succ]
        refine wpAnyH_done (by kernel_rfl) ?_ _
        go_wp2
        go_ret
        exact ⟨_, rfl, by first | assumption | exact (u32_bd _).1, by first | assumption | exact (u32_bd _).2, hHeld.2.2.1, KB.out.2.trans hHeld.2.2.2⟩
end Go.Proofs.YtekhggaafeonjaaDoor
