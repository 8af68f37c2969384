/- The walk of the statement PrefixCommon. -/
import Derived.Test.YtekhggaafeonjaaDoorSane1
namespace Go.Proofs.YtekhggaafeonjaaDoor
open Go.RowKit
theorem prefix_ContainsB (a n x : Int) (ha0 : 0 ≤ a) (ha1 : a ≤ 4294967295) (hx0 : 0 ≤ x) (hx1 : x ≤ 4294967295) {b : Bool} (hb : contB a n x = b) (w : World) :
    Calls Tryd.prog 35 #[.agg #[.int .u32 a, .int .i64 n], .int .u32 x] w fun e w' => e = .returned (.bool b) ∧ Below w.heap.size w w' := by
  subst hb; exact prefix_Contains a n x ha0 ha1 hx0 hx1 w
theorem prefix_CommonP (a b : Int) (ha0 : 0 ≤ a) (ha1 : a ≤ 4294967295) (hb0 : 0 ≤ b) (hb1 : b ≤ 4294967295) {p n : Int} (hn : commN a b = n) (hp : a / pw n * pw n = p) (w : World) :
    Calls Tryd.prog 33 #[.int .u32 a, .int .u32 b] w fun e w' => e = .returned (.agg #[.int .u32 p, .int .i64 n]) ∧ Below w.heap.size w w' := by
  subst hn; subst hp; exact prefix_Common a b ha0 ha1 hb0 hb1 w
set_option maxHeartbeats 1000000 in
theorem law_PrefixCommon (a b : Int) (ha0 : 0 ≤ a) (ha1 : a ≤ 4294967295) (hb0 : 0 ≤ b) (hb1 : b ≤ 4294967295) (w : World) (htab : Lib.TabIs Tryd.prog w "internal/strconv.uint64pow10" .u64 Lib.pow10Tab) :
    Calls Tryd.prog 8 #[.int .u32 a, .int .u32 b] w fun e w' => e = .returned (.bool true) ∧ Below w.heap.size w w' := by
  have hnb := commN_bd a b ha0 ha1 hb0 hb1
  have hdiv := commN_div a b ha0 ha1 hb0 hb1
  have hne := commN_ne a b ha0 ha1 hb0 hb1
  have heq := commN_eq a b ha0 ha1 hb0 hb1
  have hcm := commN_comm a b ha0 ha1 hb0 hb1
  obtain ⟨n, hn⟩ : ∃ n, commN a b = n := ⟨_, rfl⟩
  rw [hn] at hnb hdiv hne heq hcm
  obtain ⟨p, hp⟩ : ∃ p, a / pw n * pw n = p := ⟨_, rfl⟩
  have hp2 : b / pw n * pw n = p := by rw [← hdiv]; exact hp
  have hpb : 0 ≤ p ∧ p ≤ 4294967295 := by have := keep_bd a n ha0; omega
  have hpm : p % pw n = 0 := by rw [← hp]; exact keep_mod a n
  have hv : valB p n = true := (valB_iff _ _).2 ⟨hnb.1, hnb.2, hpm⟩
  have hca : contB p n a = true := by rw [← hp]; exact cont_keep a a n hnb.1 hnb.2 rfl
  have hcb : contB p n b = true := by rw [← hp]; exact cont_keep a b n hnb.1 hnb.2 hdiv
  have HT := Lib.hid htab
  by_cases h31 : n ≤ 31
  · obtain ⟨c, k1, k2, k3, k4⟩ := halves_apart a b n hnb.1 h31 hdiv (hne h31)
    rw [hp] at k1 k2 k3 k4
    have hup : p + pw (n + 1) ≤ 4294967295 := by
      have := upper_le p n hpb.2 hnb.1 hpm hpb.1 hnb.2
      have := pw_succ n h31; have := pw_pos (n + 1); omega
    have hup0 : 0 ≤ p + pw (n + 1) := by have := pw_pos (n + 1); omega
    have HH : ∀ w, Calls Tryd.prog 34 #[.agg #[.int .u32 p, .int .i64 n]] w fun e w' => e = .returned (.tuple #[.agg #[.int .u32 p, .int .i64 (n+1)], .agg #[.int .u32 (p + pw (n+1)), .int .i64 (n+1)], .bool true]) ∧ Below w.heap.size w w' := fun w => prefix_Halves_yes p n hpb.1 hpb.2 hv h31 w
    obtain ⟨q, hq⟩ : ∃ q, p + pw (n + 1) = q := ⟨_, rfl⟩
    rw [hq] at k3 k4 hup hup0
    simp only [hq] at HH
    have hab : (a == b) = false := by
      have : ¬ a = b := fun h => by have := heq.2 h; omega
      simpa using this
    have hab' : (a != b) = true := by simp [bne, hab]
    have HN := Lib.hid hn
    have HC := Lib.hid hcm
    have HP := Lib.hid hp
    have HP2 := Lib.hid hp2
    have HH' := Lib.hid HH
    clear hnb hdiv hne heq hcm hn hp hp2 hpm htab hq HH h31
    have K1 := Lib.hid k1
    have K2 := Lib.hid k2
    have K3 := Lib.hid k3
    have K4 := Lib.hid k4
    have HV := Lib.hid hv
    have KA := Lib.hid hca
    have KB := Lib.hid hcb
    clear k1 k2 k3 k4 hv hca hcb
    cases c
    all_goals
      go_enter Tryd.func8, Tryd.ntmps8
      go_wp2_with (first | (go_at_call 33; refine (prefix_CommonP a b ha0 ha1 hb0 hb1 HN.out HP.out _).mono ?_; rintro e w2 ⟨rfl, hb2⟩; obtain ⟨hc2, hf2⟩ := bcell hb2; have hs2 := hb2.size; (try simp at hs2)) | (go_at_call 34; refine (HH'.out _).mono ?_; rintro e w3 ⟨rfl, hb3⟩; obtain ⟨hc3, hf3⟩ := bcell hb3; have hs3 := hb3.size; (try simp at hs3)))
      have z3 : w2.heap.size < w3.heap.size := by have := hb3.size; simp at this; omega
      have z3a : w2.heap.size < w3.heap.size + 1 + 1 := by omega
      refine wp_region_later (by kernel_rfl) (by kernel_rfl) ?_
      repeat (go_big_quiet_step ((first | (go_at_call 35; with_reducible exact calls_later (prefix_ContainsB _ _ _ hpb.1 hpb.2 ha0 ha1 KA.out _)) | (go_at_call 35; with_reducible exact calls_later (prefix_ContainsB _ _ _ hpb.1 hpb.2 hb0 hb1 KB.out _)) | (go_at_call 33; with_reducible exact calls_later (prefix_CommonP b a hb0 hb1 ha0 ha1 HC.out HP2.out _)))))
      refine wpQuiet_nil ?_
      intro w4 hw'
      have hb4 := ext_below hw'
      clear hw'
      obtain ⟨hc4, hf4⟩ := bcell hb4
      have hs4 := hb4.size
      try simp at hs4
      go_wp2
      have HB : Below w.heap.size w w4 := by
        have := hb2.size
        ((repeat (first | exact Below.refl _ _ | refine Below.drew ?_ | refine Below.setCell ?_ (by first | (simp; done) | (simp; omega) | omega) _ | refine Below.alloc ?_ (by first | (simp; done) | (simp; omega) | omega) _ | refine Below.trans ?_ (Below.mono hb4 (by first | (simp; done) | (simp; omega) | omega)) | refine Below.trans ?_ (Below.mono hb3 (by first | (simp; done) | (simp; omega) | omega)) | refine Below.trans ?_ (Below.mono hb2 (by first | (simp; done) | (simp; omega) | omega)))); done)
      have HT4 := Lib.hid (tab_below HT.out (Nat.le_refl _) HB)
      have HB' := Lib.hid HB
      have z4 : w3.heap.size < w4.heap.size := by have := hb4.size; simp at this; omega
      have z4a : w3.heap.size + 1 < w4.heap.size := by have := hb4.size; simp at this; omega
      clear HB
      refine wp_region_later (by kernel_rfl) (by kernel_rfl) ?_
      repeat (go_big_quiet_step ((first | (go_at_call 35; with_reducible exact calls_later (prefix_ContainsB _ _ _ hpb.1 hpb.2 ha0 ha1 K1.out _)) | (go_at_call 35; with_reducible exact calls_later (prefix_ContainsB _ _ _ hpb.1 hpb.2 hb0 hb1 K2.out _)) | (go_at_call 35; with_reducible exact calls_later (prefix_ContainsB _ _ _ hup0 hup ha0 ha1 K3.out _)) | (go_at_call 35; with_reducible exact calls_later (prefix_ContainsB _ _ _ hup0 hup hb0 hb1 K4.out _)) | (go_at_call 22; with_reducible exact calls_later (law1_sane _ (tab_below HT4.out (Nat.le_refl _) (Ext.below _)))))))
      refine wpQuiet_nil ?_
      intro w5 hw'
      have hb5 := ext_below hw'
      clear hw'
      obtain ⟨hc5, hf5⟩ := bcell hb5
      have hs5 := hb5.size
      try simp at hs5
      go_wp2
      go_ret
      exact ⟨rfl, HB'.out.trans (hb5.mono (by have := HB'.out.size; omega))⟩
  · obtain rfl : n = 32 := by omega
    have hab := heq.1 rfl
    subst hab
    have hno : (valB p 32 && !((32 : Int) == 32)) = false := by simp
    have HN := Lib.hid hn
    have HP := Lib.hid hp
    have HV := Lib.hid hv
    have KA := Lib.hid hca
    clear hnb hdiv hne heq hcm hn hp hp2 hpm htab h31 hv hca hcb
    go_enter Tryd.func8, Tryd.ntmps8
    go_wp2_with (first | (go_at_call 33; refine (prefix_CommonP a a ha0 ha1 hb0 hb1 HN.out HP.out _).mono ?_; rintro e w2 ⟨rfl, hb2⟩; obtain ⟨hc2, hf2⟩ := bcell hb2; have hs2 := hb2.size; (try simp at hs2)) | (go_at_call 34; refine (prefix_Halves_no p 32 hpb.1 hpb.2 hno _).mono ?_; rintro e w3 ⟨rfl, hb3⟩; obtain ⟨hc3, hf3⟩ := bcell hb3; have hs3 := hb3.size; (try simp at hs3)))
    have z3 : w2.heap.size < w3.heap.size := by have := hb3.size; simp at this; omega
    have z3a : w2.heap.size < w3.heap.size + 1 + 1 := by omega
    refine wp_region_later (by kernel_rfl) (by kernel_rfl) ?_
    repeat (go_big_quiet_step ((first | (go_at_call 35; with_reducible exact calls_later (prefix_ContainsB _ _ _ hpb.1 hpb.2 ha0 ha1 KA.out _)) | (go_at_call 33; with_reducible exact calls_later (prefix_CommonP a a ha0 ha1 ha0 ha1 HN.out HP.out _)))))
    refine wpQuiet_nil ?_
    intro w4 hw'
    have hb4 := ext_below hw'
    clear hw'
    obtain ⟨hc4, hf4⟩ := bcell hb4
    have hs4 := hb4.size
    try simp at hs4
    go_wp2
    have HB : Below w.heap.size w w4 := by
      have := hb2.size
      ((repeat (first | exact Below.refl _ _ | refine Below.drew ?_ | refine Below.setCell ?_ (by first | (simp; done) | (simp; omega) | omega) _ | refine Below.alloc ?_ (by first | (simp; done) | (simp; omega) | omega) _ | refine Below.trans ?_ (Below.mono hb4 (by first | (simp; done) | (simp; omega) | omega)) | refine Below.trans ?_ (Below.mono hb3 (by first | (simp; done) | (simp; omega) | omega)) | refine Below.trans ?_ (Below.mono hb2 (by first | (simp; done) | (simp; omega) | omega)))); done)
    have HT4 := Lib.hid (tab_below HT.out (Nat.le_refl _) HB)
    have HB' := Lib.hid HB
    clear HB
    refine wp_region_later (by kernel_rfl) (by kernel_rfl) ?_
    repeat (go_big_quiet_step (((go_at_call 22; with_reducible exact calls_later (law1_sane _ (tab_below HT4.out (Nat.le_refl _) (Ext.below _)))))))
    refine wpQuiet_nil ?_
    intro w5 hw'
    have hb5 := ext_below hw'
    clear hw'
    obtain ⟨hc5, hf5⟩ := bcell hb5
    have hs5 := hb5.size
    try simp at hs5
    go_wp2
    go_ret
    exact ⟨rfl, HB'.out.trans (hb5.mono (by have := HB'.out.size; omega))⟩
end Go.Proofs.YtekhggaafeonjaaDoor
