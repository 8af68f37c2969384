/- Walk of prefix.Blocks. -/
import Derived.Test.YtekhggaafeonjaaDoorApp
import Derived.Test.YtekhggaafeonjaaDoorBlkM
namespace Go.Proofs.YtekhggaafeonjaaDoor
open Go.RowKit
theorem infoRng : (Tryd.prog.info? 44).map (fun i => (i.zero, i.size, i.bytes)) = some (some (.agg #[.int .u32 0, .int .u32 0]), 2, 8) := by kernel_rfl
theorem u64_wrap (n : Int) (h0 : 0 ≤ n) (h1 : n ≤ 18446744073709551615) : IntKind.u64.wrap n = n := by simp [IntKind.wrap, IntKind.bits, IntKind.signed]; omega
theorem u32_wrap (n : Int) (h0 : 0 ≤ n) (h1 : n ≤ 4294967295) : IntKind.u32.wrap n = n := by simp [IntKind.wrap, IntKind.bits, IntKind.signed]; omega
set_option maxHeartbeats 1000000 in
theorem prefix_Blocks_no (lo hi width : Int) (hh0 : 0 ≤ hi) (hh1 : hi ≤ 4294967295) (hbad : badB lo hi width = true) (w : World) :
    Calls Tryd.prog 25 #[.agg #[.int .u32 lo, .int .u32 hi], .int .i64 width] w fun e w' => e = .returned (.slice none 0 0) ∧ Below w.heap.size w w' := by
  unfold badB at hbad
  have hwr : IntKind.u64.wrap hi = hi := u64_wrap hi hh0 (by omega)
  rcases Bool.eq_false_or_eq_true (decide (width < 0)) with g0 | g0
  · clear hbad
    go_enter Tryd.func25, Tryd.ntmps25
    go_wp2
    go_ret
    exact ⟨rfl, by ((repeat (first | exact Below.refl _ _ | refine Below.drew ?_ | refine Below.setCell ?_ (by first | (simp; done) | (simp; omega) | omega) _ | refine Below.alloc ?_ (by first | (simp; done) | (simp; omega) | omega) _)); done)⟩
  rcases Bool.eq_false_or_eq_true (decide (32 < width)) with g1 | g1
  · clear hbad
    go_enter Tryd.func25, Tryd.ntmps25
    go_wp2
    go_ret
    exact ⟨rfl, by ((repeat (first | exact Below.refl _ _ | refine Below.drew ?_ | refine Below.setCell ?_ (by first | (simp; done) | (simp; omega) | omega) _ | refine Below.alloc ?_ (by first | (simp; done) | (simp; omega) | omega) _)); done)⟩
  rcases Bool.eq_false_or_eq_true (decide (hi < lo)) with g2 | g2
  · clear hbad
    go_enter Tryd.func25, Tryd.ntmps25
    go_wp2
    go_ret
    exact ⟨rfl, by ((repeat (first | exact Below.refl _ _ | refine Below.drew ?_ | refine Below.setCell ?_ (by first | (simp; done) | (simp; omega) | omega) _ | refine Below.alloc ?_ (by first | (simp; done) | (simp; omega) | omega) _)); done)⟩
  · have h0 : 0 ≤ width := by simpa using g0
    have h1 : width ≤ 32 := by simpa using g1
    have h3 : 2 ^ width.toNat ≤ hi := by rw [g0, g1, g2] at hbad; simpa using hbad
    obtain ⟨wd, rfl⟩ := Int.eq_ofNat_of_zero_le h0
    have hp := two_pos wd
    have hl := two_le wd (by omega)
    rw [Int.toNat_natCast] at h3
    have hsh : (2 : Int) ^ wd % 18446744073709551616 = 2 ^ wd := Int.emod_eq_of_lt (by omega) (by omega)
    clear hbad g0 g1
    go_enter Tryd.func25, Tryd.ntmps25
    go_wp2
    go_ret
    exact ⟨rfl, by ((repeat (first | exact Below.refl _ _ | refine Below.drew ?_ | refine Below.setCell ?_ (by first | (simp; done) | (simp; omega) | omega) _ | refine Below.alloc ?_ (by first | (simp; done) | (simp; omega) | omega) _)); done)⟩
set_option maxHeartbeats 2000000 in
theorem prefix_Blocks_yes (lo hi width : Int) (hl0 : 0 ≤ lo) (hl1 : lo ≤ 4294967295) (hh0 : 0 ≤ hi) (hh1 : hi ≤ 4294967295) (hbad : badB lo hi width = false) (w : World) :
    Calls Tryd.prog 25 #[.agg #[.int .u32 lo, .int .u32 hi], .int .i64 width] w fun e w' => ∃ v, e = .returned v ∧ w'.ownsRow w.heap.size 44 2 v (blocksP lo hi width).length (rngCells (blocksP lo hi width)) ∧ Below w.heap.size w w' := by
  have hx : blocksP lo hi width = pblk width.toNat (hi + 1 - lo).toNat lo (hi + 1) := by rw [blocksP, if_neg (by rw [hbad]; exact Bool.false_ne_true)]
  rw [hx]
  clear hx
  simp only [badB, Bool.or_eq_false_iff] at hbad
  obtain ⟨g0, g1, g2, g3⟩ := hbad
  have h0 : 0 ≤ width := by simpa using g0
  have h1 : width ≤ 32 := by simpa using g1
  obtain ⟨wd, rfl⟩ := Int.eq_ofNat_of_zero_le h0
  rw [Int.toNat_natCast] at *
  have h2 : lo ≤ hi := by simpa using g2
  have h3 : hi < 2 ^ wd := by simpa using g3
  have hp := two_pos wd
  have hl := two_le wd (by omega)
  have hsh : (2 : Int) ^ wd % 18446744073709551616 = 2 ^ wd := Int.emod_eq_of_lt (by omega) (by omega)
  have hwh : IntKind.u64.wrap hi = hi := u64_wrap hi hh0 (by omega)
  have hwl : IntKind.u64.wrap lo = lo := u64_wrap lo hl0 (by omega)
  clear g0 g1 g2 g3 h0
  go_enter Tryd.func25, Tryd.ntmps25
  go_wp2
  refine wp_region_later (by kernel_rfl) (by kernel_rfl) ?_
  repeat (go_big_quiet_step ((fail)))
  refine wpQuiet_nil ?_
  intro w2 hw'
  have hb2 := ext_below hw'
  clear hw'
  obtain ⟨hc2, hf2⟩ := bcell hb2
  have hs2 := hb2.size
  try simp at hs2
  go_wp2
  clear hsh hwh hwl
  go_loopw [5, 6] (fun v l wr => ∃ (cur : Int) (xs : List (Int × Int)), l = .int .u64 cur ∧ lo ≤ cur ∧ cur ≤ hi + 1 ∧ (xs.length : Int) ≤ cur - lo ∧ pblk wd (hi + 1 - lo).toNat lo (hi + 1) = xs ++ pblk wd (hi + 1 - cur).toNat cur (hi + 1) ∧ wr.ownsRow w.heap.size 44 2 v xs.length (rngCells xs) ∧ Below w.heap.size w wr)
    (fun _ l _ => (hi + 1 - intOf l).toNat)
  case atStart => exact ⟨lo, [], rfl, by omega, by omega, by simp, rfl, World.ownsRow_nil _ _ _ _, by ((repeat (first | exact Below.refl _ _ | refine Below.drew ?_ | refine Below.setCell ?_ (by first | (simp; done) | (simp; omega) | omega) _ | refine Below.alloc ?_ (by first | (simp; done) | (simp; omega) | omega) _ | refine Below.trans ?_ (Below.mono hb2 (by first | (simp; done) | (simp; omega) | omega)))); done)⟩
  case round =>
    obtain ⟨cur, xs, rfl, hc1, hc2', hn, hgo, hown, hb⟩ := hrel
    clear hb2 hc2 hf2 hs2
    have hsz := hb.size
    by_cases hlt : cur < hi + 1
    · have HG := Lib.hid hgo
      have HW := Lib.hid (show (2 : Int) ^ wd % 18446744073709551616 = 2 ^ wd from Int.emod_eq_of_lt (by omega) (by omega))
      have hsh := HW.out
      obtain ⟨wo, rfl⟩ : ∃ wo : World, wo = wr := ⟨_, rfl⟩
      clear hgo
      go_wp2
      clear hsh
      go_loop [8] (fun z => ∃ (j : Nat) (v : Int), j ≤ wd ∧ z = .int .u64 v ∧ v = 2 ^ j ∧ bsz wd cur (hi + 1 - cur) = bsz j cur (hi + 1 - cur)) (fun z => (intOf z).toNat)
      case atStart => exact ⟨wd, 2 ^ wd, Nat.le_refl _, rfl, rfl, rfl⟩
      case round =>
        obtain ⟨j, v, hj, rfl, hv, hbs⟩ := hrel
        have hv1 : 1 ≤ v := by rw [hv]; exact two_pos j
        have hv2 : v ≤ 4294967296 := by rw [hv]; exact two_le j (by omega)
        have HV := Lib.hid hv
        have HB := Lib.hid hbs
        have hstep : ¬ (cur % v = 0 ∧ v ≤ hi + 1 - cur) → ∃ i, j = i + 1 ∧ v / 2 = 2 ^ i ∧ bsz wd cur (hi + 1 - cur) = bsz i cur (hi + 1 - cur) := fun hno => by
          cases j with
          | zero => exact absurd ⟨by rw [hv]; simp, by rw [hv]; simp; omega⟩ hno
          | succ i => exact ⟨i, rfl, by rw [hv, Int.pow_succ]; omega, by rw [hbs]; exact bsz_miss i _ _ (by rw [← hv]; exact hno)⟩
        have HS := Lib.hid hstep
        clear hv hbs hstep
        rcases Bool.eq_false_or_eq_true (cur % v == 0) with gm | gm
        · have gm' : (cur % v != 0) = false := by simp [bne, gm]
          by_cases gr : hi + 1 - cur < v
          · go_wp2
            go_round
            case rel =>
              obtain ⟨i, rfl, h1, h2⟩ := HS.out (by omega)
              exact ⟨i, v / 2, by omega, rfl, h1, h2⟩
            case measure => simp [intOf]; omega
          · have hbz : bsz wd cur (hi + 1 - cur) = v := by rw [HB.out, HV.out]; exact bsz_hit _ _ _ (by rw [← HV.out]; exact eq_of_beq gm) (by rw [← HV.out]; omega)
            have HZ := Lib.hid hbz
            have hw1 : IntKind.u32.wrap cur = cur := u32_wrap cur (by omega) (by omega)
            have hw2 : IntKind.u32.wrap (cur + v - 1) = cur + v - 1 := u32_wrap _ (by omega) (by omega)
            clear hbz
            go_wp2_with (at_builtin; refine wpList_append_new rfl _ _ 45 rfl w.heap.size 44 _ (.agg #[.int .u32 0, .int .u32 0]) 2 8 Tryd.underlying45 infoRng rfl (by decide) _ _ _ rfl hown _ rfl rfl (by intro u hu; simp at hu; rcases hu with rfl | rfl <;> rfl) (by omega) (by decide) hsz ?_; intro v1 w1 h1 hb1 _ _)
            go_roundw
            case rel =>
              refine ⟨cur + v, xs ++ [(cur, cur + v - 1)], rfl, by omega, by omega, by simp; omega, ?_, by rw [rngCells_snoc, List.length_append]; exact h1, hb.trans hb1⟩
              rw [HG.out, pblk_step wd cur (hi + 1) hlt, HZ.out, List.append_assoc]; rfl
            case measure => simp [intOf]; omega
        · have gm' : (cur % v != 0) = true := by simp [bne, gm]
          go_wp2
          go_round
          case rel =>
            obtain ⟨i, rfl, h1, h2⟩ := HS.out (fun h => by rw [h.1] at gm; exact absurd gm (by decide))
            exact ⟨i, v / 2, by omega, rfl, h1, h2⟩
          case measure => simp [intOf]; omega
    · obtain rfl : cur = hi + 1 := by omega
      rw [pblk_end, List.append_nil] at hgo
      have HG := Lib.hid hgo
      clear hgo
      go_wp2
      go_ret
      exact ⟨_, rfl, by rw [HG.out]; exact hown, hb⟩
theorem prefix_Blocks (lo hi width : Int) (hl0 : 0 ≤ lo) (hl1 : lo ≤ 4294967295) (hh0 : 0 ≤ hi) (hh1 : hi ≤ 4294967295) {xs : List (Int × Int)} (hx : blocksP lo hi width = xs) (w : World) :
    Calls Tryd.prog 25 #[.agg #[.int .u32 lo, .int .u32 hi], .int .i64 width] w fun e w' => ∃ v, e = .returned v ∧ w'.ownsRow w.heap.size 44 2 v xs.length (rngCells xs) ∧ Below w.heap.size w w' := by
  subst hx
  rcases Bool.eq_false_or_eq_true (badB lo hi width) with h | h
  · refine (prefix_Blocks_no lo hi width hh0 hh1 h w).mono fun e w' ⟨he, hb⟩ => ⟨_, he, ?_, hb⟩
    rw [blocksP, if_pos h]; exact World.ownsRow_nil _ _ _ _
  · exact prefix_Blocks_yes lo hi width hl0 hl1 hh0 hh1 h w
/-- a slice that is not empty, as it lies -/
theorem own_some {w : World} {B : Nat} {e : TypeId} {size : Nat} {v : Value} {n : Nat} {xs : List Value} (h : w.ownsRow B e size v n xs) (hn : n ≠ 0) :
    ∃ g cap, v = .slice (some ⟨g, 0, none⟩) n cap ∧ B ≤ g ∧ g < w.heap.size ∧ n ≤ cap ∧ cap ≤ maxLen ∧ ∀ j (u : Value), xs[j]? = some u → w.cell? ⟨g, j, none⟩ = some u := by
  have hc := fun g (hg : v.ownBlock = some g) => h.cells hg
  have hlt := h.lt
  rcases h.2 with ⟨_, h0⟩ | ⟨g, cap, cur, rfl, hB, hh, hcap, hm, _⟩
  · exact absurd h0 hn
  · refine ⟨g, cap, rfl, hB, (hlt g rfl).2, hcap, hm, fun j u hj => ?_⟩
    have := hc g rfl j u hj
    rwa [show (⟨g, 0, none⟩ : Addr).add j = ⟨g, j, none⟩ by simp only [Addr.add, Nat.zero_add]; split <;> simp_all] at this
end Go.Proofs.YtekhggaafeonjaaDoor
