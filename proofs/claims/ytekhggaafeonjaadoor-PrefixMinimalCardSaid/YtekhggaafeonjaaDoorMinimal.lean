/- The walk of the statement PrefixMinimal. -/
import Derived.Test.YtekhggaafeonjaaDoorSane1
import Derived.Test.YtekhggaafeonjaaDoorMinM
namespace Go.Proofs.YtekhggaafeonjaaDoor
open Go.RowKit
structure MinAt (xs : List (Int × Int)) (lo e v : Int) (k : Nat) (cur last : Int) (ins : Bool) : Prop where
  kle : k ≤ xs.length
  drop : xs.drop k = pblk 32 (e - cur).toNat cur e
  c0 : lo ≤ cur
  c1 : cur ≤ e
  ins' : ins = (decide (lo ≤ v) && decide (v < cur))
  last' : 0 < k → 1 ≤ last ∧ lo ≤ cur - last ∧ bsz 32 (cur - last) (e - (cur - last)) = last
theorem MinAt.step {xs : List (Int × Int)} {lo e v : Int} {k : Nat} {cur last : Int} {ins : Bool} (h : MinAt xs lo e v k cur last ins) (hk : k < xs.length) (he : e ≤ 4294967296) (hlo : 0 ≤ lo) :
    ∃ N, 1 ≤ N ∧ N ≤ e - cur ∧ xs[k]? = some (cur, cur + N - 1) ∧ bits .and .u64 N (N - 1) = 0 ∧ cur % N = 0 ∧ (0 < k → last = N → N ≤ cur ∧ ¬ (cur - N) % (2 * N) = 0) ∧
      MinAt xs lo e v (k + 1) (cur + N) N (ins || (decide (cur ≤ v) && decide (v ≤ cur + N - 1))) := by
  have hc0 := h.c0
  have hlt : cur < e := by
    rcases Int.lt_or_eq_of_le h.c1 with g | g
    · exact g
    · have := h.drop
      rw [g, pblk_end] at this
      have := congrArg List.length this
      simp at this; omega
  obtain ⟨j, hj, hb, hm, hr, _⟩ := bsz_form 32 cur (e - cur) (by omega)
  have hp := two_pos j
  have e32 : (2 : Int) ^ 32 = 4294967296 := by decide
  have hd := h.drop
  rw [pblk_step 32 cur e hlt, hb] at hd
  refine ⟨2 ^ j, hp, hr, ?_, pow_and j hj, hm, fun h0 hl => ?_, ⟨hk, ?_, by omega, by omega, ?_, fun _ => ⟨hp, by omega, ?_⟩⟩⟩
  · have := congrArg (·[0]?) hd
    simpa using this
  · have hla := h.last' h0
    rw [hl] at hla
    refine ⟨by omega, bsz_apart 32 (cur - 2 ^ j) e (2 ^ j) (by rw [e32]; exact he) (by omega) hla.2.2 (by omega) (by omega)⟩
  · have := congrArg List.tail hd
    simpa using this
  · rw [h.ins', Bool.eq_iff_iff]; simp; omega
  · rw [show cur + 2 ^ j - 2 ^ j = cur by omega]; exact hb
theorem rngCells_at (xs : List (Int × Int)) (k : Nat) (a b : Int) (h : xs[k]? = some (a, b)) : (rngCells xs)[k * 2]? = some (.int .u32 a) ∧ (rngCells xs)[k * 2 + 1]? = some (.int .u32 b) := by
  induction xs generalizing k with
  | nil => simp at h
  | cons p xs ih =>
    cases k with
    | zero => simp at h; subst h; simp [rngCells]
    | succ k =>
      have := ih k (by simpa using h)
      have e : rngCells (p :: xs) = .int .u32 p.1 :: .int .u32 p.2 :: rngCells xs := by simp [rngCells]
      rw [e, show (k + 1) * 2 = k * 2 + 1 + 1 by omega, show k * 2 + 1 + 1 + 1 = k * 2 + 1 + 1 + 1 from rfl]
      simpa using this
set_option maxHeartbeats 1000000 in
theorem law_PrefixMinimal_no (lo hi v : Int) (hl0 : 0 ≤ lo) (hl1 : lo ≤ 4294967295) (hh0 : 0 ≤ hi) (hh1 : hi ≤ 4294967295) (hlt : hi < lo) (w : World) (htab : Lib.TabIs Tryd.prog w "internal/strconv.uint64pow10" .u64 Lib.pow10Tab) :
    Calls Tryd.prog 5 #[.agg #[.int .u32 lo, .int .u32 hi], .int .u32 v] w fun e w' => e = .returned (.bool true) ∧ Below w.heap.size w w' := by
  have HT := Lib.hid htab
  clear htab
  have hbad : badB lo hi 32 = true := by simp [badB, hlt]
  go_enter Tryd.func5, Tryd.ntmps5
  go_wp2_with (first | (go_at_call 25; refine (prefix_Blocks_no lo hi 32 hh0 hh1 hbad _).mono ?_; rintro e w2 ⟨rfl, hb2⟩; obtain ⟨hc2, hf2⟩ := bcell hb2; have hs2 := hb2.size; (try simp at hs2)) | (go_at_call 22; refine (law1_sane _ (tab_below HT.out (Nat.le_refl _) (show Below w.heap.size w w2 by ((repeat (first | exact Below.refl _ _ | refine Below.drew ?_ | refine Below.setCell ?_ (by first | (simp; done) | (simp; omega) | omega) _ | refine Below.alloc ?_ (by first | (simp; done) | (simp; omega) | omega) _ | refine Below.trans ?_ (Below.mono hb2 (by first | (simp; done) | (simp; omega) | omega)))); done)))).mono ?_; rintro e w3 ⟨rfl, hb3⟩))
  go_ret
  exact ⟨rfl, by ((repeat (first | exact Below.refl _ _ | refine Below.drew ?_ | refine Below.setCell ?_ (by first | (simp; done) | (simp; omega) | omega) _ | refine Below.alloc ?_ (by first | (simp; done) | (simp; omega) | omega) _ | refine Below.trans ?_ (Below.mono hb3 (by first | (simp; done) | (simp; omega) | omega)) | refine Below.trans ?_ (Below.mono hb2 (by first | (simp; done) | (simp; omega) | omega)))); done)⟩
set_option maxHeartbeats 2000000 in
set_option maxRecDepth 100000 in
theorem law_PrefixMinimal_yes (lo hi v : Int) (hl0 : 0 ≤ lo) (hl1 : lo ≤ 4294967295) (hh0 : 0 ≤ hi) (hh1 : hi ≤ 4294967295) (hle : lo ≤ hi) (w : World) (htab : Lib.TabIs Tryd.prog w "internal/strconv.uint64pow10" .u64 Lib.pow10Tab) :
    Calls Tryd.prog 5 #[.agg #[.int .u32 lo, .int .u32 hi], .int .u32 v] w fun e w' => e = .returned (.bool true) ∧ Below w.heap.size w w' := by
  have HT := Lib.hid htab
  clear htab
  have hbl : blocksP lo hi 32 = pblk 32 (hi + 1 - lo).toNat lo (hi + 1) := by
    have : badB lo hi 32 = false := by simp [badB]; omega
    rw [blocksP, if_neg (by rw [this]; exact Bool.false_ne_true)]; rfl
  obtain ⟨xs, hxs⟩ : ∃ xs, blocksP lo hi 32 = xs := ⟨_, rfl⟩
  have hdrop : xs.drop 0 = pblk 32 (hi + 1 - lo).toNat lo (hi + 1) := by rw [← hbl, hxs]; rfl
  have hlen : xs.length ≤ 64 := by rw [← hxs, hbl]; exact blocks_len lo (hi + 1) hl0 (by omega) (by omega)
  have hne : xs.length ≠ 0 := by rw [← hxs, hbl, pblk_step 32 lo (hi + 1) (by omega)]; simp
  have HX := Lib.hid hxs
  have HD := Lib.hid hdrop
  have HN := Lib.hid hne
  clear hxs hdrop hbl hne
  go_enter Tryd.func5, Tryd.ntmps5
  go_wp2_with (go_at_call 25; refine (prefix_Blocks lo hi 32 hl0 hl1 hh0 hh1 HX.out _).mono ?_; rintro e w2 ⟨sv, rfl, hown, hb2⟩; obtain ⟨hc2, hf2⟩ := bcell hb2; obtain ⟨g, cap, rfl, hg0, hg1, hcap, hcm, hcell⟩ := own_some hown HN.out)
  have HC := Lib.hid hcell
  clear hcell hown
  have z2 : w.heap.size < w2.heap.size := by have := hb2.size; simp at this; omega
  have c0 : w2.cell? ⟨w.heap.size, 0, none⟩ = some (.int .u32 lo) := by simp [go_sem, hc2]
  have c1 : w2.cell? ⟨w.heap.size, 1, none⟩ = some (.int .u32 hi) := by simp [go_sem, hc2]
  have HB2 : Below w.heap.size w w2 := by ((repeat (first | exact Below.refl _ _ | refine Below.drew ?_ | refine Below.setCell ?_ (by first | (simp; done) | (simp; omega) | omega) _ | refine Below.alloc ?_ (by first | (simp; done) | (simp; omega) | omega) _ | refine Below.trans ?_ (Below.mono hb2 (by first | (simp; done) | (simp; omega) | omega)))); done)
  have HB := Lib.hid HB2
  clear HB2 hb2 hc2 hf2
  go_loopw [6, 7, 8, 9] (fun at' last ins i wr => ∃ (k : Nat) (cur la : Int) (b : Bool), i = .int .i64 k ∧ at' = .int .u64 cur ∧ last = .int .u64 la ∧ ins = .bool b ∧ MinAt xs lo (hi + 1) v k cur la b ∧ 0 ≤ la ∧ la ≤ 4294967296 ∧ Below w2.heap.size w2 wr) (fun _ _ _ i _ => xs.length - (intOf i).toNat)
  case atStart =>
    refine ⟨0, lo, 0, false, rfl, by simp, rfl, rfl, ⟨Nat.zero_le _, HD.out, by omega, by omega, ?_, fun h => absurd h (by omega)⟩, by omega, by omega, Below.refl _ _⟩
    rw [eq_comm, Bool.and_eq_false_iff]; simp; omega
  case round =>
    obtain ⟨k, cur, la, b, rfl, rfl, rfl, rfl, hat, hla0, hla1, hb⟩ := hrel
    obtain ⟨hcr, hfr⟩ := bcell hb
    have hsr := hb.size
    have hg3 : g < wr.heap.size := by omega
    by_cases hlt : k < xs.length
    · have hcur0 : 0 ≤ cur := by have := hat.c0; omega
      have hcur1 := hat.c1
      obtain ⟨N, hN1, hN2, hxk, hand, hmod, hap, hnext⟩ := hat.step hlt (by omega) hl0
      have hq := rngCells_at xs k _ _ hxk
      have q0 := HC.out _ _ hq.1
      have q1 := HC.out _ _ hq.2
      obtain ⟨h, hh⟩ : ∃ h, cur + N - 1 = h := ⟨_, rfl⟩
      rw [hh] at q1 hnext
      have hN : h - cur + 1 = N := by omega
      have hch : cur ≤ h := by omega
      have hhi : h ≤ 4294967295 := by omega
      have gA : decide (h < cur) = false := by simp; omega
      have gC : (cur % N != 0) = false := by simp [hmod]
      have HAP := Lib.hid hap
      have HNX := Lib.hid hnext
      have HNN := Lib.hid hN
      have HH := Lib.hid hh
      have HAT := Lib.hid hat
      have hcurN : N ≤ cur → IntKind.u64.wrap (cur - N) = cur - N := fun h => u64_wrap _ (by omega) (by omega)
      have HW := Lib.hid hcurN
      have hw6 : IntKind.u64.wrap (2 * N) = 2 * N := u64_wrap _ (by omega) (by omega)
      have hw7 : IntKind.u64.wrap (N - 1) = N - 1 := u64_wrap _ (by omega) (by omega)
      have hw8 : IntKind.u64.wrap cur = cur := u64_wrap _ (by omega) (by omega)
      have hw9 : IntKind.u64.wrap h = h := u64_wrap _ (by omega) (by omega)
      clear hxk hap hnext hh hat hmod hq hN hcurN
      go_wp2
      refine wp_region_later (by kernel_rfl) (by kernel_rfl) ?_
      repeat (go_big_quiet_step ((fail)))
      refine wpQuiet_nil ?_
      intro w4 hw'
      have hb4 := ext_below hw'
      clear hw'
      obtain ⟨hc4, hf4⟩ := bcell hb4
      have hs4 := hb4.size
      try simp at hs4
      have hg4 : g < w4.heap.size := by omega
      rw [HNN.out]
      have hlk : k < xs.length := hlt
      rcases Bool.eq_false_or_eq_true (decide (0 < k)) with gk | gk
      · rcases Bool.eq_false_or_eq_true (la == N) with gl | gl
        · have hap := HAP.out (by simpa using gk) (eq_of_beq gl)
          have hw5 := HW.out hap.1
          have gE : ((cur - N) % (2 * N) == 0) = false := by simpa using hap.2
          have hap1 := hap.1
          clear hap
          go_wp2
          refine wp_region_later (by kernel_rfl) (by kernel_rfl) ?_
          repeat (go_big_quiet_step ((fail)))
          refine wpQuiet_nil ?_
          intro w5 hw'
          have hb5 := ext_below hw'
          clear hw'
          obtain ⟨hc5, hf5⟩ := bcell hb5
          have hs5 := hb5.size
          try simp at hs5
          clear hw5 gE hap1 gl gk
          clear hw6 hw7 hw8 hw9 gA gC hand hc4 hf4
          have hg5 : g < w5.heap.size := by omega
          have hbw : Below w2.heap.size w2 w5 := (hb.trans (hb4.mono hsr)).trans (hb5.mono (by omega))
          have HBW := Lib.hid hbw
          have q0' : w5.cell? ⟨g, k * 2, none⟩ = some (.int .u32 cur) := (hbw.cell (p := ⟨g, k * 2, none⟩) hg1).trans q0
          have q1' : w5.cell? ⟨g, k * 2 + 1, none⟩ = some (.int .u32 h) := (hbw.cell (p := ⟨g, k * 2 + 1, none⟩) hg1).trans q1
          clear hbw hc5 hf5 hb5 hb4 hb hcr hfr q0 q1
          rcases Bool.eq_false_or_eq_true (decide (cur ≤ v)) with g1 | g1
          all_goals rcases Bool.eq_false_or_eq_true (decide (v ≤ h)) with g2 | g2
          all_goals cases b
          all_goals
            have HNX2 := Lib.hid HNX.out
            rw [g1, g2] at HNX2
            go_wp2
            go_roundw
            case rel => exact ⟨k + 1, cur + N, N, _, by go_num, rfl, rfl, rfl, HNX2.out, by omega, by omega, HBW.out⟩
            case measure => simp [intOf]; omega
        · go_wp2
          refine wp_region_later (by kernel_rfl) (by kernel_rfl) ?_
          repeat (go_big_quiet_step ((fail)))
          refine wpQuiet_nil ?_
          intro w5 hw'
          have hb5 := ext_below hw'
          clear hw'
          obtain ⟨hc5, hf5⟩ := bcell hb5
          have hs5 := hb5.size
          try simp at hs5
          clear gl gk
          clear hw6 hw7 hw8 hw9 gA gC hand hc4 hf4
          have hg5 : g < w5.heap.size := by omega
          have hbw : Below w2.heap.size w2 w5 := (hb.trans (hb4.mono hsr)).trans (hb5.mono (by omega))
          have HBW := Lib.hid hbw
          have q0' : w5.cell? ⟨g, k * 2, none⟩ = some (.int .u32 cur) := (hbw.cell (p := ⟨g, k * 2, none⟩) hg1).trans q0
          have q1' : w5.cell? ⟨g, k * 2 + 1, none⟩ = some (.int .u32 h) := (hbw.cell (p := ⟨g, k * 2 + 1, none⟩) hg1).trans q1
          clear hbw hc5 hf5 hb5 hb4 hb hcr hfr q0 q1
          rcases Bool.eq_false_or_eq_true (decide (cur ≤ v)) with g1 | g1
          all_goals rcases Bool.eq_false_or_eq_true (decide (v ≤ h)) with g2 | g2
          all_goals cases b
          all_goals
            have HNX2 := Lib.hid HNX.out
            rw [g1, g2] at HNX2
            go_wp2
            go_roundw
            case rel => exact ⟨k + 1, cur + N, N, _, by go_num, rfl, rfl, rfl, HNX2.out, by omega, by omega, HBW.out⟩
            case measure => simp [intOf]; omega
      · go_wp2
        refine wp_region_later (by kernel_rfl) (by kernel_rfl) ?_
        repeat (go_big_quiet_step ((fail)))
        refine wpQuiet_nil ?_
        intro w5 hw'
        have hb5 := ext_below hw'
        clear hw'
        obtain ⟨hc5, hf5⟩ := bcell hb5
        have hs5 := hb5.size
        try simp at hs5
        clear gk
        clear hw6 hw7 hw8 hw9 gA gC hand hc4 hf4
        have hg5 : g < w5.heap.size := by omega
        have hbw : Below w2.heap.size w2 w5 := (hb.trans (hb4.mono hsr)).trans (hb5.mono (by omega))
        have HBW := Lib.hid hbw
        have q0' : w5.cell? ⟨g, k * 2, none⟩ = some (.int .u32 cur) := (hbw.cell (p := ⟨g, k * 2, none⟩) hg1).trans q0
        have q1' : w5.cell? ⟨g, k * 2 + 1, none⟩ = some (.int .u32 h) := (hbw.cell (p := ⟨g, k * 2 + 1, none⟩) hg1).trans q1
        clear hbw hc5 hf5 hb5 hb4 hb hcr hfr q0 q1
        rcases Bool.eq_false_or_eq_true (decide (cur ≤ v)) with g1 | g1
        all_goals rcases Bool.eq_false_or_eq_true (decide (v ≤ h)) with g2 | g2
        all_goals cases b
        all_goals
          have HNX2 := Lib.hid HNX.out
          rw [g1, g2] at HNX2
          go_wp2
          go_roundw
          case rel => exact ⟨k + 1, cur + N, N, _, by go_num, rfl, rfl, rfl, HNX2.out, by omega, by omega, HBW.out⟩
          case measure => simp [intOf]; omega
    · have hkl : k = xs.length := by have := hat.kle; omega
      have hce : cur = hi + 1 := by
        have hd := hat.drop
        rw [hkl, List.drop_length] at hd
        rcases Int.lt_or_eq_of_le hat.c1 with g | g
        · rw [pblk_step 32 cur (hi + 1) g] at hd; cases hd
        · exact g
      have hins := hat.ins'
      subst hce
      clear hat hkl
      have hwh : IntKind.u64.wrap hi = hi := u64_wrap _ (by omega) (by omega)
      have hbw := HB.out.trans (hb.mono (Nat.le_of_lt z2))
      have HT3 := Lib.hid (tab_below HT.out (Nat.le_refl _) hbw)
      have HBW := Lib.hid hbw
      have hzr := hbw.size
      clear hbw
      rcases Bool.eq_false_or_eq_true (decide (lo ≤ v)) with g1 | g1
      all_goals rcases Bool.eq_false_or_eq_true (decide (v ≤ hi)) with g2 | g2
      all_goals
        have g3 : decide (v < hi + 1) = decide (v ≤ hi) := by rw [Bool.eq_iff_iff]; simp; omega
        rw [g3, g1, g2] at hins
        subst hins
        clear g3
        go_wp2_with (go_at_call 22; refine (law1_sane _ HT3.out).mono ?_; rintro e w3 ⟨rfl, hb3⟩)
        go_ret
        exact ⟨rfl, HBW.out.trans (hb3.mono hzr)⟩
theorem law_PrefixMinimal (lo hi v : Int) (hl0 : 0 ≤ lo) (hl1 : lo ≤ 4294967295) (hh0 : 0 ≤ hi) (hh1 : hi ≤ 4294967295) (w : World) (htab : Lib.TabIs Tryd.prog w "internal/strconv.uint64pow10" .u64 Lib.pow10Tab) :
    Calls Tryd.prog 5 #[.agg #[.int .u32 lo, .int .u32 hi], .int .u32 v] w fun e w' => e = .returned (.bool true) ∧ Below w.heap.size w w' := by
  by_cases h : hi < lo
  · exact law_PrefixMinimal_no lo hi v hl0 hl1 hh0 hh1 h w htab
  · exact law_PrefixMinimal_yes lo hi v hl0 hl1 hh0 hh1 (by omega) w htab
end Go.Proofs.YtekhggaafeonjaaDoor
