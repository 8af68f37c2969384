/- checksums -/
import Derived.Test.YtobggnpnochnnaaVF
import Derived.Test.YtobggnpnochnnaaCrcM
import Derived.Test.YtobggnpnochnnaaGrpU
namespace Go.Proofs.Ytobggnpnochnnaa.V
open Go.RowKit Go.Proofs.Ytobggnpnochnnaa
set_option linter.unusedVariables false
set_option linter.unusedSimpArgs false
set_option maxHeartbeats 2000000 in
set_option maxRecDepth 20000 in
theorem cSum (w : World) (F : Nat → Prop) (hF : Old F w) (M : MS [] w) (b : Sl Int) (b_w : (slE u8E).wf (Fr F []) w.heap b) :
 Calls Try.prog 63 #[sV b] w fun e w' => e = .returned (.int .u32 (crcL b.xs)) ∧ Tr [] w [] w' := by
 have : b.xs.length ≤ 9223372036854775807 := (b_w).1.len
 refine go Try.func63 rfl 31 rfl [wfF (slE u8E) b] [] hF M ⟨b_w, trivial⟩ trivial ?_
 intro a S
 have hD : ∀ k, In ([] : List BS) k → ¬ F k := fun _ h => h.elim
 refine rs S (la (av rfl)) ?_; clear S; intro a u S
 refine rs S (la (av rfl)) ?_; clear S; intro a u S
 refine wp_seq ?_
 have hn4 : b.xs.length ≤ 9223372036854775807 := ((S.u 0 rfl)).1.len
 refine rs S (tr (mv rfl)<|tr (leni uT28 rfl)<|la (mv rfl)) ?_; clear S; intro a u S
 refine wp_block ?_
 refine lp2 (fun (i : Nat) (r : Int) => [(2, .int .u32 0), (7, sV b), (8, iN b.xs.length), (9, iN i), (3, .int .u32 r)]) (fun (i : Nat) (r : Int) => []) (fun (i : Nat) (r : Int) => i ≤ b.xs.length ∧ inU32 r ∧ r = crcReg (b.xs.take i)) (fun (i : Nat) (r : Int) => b.xs.length - i) S 0 4294967295 (subM rfl) rfl ?_ ?_
 ·exact ⟨Nat.zero_le _, ⟨by decide, by decide⟩, rfl⟩
 clear S; intro i r a u S hR
 obtain ⟨hi, hr32, hr⟩ := hR
 refine rs S (la (lssi rfl rfl)) ?_; clear S; intro a u S
 refine wp_seq ?_
 refine cd S rfl ?_ ?_
 ·intro hc0
  refine wp_skip (then_n (wp_seq (wp_block ?_)))
  obtain ⟨hl7, hu7⟩ : inU8 (b.xs.getD i u8E.dflt) := id (((S.u 0 rfl)).1.wf i (by omega))
  refine rs S (tr (idxi uT28 sZ5 rfl rfl i rfl (by omega) (((S.u 0 rfl)).1.adr (i := i) (by omega)))<|tr (ov fun S=>x_load sC5 (S.e rfl) (((S.u 0 rfl)).1.cell i (by omega) 0 _ rfl))<|la (av rfl)) ?_; clear S; intro a u S
  refine rs S (tr (mv rfl)<|tr (mv rfl)<|tr (ov fun S=>x_conv uT5 uT115 (S.e rfl) (r := (b.xs.getD i u8E.dflt)) (w_u32 (by omega)))<|tr (ov fun S=>x_bxor (S.e rfl) (S.e rfl))<|la (av rfl)) ?_; clear S; intro a u S
  refine rs S (la (mv rfl)) ?_; clear S; intro a u S
  refine wp_block ?_
  refine lp2 (fun (k : Nat) (q : Int) => [(2, .int .u32 0), (7, sV b), (8, iN b.xs.length), (9, iN i), (10, bD (((i : Nat) : Int) < ((b.xs.length : Nat) : Int))), (11, pT (blk b.a) (off b.a + i * 1)), (12, .int .u8 (b.xs.getD i u8E.dflt)), (5, .int .u8 (b.xs.getD i u8E.dflt)), (13, .int .u32 r), (14, .int .u8 (b.xs.getD i u8E.dflt)), (15, .int .u32 (b.xs.getD i u8E.dflt)), (16, .int .u32 (bXor .u32 r (b.xs.getD i u8E.dflt))), (17, iN k), (3, .int .u32 q)]) (fun (k : Nat) (q : Int) => []) (fun (k : Nat) (q : Int) => k ≤ 8 ∧ inU32 q ∧ q = crcRep k (bXor .u32 r (b.xs.getD i u8E.dflt))) (fun (k : Nat) (q : Int) => 8 - k) S 0 (bXor .u32 r (b.xs.getD i u8E.dflt)) (subM rfl) rfl ?_ ?_
  ·exact ⟨Nat.zero_le _, wu32 _, rfl⟩
  clear S; intro k q a u S hR
  obtain ⟨hk, hq32, hq⟩ := hR
  refine rs S (la (lssi rfl rfl)) ?_; clear S; intro a u S
  refine wp_seq ?_
  refine cd S rfl ?_ ?_
  ·intro hc1
   refine wp_skip (then_n (wp_seq (wp_block ?_)))
   refine rs S (tr (mv rfl)<|tr (ov fun S=>x_band (S.e rfl) (S.e rfl))<|la (av rfl)) ?_; clear S; intro a u S
   refine rs S (tr (mv rfl)<|tr (ov fun S=>x_shr (S.e rfl) (S.e rfl) (by omega))<|la (av rfl)) ?_; clear S; intro a u S
   refine rs S (tr (mv rfl)<|la (eqli rfl rfl)) ?_; clear S; intro a u S
   refine cd S rfl ?_ ?_
   ·intro hc2
    refine rg S (tr (mv rfl)<|tr (ov fun S=>x_bxor (S.e rfl) (S.e rfl))<|la (av rfl)) ?_; clear S; intro a u S
    refine blk_n (then_n ?_)
    refine rg S (tr (addi ((k + 1 : Nat) : Int) rfl rfl (w_i64 (by omega)))<|la (mv rfl)) ?_; clear S; intro a u S
    refine then_n ?_
    refine ⟨(k + 1), (bXor .u32 (sHr .u32 q 1) 3988292384), S.re (subM rfl) rfl rfl, ?_, ?_⟩
    ·refine ⟨by omega, by first | exact wu32 _ | exact sHr_in hq32, ?_⟩
     rw [crcRep, ← hq]
     unfold crcBit
     first
     | (rw [if_pos (by assumption)]; done)
     | (rw [if_neg (by assumption)]; done)
     | (rw [if_pos (by assumption)]; rfl)
     | (rw [if_neg (by assumption)]; rfl)
    omega
   intro hc3
   refine wp_skip (blk_n (then_n ?_))
   refine rg S (tr (addi ((k + 1 : Nat) : Int) rfl rfl (w_i64 (by omega)))<|la (mv rfl)) ?_; clear S; intro a u S
   refine then_n ?_
   refine ⟨(k + 1), (sHr .u32 q 1), S.re (subM rfl) rfl rfl, ?_, ?_⟩
   ·refine ⟨by omega, by first | exact wu32 _ | exact sHr_in hq32, ?_⟩
    rw [crcRep, ← hq]
    unfold crcBit
    first
    | (rw [if_pos (by assumption)]; done)
    | (rw [if_neg (by assumption)]; done)
    | (rw [if_pos (by assumption)]; rfl)
    | (rw [if_neg (by assumption)]; rfl)
   omega
  intro hc4
  refine wp_exit (then_e (then_e (blk_e (blk_n (then_n ?_)))))
  refine rg S (tr (addi ((i + 1 : Nat) : Int) rfl rfl (w_i64 (by omega)))<|la (mv rfl)) ?_; clear S; intro a u S
  refine then_n ?_
  refine ⟨(i + 1), q, S.re (subM rfl) rfl rfl, ?_, ?_⟩
  ·refine ⟨by omega, hq32, ?_⟩
   rw [hq, crcReg_up (by omega), ← hr, show k = 8 from by omega]; rfl
  omega
 intro hc5
 refine wp_exit (then_e (then_e (blk_e (then_n ?_))))
 refine rs S (tr (mv rfl)<|tr (ov fun S=>x_cplu32 (S.e rfl))<|la (av rfl)) ?_; clear S; intro a u S
 refine wp_ret ?_
 refine ret1 rfl S.s rfl ?_
 refine ⟨(r1 (vi ?_)), S.m.c⟩
 rw [hr, List.take_of_length_le (by omega)]; rfl
set_option maxHeartbeats 2000000 in
set_option maxRecDepth 20000 in
theorem rCRC (w : World) (F : Nat → Prop) (hF : Old F w) (M : MS [] w) (b : Sl Int) (b_w : (slE u8E).wf (Fr F []) w.heap b) :
 Calls Try.prog 66 #[sV b] w fun e w' => e = .returned (.int .u32 (crcL b.xs)) ∧ Tr [] w [] w' := by
 have : b.xs.length ≤ 9223372036854775807 := (b_w).1.len
 refine go Try.func66 rfl 34 rfl [wfF (slE u8E) b] [] hF M ⟨b_w, trivial⟩ trivial ?_
 intro a S
 have hD : ∀ k, In ([] : List BS) k → ¬ F k := fun _ h => h.elim
 refine rs S (la (av rfl)) ?_; clear S; intro a u S
 refine rs S (la (av rfl)) ?_; clear S; intro a u S
 refine wp_seq ?_
 refine rs S (la (av rfl)) ?_; clear S; intro a u S
 refine wp_block ?_
 refine lp2 (fun (i : Nat) (r : Int) => [(0, sV b), (2, .int .u32 0), (4, iN i), (3, .int .u32 r)]) (fun (i : Nat) (r : Int) => []) (fun (i : Nat) (r : Int) => i ≤ b.xs.length ∧ inU32 r ∧ r = crcReg (b.xs.take i)) (fun (i : Nat) (r : Int) => b.xs.length - i) S 0 4294967295 (subM rfl) rfl ?_ ?_
 ·exact ⟨Nat.zero_le _, ⟨by decide, by decide⟩, rfl⟩
 clear S; intro i r a u S hR
 obtain ⟨hi, hr32, hr⟩ := hR
 refine wp_seq ?_
 have hn5 : b.xs.length ≤ 9223372036854775807 := ((S.u 0 rfl)).1.len
 refine rs S (tr (mv rfl)<|tr (mv rfl)<|tr (leni uT28 rfl)<|la (lssi rfl rfl)) ?_; clear S; intro a u S
 refine cd S rfl ?_ ?_
 ·intro hc0
  refine wp_skip (then_n (wp_seq (wp_block ?_)))
  obtain ⟨hl7, hu7⟩ : inU8 (b.xs.getD i u8E.dflt) := id (((S.u 0 rfl)).1.wf i (by omega))
  refine rs S (tr (mv rfl)<|tr (mv rfl)<|tr (mv rfl)<|tr (idxi uT28 sZ5 rfl rfl i rfl (by omega) (((S.u 0 rfl)).1.adr (i := i) (by omega)))<|tr (ov fun S=>x_load sC5 (S.e rfl) (((S.u 0 rfl)).1.cell i (by omega) 0 _ rfl))<|tr (ov fun S=>x_conv uT5 uT115 (S.e rfl) (r := (b.xs.getD i u8E.dflt)) (w_u32 (by omega)))<|tr (ov fun S=>x_bxor (S.e rfl) (S.e rfl))<|la (av rfl)) ?_; clear S; intro a u S
  refine rs S (la (av rfl)) ?_; clear S; intro a u S
  refine wp_block ?_
  refine lp2 (fun (k : Nat) (q : Int) => [(0, sV b), (2, .int .u32 0), (4, iN i), (7, iN i), (8, sV b), (9, iN b.xs.length), (10, bD (((i : Nat) : Int) < ((b.xs.length : Nat) : Int))), (13, .int .u32 r), (14, sV b), (15, iN i), (16, pT (blk b.a) (off b.a + i * 1)), (17, .int .u8 (b.xs.getD i u8E.dflt)), (18, .int .u32 (b.xs.getD i u8E.dflt)), (19, .int .u32 (bXor .u32 r (b.xs.getD i u8E.dflt))), (5, iN k), (3, .int .u32 q)]) (fun (k : Nat) (q : Int) => []) (fun (k : Nat) (q : Int) => k ≤ 8 ∧ inU32 q ∧ q = crcRep k (bXor .u32 r (b.xs.getD i u8E.dflt))) (fun (k : Nat) (q : Int) => 8 - k) S 0 (bXor .u32 r (b.xs.getD i u8E.dflt)) (subM rfl) rfl ?_ ?_
  ·exact ⟨Nat.zero_le _, wu32 _, rfl⟩
  clear S; intro k q a u S hR
  obtain ⟨hk, hq32, hq⟩ := hR
  refine wp_seq ?_
  refine rs S (tr (mv rfl)<|la (lssi rfl rfl)) ?_; clear S; intro a u S
  refine cd S rfl ?_ ?_
  ·intro hc1
   refine wp_skip (then_n (wp_seq (wp_block ?_)))
   refine rs S (tr (mv rfl)<|tr (ov fun S=>x_band (S.e rfl) (S.e rfl))<|la (av rfl)) ?_; clear S; intro a u S
   refine rs S (tr (mv rfl)<|tr (ov fun S=>x_shr (S.e rfl) (S.e rfl) (by omega))<|la (av rfl)) ?_; clear S; intro a u S
   refine rs S (tr (mv rfl)<|la (eqli rfl rfl)) ?_; clear S; intro a u S
   refine cd S rfl ?_ ?_
   ·intro hc2
    refine rg S (tr (mv rfl)<|tr (ov fun S=>x_bxor (S.e rfl) (S.e rfl))<|la (av rfl)) ?_; clear S; intro a u S
    refine blk_n (then_n ?_)
    refine rg S (tr (mv rfl)<|tr (addi ((k + 1 : Nat) : Int) rfl rfl (w_i64 (by omega)))<|la (av rfl)) ?_; clear S; intro a u S
    refine then_n ?_
    refine ⟨(k + 1), (bXor .u32 (sHr .u32 q 1) 3988292384), S.re (subM rfl) rfl rfl, ?_, ?_⟩
    ·refine ⟨by omega, by first | exact wu32 _ | exact sHr_in hq32, ?_⟩
     rw [crcRep, ← hq]
     unfold crcBit
     first
     | (rw [if_pos (by assumption)]; done)
     | (rw [if_neg (by assumption)]; done)
     | (rw [if_pos (by assumption)]; rfl)
     | (rw [if_neg (by assumption)]; rfl)
    omega
   intro hc3
   refine wp_skip (blk_n (then_n ?_))
   refine rg S (tr (mv rfl)<|tr (addi ((k + 1 : Nat) : Int) rfl rfl (w_i64 (by omega)))<|la (av rfl)) ?_; clear S; intro a u S
   refine then_n ?_
   refine ⟨(k + 1), (sHr .u32 q 1), S.re (subM rfl) rfl rfl, ?_, ?_⟩
   ·refine ⟨by omega, by first | exact wu32 _ | exact sHr_in hq32, ?_⟩
    rw [crcRep, ← hq]
    unfold crcBit
    first
    | (rw [if_pos (by assumption)]; done)
    | (rw [if_neg (by assumption)]; done)
    | (rw [if_pos (by assumption)]; rfl)
    | (rw [if_neg (by assumption)]; rfl)
   omega
  intro hc4
  refine wp_exit (then_e (then_e (blk_e (blk_n (then_n ?_)))))
  refine rg S (tr (mv rfl)<|tr (addi ((i + 1 : Nat) : Int) rfl rfl (w_i64 (by omega)))<|la (av rfl)) ?_; clear S; intro a u S
  refine then_n ?_
  refine ⟨(i + 1), q, S.re (subM rfl) rfl rfl, ?_, ?_⟩
  ·refine ⟨by omega, hq32, ?_⟩
   rw [hq, crcReg_up (by omega), ← hr, show k = 8 from by omega]; rfl
  omega
 intro hc5
 refine wp_exit (then_e (then_e (blk_e (then_n ?_))))
 refine rs S (tr (mv rfl)<|tr (ov fun S=>x_cplu32 (S.e rfl))<|la (av rfl)) ?_; clear S; intro a u S
 refine wp_ret ?_
 refine ret1 rfl S.s rfl ?_
 refine ⟨(r1 (vi ?_)), S.m.c⟩
 rw [hr, List.take_of_length_le (by omega)]; rfl
end Go.Proofs.Ytobggnpnochnnaa.V
