/- Walks of the reference's texts: Number. -/
import Derived.Test.YtekhggaafeonjaaDoorRefT1
import Derived.Test.YtekhggaafeonjaaDoorRTM
import Derived.Test.YtekhggaafeonjaaDoorRef1
import Derived.Deep.RegionWith
import Derived.IntWalk
namespace Go.Proofs.YtekhggaafeonjaaDoor
open Go.RowKit
theorem decLen' : ∀ (k u : Nat), u < 10 ^ (k + 1) → (Lib.decDigits u).length ≤ k + 1
  | 0, u, h => by rw [decD_small u (by simpa using h)]; simp
  | k + 1, u, h => by
    by_cases h1 : u < 10
    · rw [decD_small u h1]; simp
    · rw [Lib.decDigits, dif_neg h1, List.length_append, List.length_singleton]
      have := decLen' k (u / 10) (by rw [Nat.pow_succ] at h; omega)
      omega
theorem conv_one {W : World} {n : Nat} {c : Int} (h0 : 0 ≤ c) (h1 : c ≤ 255) (h : W.cell? ⟨n, 0, none⟩ = some (.int .u8 c)) :
    (convert 69 9 (.slice (some ⟨n, 0, none⟩) 1 1)).run Tryd.prog W = .ok (.string ⟨#[UInt8.ofNat c.toNat]⟩) W := by
  have := run_convert_bytes_back (P := Tryd.prog) W 69 9 5 ⟨n, 0, none⟩ 1 [UInt8.ofNat c.toNat] Tryd.underlying69 Tryd.underlying5 Tryd.underlying9 (fun j hj => by
    obtain rfl : j = 0 := by simpa using hj
    rw [show (⟨n, 0, none⟩ : Addr).add 0 = ⟨n, 0, none⟩ by rfl]
    rw [h]
    congr 2
    simp
    omega)
  exact this
set_option maxHeartbeats 2000000 in
theorem ref_Number : ∀ (u : Nat), u < 1000000000000000000 → ∀ (w : World),
    Calls Tryd.prog 39 #[.int .i64 u] w fun e w' => e = .returned (.string ⟨(Lib.decDigits u).toArray⟩) ∧ Below w.heap.size w w' := by
  intro u
  induction u using Nat.strongRecOn with
  | _ u ih =>
    intro hu w
    by_cases h : u < 10
    · have hcv := fun (W : World) (n : Nat) (hc : W.cell? ⟨n, 0, none⟩ = some (.int .u8 (48 + (u : Int)))) => conv_one (c := 48 + (u : Int)) (by omega) (by omega) hc
      have HD := Lib.hid (decD_small u h)
      rw [show (48 + (u : Int)).toNat = 48 + u by omega] at hcv
      generalize UInt8.ofNat (48 + u) = b at *
      clear ih
      go_enter Tryd.func39, Tryd.ntmps39
      go_wp2
      go_ret
      exact ⟨by rw [HD.out]; rfl, by ((repeat (first | exact Below.refl _ _ | refine Below.drew ?_ | refine Below.setCell ?_ (by first | (simp; done) | (simp; omega) | omega) _ | refine Below.alloc ?_ (by first | (simp; done) | (simp; omega) | omega) _)); done)⟩
    · have IH : Hid (∀ w, Calls Tryd.prog 39 #[.int .i64 ((u : Int) / 10)] w fun e w' => e = .returned (.string ⟨(Lib.decDigits (u / 10)).toArray⟩) ∧ Below w.heap.size w w') := Lib.hid fun w => by
        have := ih (u / 10) (by omega) (by omega) w
        rwa [show ((u / 10 : Nat) : Int) = (u : Int) / 10 by omega] at this
      clear ih
      have hcv := fun (W : World) (n : Nat) (hc : W.cell? ⟨n, 0, none⟩ = some (.int .u8 (48 + (u : Int) % 10))) => conv_one (c := 48 + (u : Int) % 10) (by omega) (by omega) hc
      rw [show (48 + (u : Int) % 10).toNat = 48 + u % 10 by omega] at hcv
      have hlen : (Lib.decDigits (u / 10)).length ≤ 18 := decLen' 17 (u / 10) (by omega)
      have HD : Hid (Lib.decDigits u = Lib.decDigits (u / 10) ++ [UInt8.ofNat (48 + u % 10)]) := Lib.hid (by rw [Lib.decDigits, dif_neg h])
      generalize UInt8.ofNat (48 + u % 10) = b at *
      generalize Lib.decDigits (u / 10) = dl at *
      have HAP : Hid ((⟨dl.toArray⟩ : ByteArray) ++ ⟨#[b]⟩ = ⟨(dl ++ [b]).toArray⟩) := Lib.hid (by rw [ByteArray.mk_append_mk])
      have hcc : ¬ 9223372036854775807 < dl.length + 1 := by omega
      have q1 : Int.tdiv (u : Int) 10 = (u : Int) / 10 := Int.tdiv_eq_ediv_of_nonneg (by omega)
      have q2 : Int.tmod (u : Int) 10 = (u : Int) % 10 := Int.tmod_eq_emod_of_nonneg (by omega)
      have q3 : IntKind.i64.wrap ((u : Int) / 10) = (u : Int) / 10 := IntWalk.i64_in _ ⟨by omega, by omega⟩
      have q4 : IntKind.i64.wrap ((u : Int) % 10) = (u : Int) % 10 := IntWalk.i64_in _ ⟨by omega, by omega⟩
      have q5 : IntKind.i64.wrap (48 + (u : Int) % 10) = 48 + (u : Int) % 10 := IntWalk.i64_in _ ⟨by omega, by omega⟩
      have q6 : IntKind.u8.wrap (48 + (u : Int) % 10) = 48 + (u : Int) % 10 := IntWalk.u8_in _ ⟨by omega, by omega⟩
      go_enter Tryd.func39, Tryd.ntmps39
      go_wp2_with fail
      go_region_with (go_at_call 39; with_reducible refine (IH.out _).mono ?_; rintro e w1 ⟨rfl, hb1⟩; obtain ⟨hc1, hf1⟩ := bcell hb1; have hs1 := hb1.size; (try simp at hs1))
      all_goals
        go_wp2
        go_ret
        exact ⟨by rw [HD.out, ← HAP.out]; rfl, by ((repeat (first | exact Below.refl _ _ | refine Below.drew ?_ | refine Below.setCell ?_ (by first | (simp; done) | (simp; omega) | omega) _ | refine Below.alloc ?_ (by first | (simp; done) | (simp; omega) | omega) _ | refine Below.trans ?_ (Below.mono hb1 (by first | (simp; done) | (simp; omega) | omega)))); done)⟩
set_option maxHeartbeats 2000000 in
theorem ref_NumberZ (n : Int) (h0 : 0 ≤ n) (h1 : n < 1000) (w : World) :
    Calls Tryd.prog 39 #[.int .i64 n] w fun e w' => e = .returned (.string ⟨(Lib.decDigits n.toNat).toArray⟩) ∧ Below w.heap.size w w' := by
  obtain ⟨u, rfl⟩ := Int.eq_ofNat_of_zero_le h0
  exact ref_Number u (by omega) w
set_option maxHeartbeats 2000000 in
theorem ref_FormatAddr (a : Int) (ha0 : 0 ≤ a) (ha1 : a ≤ 4294967295) (w : World) :
    Calls Tryd.prog 14 #[.int .u32 a] w fun e w' => e = .returned (.string ⟨(fmtTo a 4).toArray⟩) ∧ Below w.heap.size w w' := by
  have b0 := octs_bd a 0; have b1 := octs_bd a 1; have b2 := octs_bd a 2; have b3 := octs_bd a 3
  have e0 : a / 16777216 = octs a 0 := by simp only [octs, Nat.mul_zero, Nat.sub_zero, Int.reducePow]; omega
  have e1 : a / 65536 % 256 = octs a 1 := by simp only [octs, Nat.mul_one, Nat.reduceSub, Int.reducePow]
  have e2 : a / 256 % 256 = octs a 2 := by simp only [octs, Nat.reduceMul, Nat.reduceSub, Int.reducePow]
  have e3 : a % 256 = octs a 3 := by simp only [octs, Nat.reduceMul, Nat.reduceSub, Int.reducePow]; omega
  have HF := Lib.hid (fmt_eq a)
  generalize octs a 0 = o0 at *
  generalize octs a 1 = o1 at *
  generalize octs a 2 = o2 at *
  generalize octs a 3 = o3 at *
  obtain ⟨x0, hx0⟩ : ∃ x : ByteArray, x = ⟨(Lib.decDigits o0.toNat).toArray⟩ := ⟨_, rfl⟩
  have H0 : Hid (∀ w, Calls Tryd.prog 39 #[.int .i64 o0] w fun e w' => e = .returned (.string x0) ∧ Below w.heap.size w w') := Lib.hid (by rw [hx0]; exact ref_NumberZ o0 b0.1 (by omega))
  have s0 : x0.size ≤ 3 := by rw [hx0, size_list]; exact dec3 _ (by omega)
  obtain ⟨x1, hx1⟩ : ∃ x : ByteArray, x = ⟨(Lib.decDigits o1.toNat).toArray⟩ := ⟨_, rfl⟩
  have H1 : Hid (∀ w, Calls Tryd.prog 39 #[.int .i64 o1] w fun e w' => e = .returned (.string x1) ∧ Below w.heap.size w w') := Lib.hid (by rw [hx1]; exact ref_NumberZ o1 b1.1 (by omega))
  have s1 : x1.size ≤ 3 := by rw [hx1, size_list]; exact dec3 _ (by omega)
  obtain ⟨x2, hx2⟩ : ∃ x : ByteArray, x = ⟨(Lib.decDigits o2.toNat).toArray⟩ := ⟨_, rfl⟩
  have H2 : Hid (∀ w, Calls Tryd.prog 39 #[.int .i64 o2] w fun e w' => e = .returned (.string x2) ∧ Below w.heap.size w w') := Lib.hid (by rw [hx2]; exact ref_NumberZ o2 b2.1 (by omega))
  have s2 : x2.size ≤ 3 := by rw [hx2, size_list]; exact dec3 _ (by omega)
  obtain ⟨x3, hx3⟩ : ∃ x : ByteArray, x = ⟨(Lib.decDigits o3.toNat).toArray⟩ := ⟨_, rfl⟩
  have H3 : Hid (∀ w, Calls Tryd.prog 39 #[.int .i64 o3] w fun e w' => e = .returned (.string x3) ∧ Below w.heap.size w w') := Lib.hid (by rw [hx3]; exact ref_NumberZ o3 b3.1 (by omega))
  have s3 : x3.size ≤ 3 := by rw [hx3, size_list]; exact dec3 _ (by omega)
  have HEQ : Hid (((((((x0 ++ ⟨#[46]⟩) ++ x1) ++ ⟨#[46]⟩) ++ x2) ++ ⟨#[46]⟩) ++ x3 : ByteArray) = ⟨(fmtTo a 4).toArray⟩) := Lib.hid (by
    rw [HF.out, hx0, hx1, hx2, hx3]
    simp only [ByteArray.mk_append_mk]
    congr 1
    simp)
  clear hx0 hx1 hx2 hx3
  have l1 : ¬ 9223372036854775807 < x0.size + 1 := by omega
  have l2 : ¬ 9223372036854775807 < x0.size + 1 + x1.size := by omega
  have l3 : ¬ 9223372036854775807 < x0.size + 1 + x1.size + 1 := by omega
  have l4 : ¬ 9223372036854775807 < x0.size + 1 + x1.size + 1 + x2.size := by omega
  have l5 : ¬ 9223372036854775807 < x0.size + 1 + x1.size + 1 + x2.size + 1 := by omega
  have l6 : ¬ 9223372036854775807 < x0.size + 1 + x1.size + 1 + x2.size + 1 + x3.size := by omega
  go_enter Tryd.func14, Tryd.ntmps14
  go_wp2_with (first | (go_at_call 39; with_reducible refine (H0.out _).mono ?_; rintro e w1 ⟨rfl, hb1⟩; have hz1 := hb1.size) | (go_at_call 39; with_reducible refine (H1.out _).mono ?_; rintro e w2 ⟨rfl, hb2⟩; have hz2 := hb2.size) | (go_at_call 39; with_reducible refine (H2.out _).mono ?_; rintro e w3 ⟨rfl, hb3⟩; have hz3 := hb3.size) | (go_at_call 39; with_reducible refine (H3.out _).mono ?_; rintro e w4 ⟨rfl, hb4⟩; have hz4 := hb4.size))
  go_ret
  exact ⟨by rw [← HEQ.out]; rfl, by ((repeat (first | exact Below.refl _ _ | refine Below.drew ?_ | refine Below.setCell ?_ (by first | (simp; done) | (simp; omega) | omega) _ | refine Below.alloc ?_ (by first | (simp; done) | (simp; omega) | omega) _ | refine Below.trans ?_ (Below.mono hb4 (by first | (simp; done) | (simp; omega) | omega)) | refine Below.trans ?_ (Below.mono hb3 (by first | (simp; done) | (simp; omega) | omega)) | refine Below.trans ?_ (Below.mono hb2 (by first | (simp; done) | (simp; omega) | omega)) | refine Below.trans ?_ (Below.mono hb1 (by first | (simp; done) | (simp; omega) | omega)))); done)⟩
theorem ref_Format_no (a n : Int) (ha0 : 0 ≤ a) (ha1 : a ≤ 4294967295) (hv : valB a n = false) (w : World) :
    Calls Tryd.prog 12 #[.agg #[.int .u32 a, .int .i64 n]] w fun e w' => e = .returned (.string ⟨#[]⟩) ∧ Below w.heap.size w w' := by
  go_enter Tryd.func12, Tryd.ntmps12
  go_wp2_with (go_at_call 38; refine (ref_Valid a n ha0 ha1 hv _).mono ?_; rintro e w2 ⟨rfl, hb2⟩; obtain ⟨hc2, hf2⟩ := bcell hb2; have hs2 := hb2.size; (try simp at hs2))
  go_ret
  exact ⟨rfl, by ((repeat (first | exact Below.refl _ _ | refine Below.drew ?_ | refine Below.setCell ?_ (by first | (simp; done) | (simp; omega) | omega) _ | refine Below.alloc ?_ (by first | (simp; done) | (simp; omega) | omega) _ | refine Below.trans ?_ (Below.mono hb2 (by first | (simp; done) | (simp; omega) | omega)))); done)⟩
set_option maxHeartbeats 2000000 in
theorem ref_Format_yes (a n : Int) (ha0 : 0 ≤ a) (ha1 : a ≤ 4294967295) (hv : valB a n = true) (w : World) :
    Calls Tryd.prog 12 #[.agg #[.int .u32 a, .int .i64 n]] w fun e w' => e = .returned (.string ⟨(fmtP a n).toArray⟩) ∧ Below w.heap.size w w' := by
  have hb := (valB_iff a n).1 hv
  have hn0 := hb.1
  have hn1 := hb.2.1
  have HV := Lib.hid hv
  have hl1 := fmtTo_len a 4 (by omega)
  have hl2 := dec3 n.toNat (by omega)
  clear hb hv
  go_enter Tryd.func12, Tryd.ntmps12
  go_wp2_with (go_at_call 38; refine (ref_Valid a n ha0 ha1 HV.out _).mono ?_; rintro e w2 ⟨rfl, hb2⟩; obtain ⟨hc2, hf2⟩ := bcell hb2; have hs2 := hb2.size; (try simp at hs2))
  have hz2_0 : w.heap.size < w2.heap.size := by (have := hb2.size; simp at this; omega)
  refine wp_region_later (by kernel_rfl) (by kernel_rfl) ?_
  repeat (go_big_quiet_step ((first | (go_at_call 14; exact calls_later (ref_FormatAddr a ha0 ha1 _)) | (go_at_call 39; exact calls_later (ref_NumberZ _ hn0 (by omega) _)))))
  refine wpQuiet_nil ?_
  intro w3 hw'
  have hb3 := ext_below hw'
  clear hw'
  obtain ⟨hc3, hf3⟩ := bcell hb3
  have hs3 := hb3.size
  try simp at hs3
  go_wp2
  go_ret
  exact ⟨by simp only [fmtP, ← ByteArray.mk_append_mk]; rfl, by ((repeat (first | exact Below.refl _ _ | refine Below.drew ?_ | refine Below.setCell ?_ (by first | (simp; done) | (simp; omega) | omega) _ | refine Below.alloc ?_ (by first | (simp; done) | (simp; omega) | omega) _ | refine Below.trans ?_ (Below.mono hb3 (by first | (simp; done) | (simp; omega) | omega)) | refine Below.trans ?_ (Below.mono hb2 (by first | (simp; done) | (simp; omega) | omega)))); done)⟩
end Go.Proofs.YtekhggaafeonjaaDoor
