/- Walks of package prefix: Common, FormatAddr, Format. -/
import Derived.Test.YtekhggaafeonjaaDoorPre2
import Derived.Test.YtekhggaafeonjaaDoorApp
import Derived.Test.YtekhggaafeonjaaDoorShelf
namespace Go.Proofs.YtekhggaafeonjaaDoor
open Go.RowKit
theorem infoU8 : (Tryd.prog.info? 5).map (fun i => (i.zero, i.size, i.bytes)) = some (some (.int .u8 0), 1, 1) := by kernel_rfl
set_option maxHeartbeats 400000 in
theorem prefix_Common (a b : Int) (ha0 : 0 ≤ a) (ha1 : a ≤ 4294967295) (hb0 : 0 ≤ b) (hb1 : b ≤ 4294967295) (w : World) :
    Calls Tryd.prog 33 #[.int .u32 a, .int .u32 b] w fun e w' => e = .returned (.agg #[.int .u32 (a / pw (commN a b) * pw (commN a b)), .int .i64 (commN a b)]) ∧ Below w.heap.size w w' := by
  have hn0 := (commN_bd a b ha0 ha1 hb0 hb1).1
  have hn1 := (commN_bd a b ha0 ha1 hb0 hb1).2
  have hx0 := (xor_bd a b ha0 ha1 hb0 hb1).1
  have hx1 := (xor_bd a b ha0 ha1 hb0 hb1).2
  have HA := Lib.hid (and_mask a _ ha0 ha1 hn0 hn1)
  have HC : ∀ w, Calls Tryd.prog 51 #[.int .u32 (bits .xor .u32 a b)] w fun e w' => e = .returned (.int .i64 (commN a b)) ∧ w' = w := fun w => Tryd.bits_LeadingZeros32 _ w hx0 hx1
  generalize commN a b = n at *
  have HC' := Lib.hid HC
  clear HC
  go_enter Tryd.func33, Tryd.ntmps33
  go_wp2_with (first | (go_at_call 51; refine (HC'.out _).mono ?_; rintro e w' ⟨rfl, rfl⟩) | (go_at_call 47; refine (prefix_mask _ hn0 hn1 _).mono ?_; rintro e w' ⟨rfl, rfl⟩))
  refine bodyPost_ret (v := .agg #[.int .u32 (bits .and .u32 a (mskZ n)), .int .i64 n]) (by simp [results, Tryd.results33, go_sem]) rfl ?_
  exact ⟨by rw [HA.out], by ((repeat (first | exact Below.refl _ _ | refine Below.drew ?_ | refine Below.setCell ?_ (by first | (simp; done) | (simp; omega) | omega) _ | refine Below.alloc ?_ (by first | (simp; done) | (simp; omega) | omega) _)); done)⟩
def octs (a : Int) (k : Nat) : Int := a / 2 ^ (24 - 8 * k) % 256
theorem octs_bd (a : Int) (k : Nat) : 0 ≤ octs a k ∧ octs a k ≤ 255 := by unfold octs; omega
theorem octet (a : Int) (k : Nat) (ha0 : 0 ≤ a) (ha : a ≤ 4294967295) : IntKind.u64.wrap (bits BinOp.and IntKind.u32 (a / 2 ^ (24 - 8 * k)) 255) = octs a k := by
  unfold octs
  have hp : (1 : Int) ≤ 2 ^ (24 - 8 * k) := by have := Nat.pow_pos (n := 24 - 8 * k) (show 0 < 2 by decide); exact_mod_cast this
  have h0 : 0 ≤ a / 2 ^ (24 - 8 * k) := Int.ediv_nonneg ha0 (by omega)
  have h1 : a / 2 ^ (24 - 8 * k) ≤ a := Int.ediv_le_self _ ha0
  generalize a / 2 ^ (24 - 8 * k) = q at *
  rw [u32_and q 255 h0 (by omega) (by decide) (by decide), show (255 : Int).toNat = 255 by rfl, nat_mask8]
  simp [IntKind.wrap, IntKind.bits, IntKind.signed]; omega
def fmtTo (a : Int) : Nat → List UInt8
  | 0 => []
  | k + 1 => fmtTo a k ++ (if k = 0 then [] else [46]) ++ Lib.decDigits (octs a k).toNat
theorem dec3 (u : Nat) (h : u < 1000) : (Lib.decDigits u).length ≤ 3 := by
  rw [Lib.decDigits]; split
  · simp
  · rw [Lib.decDigits]; split
    · simp
    · rw [Lib.decDigits]; split
      · simp
      · omega
theorem fmtTo_len (a : Int) (k : Nat) (h : k ≤ 4) : (fmtTo a k).length ≤ 4 * k := by
  induction k with
  | zero => simp [fmtTo]
  | succ k ih =>
    have := ih (by omega)
    have hd := dec3 (octs a k).toNat (by have := octs_bd a k; omega)
    simp only [fmtTo, List.length_append]
    split <;> simp <;> omega
set_option maxHeartbeats 400000 in
theorem strconv_AppendUint (B n : Nat) (u : Int) (hu0 : 0 ≤ u) (hu1 : u ≤ 255) (sv : Value) (xs : List Value) (w : World) (hown : w.ownsRow B 5 1 sv n xs) (hBw : B ≤ w.heap.size) (hlim : n + 20 ≤ 140737488355328) (htab : Lib.TabIs Tryd.prog w "internal/strconv.uint64pow10" .u64 Lib.pow10Tab) :
    Calls Tryd.prog 44 #[sv, .int .u64 u, .int .i64 10] w fun e w' => ∃ v', e = .returned v' ∧ w'.ownsRow B 5 1 v' (n + (Lib.decDigits u.toNat).length) (xs ++ Lib.byteCells (Lib.decDigits u.toNat)) ∧ Below B w w' := by
  obtain ⟨u, rfl⟩ := Int.eq_ofNat_of_zero_le hu0
  rw [Int.toNat_natCast]
  have H : Calls Tryd.prog 58 #[sv, .int .u64 u, .int .i64 10] w fun e w' => ∃ v', e = .returned v' ∧ w'.ownsRow B 5 1 v' (n + (Lib.decDigits u).length) (xs ++ Lib.byteCells (Lib.decDigits u)) ∧ Below B w w' := by
    by_cases h : u < 100
    · exact (Tryd.internal_strconv_AppendUint_10_small B n u h sv xs w hown hBw hlim).mono fun _ _ ⟨v, h1, h2, h3, _⟩ => ⟨v, h1, h2, h3⟩
    · exact (Tryd.internal_strconv_AppendUint_10_big B n u (by omega) (by omega) sv xs w hown hBw hlim htab).mono fun _ _ ⟨v, h1, h2, h3, _⟩ => ⟨v, h1, h2, h3⟩
  have H' := Lib.hid H
  clear H
  go_enter Tryd.func44, Tryd.ntmps44
  go_wp2_with (go_at_call 58; refine H'.out.mono ?_; rintro e w' ⟨v', rfl, h2, h3⟩)
  go_ret
  exact ⟨_, rfl, h2, h3⟩
theorem own_next0 {a : Int} {k : Nat} (hk : k = 0) {B : Nat} {w : World} {v : Value} (h : w.ownsRow B 5 1 v ((fmtTo a k).length + (Lib.decDigits (octs a k).toNat).length) (Lib.byteCells (fmtTo a k) ++ Lib.byteCells (Lib.decDigits (octs a k).toNat))) :
    w.ownsRow B 5 1 v (fmtTo a (k + 1)).length (Lib.byteCells (fmtTo a (k + 1))) := by
  have e : fmtTo a (k + 1) = fmtTo a k ++ Lib.decDigits (octs a k).toNat := by rw [fmtTo, if_pos hk]; simp
  rw [e]; simpa [Lib.byteCells] using h
theorem own_next {a : Int} {k : Nat} (hk : k ≠ 0) {B : Nat} {w : World} {v : Value} (h : w.ownsRow B 5 1 v ((fmtTo a k).length + 1 + (Lib.decDigits (octs a k).toNat).length) (Lib.byteCells (fmtTo a k) ++ [.int .u8 46] ++ Lib.byteCells (Lib.decDigits (octs a k).toNat))) :
    w.ownsRow B 5 1 v (fmtTo a (k + 1)).length (Lib.byteCells (fmtTo a (k + 1))) := by
  have e : fmtTo a (k + 1) = fmtTo a k ++ [46] ++ Lib.decDigits (octs a k).toNat := by rw [fmtTo, if_neg hk]
  rw [e]; simpa [Lib.byteCells, Nat.add_assoc, Nat.add_comm 1] using h
set_option maxHeartbeats 400000 in
theorem prefix_FormatAddr (a : Int) (ha0 : 0 ≤ a) (ha : a ≤ 4294967295) (w : World) (htab : Lib.TabIs Tryd.prog w "internal/strconv.uint64pow10" .u64 Lib.pow10Tab) :
    Calls Tryd.prog 20 #[.int .u32 a] w fun e w' => e = .returned (.string ⟨(fmtTo a 4).toArray⟩) ∧ Below w.heap.size w w' := by
  have HT := Lib.hid htab
  have HA := Lib.hid ha
  clear htab ha
  go_enter Tryd.func20, Tryd.ntmps20
  go_wp2
  go_loopw [3, 4] (fun b s wr => ∃ k : Nat, k ≤ 4 ∧ s = .int .i64 (24 - 8 * (k : Int)) ∧ wr.ownsRow w.heap.size 5 1 b (fmtTo a k).length (Lib.byteCells (fmtTo a k)) ∧ Below w.heap.size w wr)
    (fun _ s _ => (intOf s + 8).toNat)
  case atStart => exact ⟨0, by omega, rfl, World.ownsRow_nil _ _ _ _, Below.refl _ _⟩
  case round =>
    obtain ⟨k, hk, rfl, hown, hb⟩ := hrel
    have hs := hb.size
    have HO := octs_bd a
    have HL := Lib.hid (fmtTo_len a)
    have hk5 : k = 0 ∨ k = 1 ∨ k = 2 ∨ k = 3 ∨ k = 4 := by omega
    clear hk
    rcases hk5 with rfl | rfl | rfl | rfl | rfl
    · have hv0 : IntKind.u64.wrap (bits BinOp.and IntKind.u32 (a / 16777216) 255) = octs a 0 := octet a 0 ha0 HA.out
      go_wp2_with (go_at_call 44; refine (strconv_AppendUint w.heap.size _ _ (HO 0).1 (HO 0).2 _ _ _ hown hs (by simp [fmtTo]) (tab_below HT.out (Nat.le_refl _) hb)).mono ?_; rintro e w2 ⟨v2, rfl, h2, h3⟩)
      go_roundw
      case rel => exact ⟨1, by omega, rfl, own_next0 rfl h2, hb.trans h3⟩
      case measure => simp [intOf]
    · have hv0 : IntKind.u64.wrap (bits BinOp.and IntKind.u32 (a / 65536) 255) = octs a 1 := by simpa using octet a 1 ha0 HA.out
      have hl := HL.out 1 (by omega)
      go_wp2_with (first | (at_builtin; refine wpList_append_new rfl _ _ 69 rfl w.heap.size 5 _ (.int .u8 0) 1 1 Tryd.underlying69 infoU8 rfl (by decide) _ _ _ rfl hown _ rfl rfl (by intro u hu; simp at hu; subst hu; rfl) (by omega) (by decide) hs ?_; intro v1 w1 h1 hb1 _ _) | (go_at_call 44; refine (strconv_AppendUint w.heap.size _ _ (HO 1).1 (HO 1).2 _ _ _ h1 (by have := hb1.size; omega) (by omega) (tab_below HT.out (Nat.le_refl _) (hb.trans hb1))).mono ?_; rintro e w2 ⟨v2, rfl, h2, h3⟩))
      go_roundw
      case rel => exact ⟨2, by omega, rfl, own_next (by decide) h2, (hb.trans hb1).trans h3⟩
      case measure => simp [intOf]
    · have hv0 : IntKind.u64.wrap (bits BinOp.and IntKind.u32 (a / 256) 255) = octs a 2 := by simpa using octet a 2 ha0 HA.out
      have hl := HL.out 2 (by omega)
      go_wp2_with (first | (at_builtin; refine wpList_append_new rfl _ _ 69 rfl w.heap.size 5 _ (.int .u8 0) 1 1 Tryd.underlying69 infoU8 rfl (by decide) _ _ _ rfl hown _ rfl rfl (by intro u hu; simp at hu; subst hu; rfl) (by omega) (by decide) hs ?_; intro v1 w1 h1 hb1 _ _) | (go_at_call 44; refine (strconv_AppendUint w.heap.size _ _ (HO 2).1 (HO 2).2 _ _ _ h1 (by have := hb1.size; omega) (by omega) (tab_below HT.out (Nat.le_refl _) (hb.trans hb1))).mono ?_; rintro e w2 ⟨v2, rfl, h2, h3⟩))
      go_roundw
      case rel => exact ⟨3, by omega, rfl, own_next (by decide) h2, (hb.trans hb1).trans h3⟩
      case measure => simp [intOf]
    · have hv0 : IntKind.u64.wrap (bits BinOp.and IntKind.u32 (a) 255) = octs a 3 := by simpa using octet a 3 ha0 HA.out
      have hl := HL.out 3 (by omega)
      go_wp2_with (first | (at_builtin; refine wpList_append_new rfl _ _ 69 rfl w.heap.size 5 _ (.int .u8 0) 1 1 Tryd.underlying69 infoU8 rfl (by decide) _ _ _ rfl hown _ rfl rfl (by intro u hu; simp at hu; subst hu; rfl) (by omega) (by decide) hs ?_; intro v1 w1 h1 hb1 _ _) | (go_at_call 44; refine (strconv_AppendUint w.heap.size _ _ (HO 3).1 (HO 3).2 _ _ _ h1 (by have := hb1.size; omega) (by omega) (tab_below HT.out (Nat.le_refl _) (hb.trans hb1))).mono ?_; rintro e w2 ⟨v2, rfl, h2, h3⟩))
      go_roundw
      case rel => exact ⟨4, by omega, rfl, own_next (by decide) h2, (hb.trans hb1).trans h3⟩
      case measure => simp [intOf]
    · have hcv := conv_own_string (P := Tryd.prog) (src := 69) (dst := 9) Tryd.underlying69 Tryd.underlying5 Tryd.underlying9 hown
      go_wp2_with fail
      go_ret
      exact ⟨rfl, hb⟩
def fmtP (a n : Int) : List UInt8 := fmtTo a 4 ++ [47] ++ Lib.decDigits n.toNat
set_option maxHeartbeats 400000 in
theorem prefix_Format_no (a n : Int) (ha0 : 0 ≤ a) (ha1 : a ≤ 4294967295) (hv : valB a n = false) (w : World) :
    Calls Tryd.prog 21 #[.agg #[.int .u32 a, .int .i64 n]] w fun e w' => e = .returned (.string ⟨#[]⟩) ∧ Below w.heap.size w w' := by
  go_enter Tryd.func21, Tryd.ntmps21
  go_wp2_with (go_at_call 24; refine (prefix_ValidB _ _ ha0 ha1 hv _).mono ?_; rintro e w2 ⟨rfl, hb2⟩; obtain ⟨hc2, hf2⟩ := bcell hb2; have hs2 := hb2.size; (try simp at hs2))
  go_ret
  exact ⟨rfl, by ((repeat (first | exact Below.refl _ _ | refine Below.drew ?_ | refine Below.setCell ?_ (by first | (simp; done) | (simp; omega) | omega) _ | refine Below.alloc ?_ (by first | (simp; done) | (simp; omega) | omega) _ | refine Below.trans ?_ (Below.mono hb2 (by first | (simp; done) | (simp; omega) | omega)))); done)⟩
theorem strconv_ItoaZ (n : Int) (h0 : 0 ≤ n) (h1 : n < 100) (w : World) : Calls Tryd.prog 45 #[.int .i64 n] w fun e w' => e = .returned (.string ⟨(Lib.decDigits n.toNat).toArray⟩) ∧ w = w' := by
  obtain ⟨n, rfl⟩ := Int.eq_ofNat_of_zero_le h0
  exact (Tryd.strconv_Itoa_small n (by omega) w).mono fun _ _ ⟨h1, h2⟩ => ⟨h1, h2.symm⟩
set_option maxHeartbeats 400000 in
theorem prefix_Format_yes (a n : Int) (ha0 : 0 ≤ a) (ha1 : a ≤ 4294967295) (hv : valB a n = true) (w : World) (htab : Lib.TabIs Tryd.prog w "internal/strconv.uint64pow10" .u64 Lib.pow10Tab) :
    Calls Tryd.prog 21 #[.agg #[.int .u32 a, .int .i64 n]] w fun e w' => e = .returned (.string ⟨(fmtP a n).toArray⟩) ∧ Below w.heap.size w w' := by
  have hb := (valB_iff a n).1 hv
  have hn0 := hb.1
  have hn1 := hb.2.1
  clear hb
  have HT := Lib.hid htab
  have hl1 := fmtTo_len a 4 (by omega)
  have hl2 := dec3 n.toNat (by omega)
  clear htab
  go_enter Tryd.func21, Tryd.ntmps21
  go_wp2_with (go_at_call 24; refine (prefix_ValidB _ _ ha0 ha1 hv _).mono ?_; rintro e w2 ⟨rfl, hb2⟩; obtain ⟨hc2, hf2⟩ := bcell hb2; have hs2 := hb2.size; (try simp at hs2))
  have hz2_0 : w.heap.size < w2.heap.size := by (have := hb2.size; simp at this; omega)
  have HB2 : Below w.heap.size w w2 := by ((repeat (first | exact Below.refl _ _ | refine Below.drew ?_ | refine Below.setCell ?_ (by first | (simp; done) | (simp; omega) | omega) _ | refine Below.alloc ?_ (by first | (simp; done) | (simp; omega) | omega) _ | refine Below.trans ?_ (Below.mono hb2 (by first | (simp; done) | (simp; omega) | omega)))); done)
  have HT2 := Lib.hid (tab_below HT.out (Nat.le_refl _) HB2)
  clear HB2
  refine wp_region_later (by kernel_rfl) (by kernel_rfl) ?_
  repeat (go_big_quiet_step ((first | (go_at_call 20; exact calls_later (prefix_FormatAddr a ha0 ha1 _ (tab_below HT2.out (Nat.le_refl _) (Ext.below _)))) | (go_at_call 45; exact calls_later_same (strconv_ItoaZ _ hn0 (by omega) _)))))
  refine wpQuiet_nil ?_
  intro w3 hw'
  have hb3 := ext_below hw'
  clear hw'
  obtain ⟨hc3, hf3⟩ := bcell hb3
  have hs3 := hb3.size
  try simp at hs3
  go_wp2
  go_ret
  exact ⟨by simp only [fmtP, ← ByteArray.mk_append_mk]; rfl, by ((repeat (first | exact Below.refl _ _ | refine Below.drew ?_ | refine Below.setCell ?_ (by first | (simp; done) | (simp; omega) | omega) _ | refine Below.alloc ?_ (by first | (simp; done) | (simp; omega) | omega) _ | refine Below.trans ?_ (Below.mono hb3 (by first | (simp; done) | (simp; omega) | omega)) | refine Below.trans ?_ (Below.mono hb2 (by first | (simp; done) | (simp; omega) | omega)))); done)⟩
end Go.Proofs.YtekhggaafeonjaaDoor
