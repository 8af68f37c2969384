/- Walks of the reference's texts: ParseAddr, Parse. -/
import Derived.Test.YtekhggaafeonjaaDoorRefT2
import Derived.Test.YtekhggaafeonjaaDoorRefTM
namespace Go.Proofs.YtekhggaafeonjaaDoor
open Go.RowKit
theorem u32_in (n : Int) (h0 : 0 ≤ n) (h1 : n ≤ 4294967295) : IntKind.u32.wrap n = n := by simp [IntKind.wrap, IntKind.bits, IntKind.signed]; omega
theorem parts_le (c : UInt8) (l : List UInt8) : ∀ x ∈ partsL c l, x.length ≤ l.length := by
  induction l with
  | nil => intro x hx; simp [partsL] at hx; subst hx; simp
  | cons b l ih =>
    intro x hx
    rw [partsL] at hx
    split at hx
    · simp at hx
      rcases hx with rfl | hx
      · simp
      · have := ih x hx; simp; omega
    · cases hp : partsL c l with
      | nil => exact absurd hp (partsL_ne c l)
      | cons a t =>
        rw [hp] at hx ih
        simp [glueL] at hx
        rcases hx with rfl | hx
        · have := ih a (by simp); simp; omega
        · have := ih x (by simp [hx]); simp; omega
theorem ref_PartsS (s : ByteArray) (c : UInt8) (hs : s.size ≤ 4398046511104) (w : World) :
    Calls Tryd.prog 41 #[.string s, .int .u8 c.toNat] w fun e w' => ∃ g cap, e = .returned (.slice (some ⟨g, 0, none⟩) (partsL c s.data.toList).length cap) ∧ w.heap.size ≤ g ∧ g < w'.heap.size ∧
      (∀ (j : Nat) (l : List UInt8), (partsL c s.data.toList)[j]? = some l → w'.cell? ⟨g, j, none⟩ = some (.string ⟨l.toArray⟩)) ∧ Below w.heap.size w w' := by
  refine (ref_Parts s c hs w).mono fun e w' ⟨v, he, hown, hb⟩ => ?_
  have hc := fun g (hg : v.ownBlock = some g) => hown.cells hg
  have hlt := hown.lt
  rcases hown.2 with ⟨_, h0⟩ | ⟨g, cap, cur, rfl, _⟩
  · exact absurd (List.length_eq_zero_iff.1 h0) (partsL_ne _ _)
  · refine ⟨g, cap, he, (hlt g rfl).1, (hlt g rfl).2, fun j l e => ?_, hb⟩
    have := hc g rfl j (.string ⟨l.toArray⟩) (by simp [strCells, e])
    rwa [show (⟨g, 0, none⟩ : Addr).add j = ⟨g, j, none⟩ by simp only [Addr.add, Nat.zero_add]; split <;> simp_all] at this
/-- how far the four numbers have been read -/
def raGo (most : Int) : List (List UInt8) → Int → Option Int
  | [], a => some a
  | p :: t, a => (readB p 255).bind fun n => raGo most t (a * 256 + n)
theorem raRes_go (l : List UInt8) : raRes l = if (partsL 46 l).length = 4 then (match raGo 0 (partsL 46 l) 0 with | some a => (a, true) | none => (0, false)) else (0, false) := by
  unfold raRes
  split
  · rename_i p0 p1 p2 p3 hp
    rw [hp]
    show _ = (match raGo 0 [p0, p1, p2, p3] 0 with | some a => (a, true) | none => (0, false))
    simp only [raGo]
    cases readB p0 255 with
    | none => rfl
    | some a =>
      cases readB p1 255 with
      | none => rfl
      | some b =>
        cases readB p2 255 with
        | none => rfl
        | some c =>
          cases readB p3 255 with
          | none => rfl
          | some d => simp
  · rename_i h
    rw [if_neg]
    intro h4
    match hp : partsL 46 l, h4 with
    | [p0, p1, p2, p3], _ => exact h p0 p1 p2 p3 hp
set_option maxRecDepth 100000 in
set_option maxHeartbeats 4000000 in
theorem ref_ParseAddr (s : ByteArray) (hs : s.size ≤ 4398046511104) (a : Int) (ok : Bool) (hr : raRes s.data.toList = (a, ok)) (w : World) :
    Calls Tryd.prog 17 #[.string s] w fun e w' => e = .returned (.tuple #[.int .u32 a, .bool ok]) ∧ Below w.heap.size w w' := by
  rw [raRes_go] at hr
  obtain ⟨n, hn⟩ : ∃ n, (partsL 46 s.data.toList).length = n := ⟨_, rfl⟩
  have hpl : ∀ x ∈ partsL 46 s.data.toList, x.length ≤ s.size := fun x hx => by have := parts_le 46 s.data.toList x hx; rw [← size_len] at this; exact this
  have hnl : n ≤ s.size + 1 := by rw [← hn, size_len]; exact partsL_len _ _
  have hsp := ref_PartsS s 46 hs
  rw [hn] at hr hsp
  generalize partsL 46 s.data.toList = ps at *
  have HSP := Lib.hid hsp
  have HPL := Lib.hid hpl
  have HN := Lib.hid hn
  clear hn hpl hsp
  by_cases h4 : n = 4
  · rw [if_pos h4] at hr
    subst h4
    have HR := Lib.hid hr
    clear hr hnl
    go_enter Tryd.func17, Tryd.ntmps17
    go_wp2_with (go_at_call 41; refine (HSP.out _).mono ?_; rintro e w1 ⟨gp, cp, rfl, hgp0, hgp1, hc1, hb1⟩; have HB1 := Lib.hid hb1; have HC1 := Lib.hid hc1; clear hb1 hc1)
    go_loop [5, 6] (fun x i => ∃ (k : Nat) (v : Int), k ≤ 4 ∧ i = .int .i64 k ∧ x = .int .u32 v ∧ 0 ≤ v ∧ v < 2 ^ (8 * k) ∧ (match raGo 0 (ps.drop k) v with | some a => (a, true) | none => (0, false)) = (a, ok)) (fun _ i => 4 - (intOf i).toNat)
    case atStart => exact ⟨0, 0, by omega, rfl, rfl, by omega, by decide, HR.out⟩
    case round =>
      obtain ⟨k, v, hk, rfl, rfl, hv0, hv1, hrd⟩ := hrel
      by_cases hlt : k < 4
      · obtain ⟨l, hkl⟩ : ∃ l, ps[k]? = some l := ⟨_, List.getElem?_eq_getElem (by rw [HN.out]; exact hlt)⟩
        have hdr : ps.drop k = l :: ps.drop (k + 1) := by
          rw [List.drop_eq_getElem_cons (by rw [HN.out]; exact hlt)]
          rw [List.getElem?_eq_getElem (by rw [HN.out]; exact hlt)] at hkl
          rw [Option.some.inj hkl]
        rw [hdr, raGo] at hrd
        have hll := HPL.out l (List.mem_of_getElem? hkl)
        obtain ⟨sl, hsl⟩ : ∃ sl : ByteArray, sl = ⟨l.toArray⟩ := ⟨_, rfl⟩
        have c0 : w1.cell? ⟨gp, k, none⟩ = some (.string sl) := by rw [hsl]; exact HC1.out k l hkl
        have hss : sl.size ≤ maxLen := by rw [hsl, size_list]; unfold maxLen; omega
        obtain ⟨q, hq⟩ : ∃ q, readB l 255 = q := ⟨_, rfl⟩
        have HQ : Hid (readB sl.data.toList 255 = q) := Lib.hid (by rw [hsl]; exact hq)
        rw [hq] at hrd
        have hv24 : v ≤ 16777215 := by
          have p0 : (2 : Int) ^ (8 * 0) = 1 := by decide
          have p1 : (2 : Int) ^ (8 * 1) = 256 := by decide
          have p2 : (2 : Int) ^ (8 * 2) = 65536 := by decide
          have p3 : (2 : Int) ^ (8 * 3) = 16777216 := by decide
          have hk3 : k = 0 ∨ k = 1 ∨ k = 2 ∨ k = 3 := by omega
          rcases hk3 with rfl | rfl | rfl | rfl
          · rw [p0] at hv1; omega
          · rw [p1] at hv1; omega
          · rw [p2] at hv1; omega
          · rw [p3] at hv1; omega
        have HV1 := Lib.hid hv1
        clear hkl hdr hll hsl hq hv1
        have hltI : (k : Int) < 4 := by omega
        cases q with
        | none =>
          simp only [Option.bind_none, Prod.mk.injEq] at hrd
          obtain ⟨rfl, rfl⟩ := hrd
          go_wp2_with (go_at_call 42; refine (ref_Read sl 255 (by decide) (by decide) hss HQ.out _).mono ?_; rintro e w' ⟨rfl, rfl⟩)
          go_ret2
          exact ⟨rfl, HB1.out⟩
        | some x =>
          have hx := readB_bd (by decide) HQ.out
          simp only [Option.bind_some] at hrd
          have HRD := Lib.hid hrd
          have e1 := u32_in x (by omega) (by omega)
          clear hrd
          go_wp2_with (go_at_call 42; refine (ref_Read sl 255 (by decide) (by decide) hss HQ.out _).mono ?_; rintro e w' ⟨rfl, rfl⟩)
          go_round
          case rel =>
            refine ⟨k + 1, v * 256 + x, by omega, by go_num, rfl, by omega, ?_, HRD.out⟩
            have h1 := HV1.out
            rw [show 8 * (k + 1) = 8 * k + 8 by omega, Int.pow_add]
            have : (2 : Int) ^ 8 = 256 := by decide
            omega
          case measure => simp [intOf]; omega
      · obtain rfl : k = 4 := by omega
        rw [List.drop_of_length_le (by rw [HN.out]; exact Nat.le_refl _), raGo] at hrd
        simp only [Prod.mk.injEq] at hrd
        obtain ⟨rfl, rfl⟩ := hrd
        have hk4 : (((4 : Nat) : Int)) = 4 := rfl
        clear hv1
        go_wp2
        go_ret2
        exact ⟨rfl, HB1.out⟩
  · rw [if_neg h4] at hr
    simp only [Prod.mk.injEq] at hr
    obtain ⟨rfl, rfl⟩ := hr
    have g4 := (show ((n : Int) != 4) = true by rw [bne_iff_ne]; omega)
    clear h4
    go_enter Tryd.func17, Tryd.ntmps17
    go_wp2_with (go_at_call 41; refine (HSP.out _).mono ?_; rintro e w1 ⟨gp, cp, rfl, hgp0, hgp1, hc1, hb1⟩; have HB1 := Lib.hid hb1; clear hb1 hc1)
    go_ret2
    exact ⟨rfl, HB1.out⟩
end Go.Proofs.YtekhggaafeonjaaDoor
