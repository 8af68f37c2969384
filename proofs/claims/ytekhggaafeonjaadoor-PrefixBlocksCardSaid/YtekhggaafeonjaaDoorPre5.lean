/- Walks of package prefix: Parse. -/
import Derived.Test.YtekhggaafeonjaaDoorPre4
namespace Go.Proofs.YtekhggaafeonjaaDoor
open Go.RowKit
def dGo : List UInt8 → Int → Option Int
  | [], n => some n
  | c :: l, n => if c.toNat < 48 ∨ 57 < c.toNat then none else dGo l (10 * n + ((c.toNat : Int) - 48))
/-- the number of bits: one or two digits, no leading zero -/
def bitsOk (R : List UInt8) : Bool := decide (1 ≤ R.length) && (decide (R.length ≤ 2) && !(decide (R.length = 2) && decide ((R.getD 0 0).toNat = 48)))
def parsePost (f : Bool) (q : Int × Bool) (R : List UInt8) : Int × Int × Bool :=
  if f = true ∧ q.2 = true ∧ bitsOk R = true then
    match dGo R 0 with
    | none => (0, 0, false)
    | some n => if valB q.1 n = true then (q.1, n, true) else (0, 0, false)
  else (0, 0, false)
def parseP (s : ByteArray) : Int × Int × Bool := parsePost (cutB 47 s).2.2 (paRes (cutB 47 s).1.data.toList) (cutB 47 s).2.1.data.toList
theorem paGo_bd : ∀ (l : List UInt8) (st st' : PA), paGo l st = some st' → (∀ j, 0 ≤ st.p.getD j 0 ∧ st.p.getD j 0 ≤ 255) → ∀ j, 0 ≤ st'.p.getD j 0 ∧ st'.p.getD j 0 ≤ 255
  | [], st, st', h, hb => by simp only [paGo, Option.some.injEq] at h; subst h; exact hb
  | c :: l, st, st', h, hb => by
    simp only [paGo, Option.bind_eq_some_iff] at h
    obtain ⟨s1, h1, h2⟩ := h
    refine paGo_bd l s1 st' h2 fun j => ?_
    unfold paStep at h1
    by_cases g1 : c.toNat = 46
    · rw [if_pos g1] at h1
      by_cases g2 : st.d = 0 ∨ st.n = 3
      · rw [if_pos g2] at h1; cases h1
      · rw [if_neg g2] at h1; cases h1; exact hb j
    · rw [if_neg g1] at h1
      by_cases g2 : c.toNat < 48 ∨ 57 < c.toNat
      · rw [if_pos g2] at h1; cases h1
      · rw [if_neg g2] at h1
        by_cases g3 : 0 < st.d ∧ st.p.getD st.n 0 = 0
        · rw [if_pos g3] at h1; cases h1
        · rw [if_neg g3] at h1
          by_cases g4 : 255 < 10 * st.p.getD st.n 0 + ((c.toNat : Int) - 48)
          · rw [if_pos g4] at h1; cases h1
          · rw [if_neg g4] at h1
            cases h1
            have := hb st.n
            simp only [List.getD_eq_getElem?_getD, List.getElem?_set] at *
            by_cases hj : st.n = j
            · subst hj
              by_cases hl : st.n < st.p.length
              · simp only [if_true, hl, Option.getD_some]; omega
              · simp [hl]
            · simp only [hj, if_false]; exact hb j
theorem paRes_bd (l : List UInt8) : 0 ≤ (paRes l).1 ∧ (paRes l).1 ≤ 4294967295 := by
  unfold paRes
  cases h : paGo l { n := 0, d := 0, p := [0, 0, 0, 0] } with
  | none => simp [paEnd]
  | some st =>
    have hb := paGo_bd l _ st h (fun j => by rcases j with _ | _ | _ | _ | j <;> simp)
    simp only [paEnd]
    split
    · simp
    · have h0 := hb 0; have h1 := hb 1; have h2 := hb 2; have h3 := hb 3
      simp only [paVal]; omega
theorem bitsOk_short {l : List UInt8} (h : l.length = 0) : bitsOk l = false := by simp [bitsOk, h]
theorem bitsOk_long {l : List UInt8} (h : 2 < l.length) : bitsOk l = false := by simp [bitsOk, show ¬ l.length ≤ 2 by omega]
theorem cutB_size (c : UInt8) (s : ByteArray) (hs : s.size ≤ maxLen) : (cutB c s).1.size ≤ maxLen ∧ (cutB c s).2.1.size ≤ maxLen := by
  unfold cutB; split
  · refine ⟨?_, ?_⟩ <;> (simp only [ByteArray.size_extract]; omega)
  · exact ⟨hs, by simp [ByteArray.size]⟩
set_option maxHeartbeats 1000000 in
theorem prefix_Parse (s : ByteArray) (hs : s.size ≤ maxLen) (a n : Int) (ok : Bool) (hr : parseP s = (a, n, ok)) (w : World) :
    Calls Tryd.prog 18 #[.string s] w fun e w' => e = .returned (.tuple #[.agg #[.int .u32 a, .int .i64 n], .bool ok]) ∧ Below w.heap.size w w' := by
  have HC : ∀ w, Calls Tryd.prog 43 #[.string s, .string ⟨#[47]⟩] w fun e w' => e = .returned (.tuple #[.string (cutB 47 s).1, .string (cutB 47 s).2.1, .bool (cutB 47 s).2.2]) ∧ Below w.heap.size w w' := fun w => strings_Cut1 s 47 w hs
  have hcs := cutB_size 47 s hs
  unfold parseP at hr
  generalize cutB 47 s = cut at *
  obtain ⟨l, r, f⟩ := cut
  dsimp only at *
  have hqb := paRes_bd l.data.toList
  have HP : ∀ w, Calls Tryd.prog 16 #[.string l] w fun e w' => e = .returned (.tuple #[.int .u32 (paRes l.data.toList).1, .bool (paRes l.data.toList).2]) ∧ Below w.heap.size w w' := fun w => prefix_ParseAddr l hcs.1 _ _ rfl w
  generalize paRes l.data.toList = q at *
  obtain ⟨qa, qok⟩ := q
  dsimp only at *
  have hrs := hcs.2
  unfold maxLen at hrs
  have HC' := Lib.hid HC
  have HP' := Lib.hid HP
  clear HC HP hcs
  cases f
  · have hz : (a, n, ok) = (0, 0, false) := by
      rw [← hr]
      simp [parsePost]
    obtain ⟨rfl, hz2⟩ := Prod.mk.inj hz
    obtain ⟨rfl, rfl⟩ := Prod.mk.inj hz2
    clear hr hz hz2
    go_enter Tryd.func18, Tryd.ntmps18
    go_wp2_with (first | (go_at_call 43; refine (HC'.out _).mono ?_; rintro e w2 ⟨rfl, hb2⟩; obtain ⟨hc2, hf2⟩ := bcell hb2; have hs2 := hb2.size; (try simp at hs2); have hz2_0 : w.heap.size < w2.heap.size := (by omega)) | (go_at_call 16; refine (HP'.out _).mono ?_; rintro e w3 ⟨rfl, hb3⟩; obtain ⟨hc3, hf3⟩ := bcell hb3; have hs3 := hb3.size; (try simp at hs3); have hz3_0 : w.heap.size < w3.heap.size := (by omega)))
    go_wp2
    refine bodyPost_ret (v := .tuple #[.agg #[.int .u32 0, .int .i64 0], .bool false]) (by simp [results, Tryd.results18, go_sem, hc3, hc2, hz2_0]) rfl ?_
    exact ⟨rfl, by ((repeat (first | exact Below.refl _ _ | refine Below.drew ?_ | refine Below.setCell ?_ (by first | (simp; done) | (simp; omega) | omega) _ | refine Below.alloc ?_ (by first | (simp; done) | (simp; omega) | omega) _ | refine Below.trans ?_ (Below.mono hb3 (by first | (simp; done) | (simp; omega) | omega)) | refine Below.trans ?_ (Below.mono hb2 (by first | (simp; done) | (simp; omega) | omega)))); done)⟩
  cases qok
  · have hz : (a, n, ok) = (0, 0, false) := by
      rw [← hr]
      simp [parsePost]
    obtain ⟨rfl, hz2⟩ := Prod.mk.inj hz
    obtain ⟨rfl, rfl⟩ := Prod.mk.inj hz2
    clear hr hz hz2
    go_enter Tryd.func18, Tryd.ntmps18
    go_wp2_with (first | (go_at_call 43; refine (HC'.out _).mono ?_; rintro e w2 ⟨rfl, hb2⟩; obtain ⟨hc2, hf2⟩ := bcell hb2; have hs2 := hb2.size; (try simp at hs2); have hz2_0 : w.heap.size < w2.heap.size := (by omega)) | (go_at_call 16; refine (HP'.out _).mono ?_; rintro e w3 ⟨rfl, hb3⟩; obtain ⟨hc3, hf3⟩ := bcell hb3; have hs3 := hb3.size; (try simp at hs3); have hz3_0 : w.heap.size < w3.heap.size := (by omega)))
    go_wp2
    refine bodyPost_ret (v := .tuple #[.agg #[.int .u32 0, .int .i64 0], .bool false]) (by simp [results, Tryd.results18, go_sem, hc3, hc2, hz2_0]) rfl ?_
    exact ⟨rfl, by ((repeat (first | exact Below.refl _ _ | refine Below.drew ?_ | refine Below.setCell ?_ (by first | (simp; done) | (simp; omega) | omega) _ | refine Below.alloc ?_ (by first | (simp; done) | (simp; omega) | omega) _ | refine Below.trans ?_ (Below.mono hb3 (by first | (simp; done) | (simp; omega) | omega)) | refine Below.trans ?_ (Below.mono hb2 (by first | (simp; done) | (simp; omega) | omega)))); done)⟩
  rcases Bool.eq_false_or_eq_true ((r.size : Int) == 0) with g0 | g0
  · have hz : (a, n, ok) = (0, 0, false) := by
      rw [← hr]
      have h0 : r.data.toList.length = 0 := by (have := eq_of_beq g0; simp at this ⊢; exact this)
      rw [parsePost, if_neg (by rw [bitsOk_short h0]; simp)]
    obtain ⟨rfl, hz2⟩ := Prod.mk.inj hz
    obtain ⟨rfl, rfl⟩ := Prod.mk.inj hz2
    clear hr hz hz2
    go_enter Tryd.func18, Tryd.ntmps18
    go_wp2_with (first | (go_at_call 43; refine (HC'.out _).mono ?_; rintro e w2 ⟨rfl, hb2⟩; obtain ⟨hc2, hf2⟩ := bcell hb2; have hs2 := hb2.size; (try simp at hs2); have hz2_0 : w.heap.size < w2.heap.size := (by omega)) | (go_at_call 16; refine (HP'.out _).mono ?_; rintro e w3 ⟨rfl, hb3⟩; obtain ⟨hc3, hf3⟩ := bcell hb3; have hs3 := hb3.size; (try simp at hs3); have hz3_0 : w.heap.size < w3.heap.size := (by omega)))
    go_wp2
    refine bodyPost_ret (v := .tuple #[.agg #[.int .u32 0, .int .i64 0], .bool false]) (by simp [results, Tryd.results18, go_sem, hc3, hc2, hz2_0]) rfl ?_
    exact ⟨rfl, by ((repeat (first | exact Below.refl _ _ | refine Below.drew ?_ | refine Below.setCell ?_ (by first | (simp; done) | (simp; omega) | omega) _ | refine Below.alloc ?_ (by first | (simp; done) | (simp; omega) | omega) _ | refine Below.trans ?_ (Below.mono hb3 (by first | (simp; done) | (simp; omega) | omega)) | refine Below.trans ?_ (Below.mono hb2 (by first | (simp; done) | (simp; omega) | omega)))); done)⟩
  by_cases g2 : 2 < r.size
  · have hz : (a, n, ok) = (0, 0, false) := by
      rw [← hr]
      have h0 : 2 < r.data.toList.length := by simpa using g2
      rw [parsePost, if_neg (by rw [bitsOk_long h0]; simp)]
    obtain ⟨rfl, hz2⟩ := Prod.mk.inj hz
    obtain ⟨rfl, rfl⟩ := Prod.mk.inj hz2
    clear hr hz hz2
    go_enter Tryd.func18, Tryd.ntmps18
    go_wp2_with (first | (go_at_call 43; refine (HC'.out _).mono ?_; rintro e w2 ⟨rfl, hb2⟩; obtain ⟨hc2, hf2⟩ := bcell hb2; have hs2 := hb2.size; (try simp at hs2); have hz2_0 : w.heap.size < w2.heap.size := (by omega)) | (go_at_call 16; refine (HP'.out _).mono ?_; rintro e w3 ⟨rfl, hb3⟩; obtain ⟨hc3, hf3⟩ := bcell hb3; have hs3 := hb3.size; (try simp at hs3); have hz3_0 : w.heap.size < w3.heap.size := (by omega)))
    go_wp2
    refine bodyPost_ret (v := .tuple #[.agg #[.int .u32 0, .int .i64 0], .bool false]) (by simp [results, Tryd.results18, go_sem, hc3, hc2, hz2_0]) rfl ?_
    exact ⟨rfl, by ((repeat (first | exact Below.refl _ _ | refine Below.drew ?_ | refine Below.setCell ?_ (by first | (simp; done) | (simp; omega) | omega) _ | refine Below.alloc ?_ (by first | (simp; done) | (simp; omega) | omega) _ | refine Below.trans ?_ (Below.mono hb3 (by first | (simp; done) | (simp; omega) | omega)) | refine Below.trans ?_ (Below.mono hb2 (by first | (simp; done) | (simp; omega) | omega)))); done)⟩
  have hrl : r.data.toList.length = r.size := by simp
  have g0' : ¬ r.size = 0 := by intro h; rw [h] at g0; exact absurd g0 (by decide)
  have hlen : 1 ≤ r.size ∧ r.size ≤ 2 := by omega
  clear g0'
  have hsz1 := hlen.1
  have hsz2 := hlen.2
  clear hlen g2
  rcases Bool.eq_false_or_eq_true ((r.size : Int) == 2) with ge | ge
  · have h2 : r.size = 2 := by have := eq_of_beq ge; omega
    have h0 : r.data.toList.getD 0 0 = r[0] := by rw [List.getD_eq_getElem?_getD, List.getElem?_eq_getElem (by simp; omega)]; rfl
    rcases Bool.eq_false_or_eq_true ((r[0].toNat : Int) == 48) with g48 | g48
    · have hz : (a, n, ok) = (0, 0, false) := by
        rw [← hr]
        have h4 : r[0].toNat = 48 := by (have := eq_of_beq g48; omega)
        simp only [parsePost, bitsOk, h0, h4, hrl, h2]; simp
      obtain ⟨rfl, hz2⟩ := Prod.mk.inj hz
      obtain ⟨rfl, rfl⟩ := Prod.mk.inj hz2
      clear hr hz hz2 h2 h0 hrl
      go_enter Tryd.func18, Tryd.ntmps18
      go_wp2_with (first | (go_at_call 43; refine (HC'.out _).mono ?_; rintro e w2 ⟨rfl, hb2⟩; obtain ⟨hc2, hf2⟩ := bcell hb2; have hs2 := hb2.size; (try simp at hs2); have hz2_0 : w.heap.size < w2.heap.size := (by omega)) | (go_at_call 16; refine (HP'.out _).mono ?_; rintro e w3 ⟨rfl, hb3⟩; obtain ⟨hc3, hf3⟩ := bcell hb3; have hs3 := hb3.size; (try simp at hs3); have hz3_0 : w.heap.size < w3.heap.size := (by omega)))
      go_wp2
      refine bodyPost_ret (v := .tuple #[.agg #[.int .u32 0, .int .i64 0], .bool false]) (by simp [results, Tryd.results18, go_sem, hc3, hc2, hz2_0]) rfl ?_
      exact ⟨rfl, by ((repeat (first | exact Below.refl _ _ | refine Below.drew ?_ | refine Below.setCell ?_ (by first | (simp; done) | (simp; omega) | omega) _ | refine Below.alloc ?_ (by first | (simp; done) | (simp; omega) | omega) _ | refine Below.trans ?_ (Below.mono hb3 (by first | (simp; done) | (simp; omega) | omega)) | refine Below.trans ?_ (Below.mono hb2 (by first | (simp; done) | (simp; omega) | omega)))); done)⟩
    · have hbo : bitsOk r.data.toList = true := by
        have h4 : ¬ r[0].toNat = 48 := by simp at g48; omega
        simp only [bitsOk, h0, h4, hrl, h2]; simp
      clear h0 h2
      have hrr : (match dGo r.data.toList 0 with | none => (0, 0, false) | some n => if valB qa n = true then (qa, n, true) else (0, 0, false)) = (a, n, ok) := by
        rw [← hr, parsePost, if_pos ⟨rfl, rfl, hbo⟩]
      clear hr hbo
      have HRR := Lib.hid hrr
      clear hrr hrl
      go_enter Tryd.func18, Tryd.ntmps18
      go_wp2_with (first | (go_at_call 43; refine (HC'.out _).mono ?_; rintro e w2 ⟨rfl, hb2⟩; obtain ⟨hc2, hf2⟩ := bcell hb2; have hs2 := hb2.size; (try simp at hs2); have hz2_0 : w.heap.size < w2.heap.size := (by omega)) | (go_at_call 16; refine (HP'.out _).mono ?_; rintro e w3 ⟨rfl, hb3⟩; obtain ⟨hc3, hf3⟩ := bcell hb3; have hs3 := hb3.size; (try simp at hs3); have hz3_0 : w.heap.size < w3.heap.size := (by omega)))
      go_loop [9, 10] (fun m i => ∃ (k : Nat) (v : Int), k ≤ r.size ∧ i = .int .i64 k ∧ m = .int .i64 v ∧ dGo r.data.toList 0 = dGo (r.data.toList.drop k) v ∧ 0 ≤ v ∧ v ≤ 99 ∧ (k ≤ 1 → v ≤ 9) ∧ (k = 0 → v = 0)) (fun _ i => r.size - (intOf i).toNat)
      case atStart => exact ⟨0, 0, Nat.zero_le _, rfl, rfl, rfl, by omega, by omega, by omega, by omega⟩
      case round =>
        obtain ⟨k, v, hk, rfl, rfl, hd, hv0, hv1, hv2, hv3⟩ := hrel
        by_cases hlt : k < r.size
        · rw [drop_cons r k hlt, dGo] at hd
          have hv9 : v ≤ 9 := hv2 (by omega)
          have hvz : k = 0 → v = 0 := hv3
          have HV := Lib.hid hvz
          clear hv1 hv2 hv3 hvz
          have hc8 := UInt8.toNat_lt r[k]
          by_cases gc : r[k].toNat < 48 ∨ 57 < r[k].toNat
          · rw [if_pos gc] at hd
            have hz : (0, 0, false) = (a, n, ok) := by rw [← HRR.out, hd]
            obtain ⟨rfl, hz2⟩ := Prod.mk.inj hz
            obtain ⟨rfl, rfl⟩ := Prod.mk.inj hz2
            clear hd hz hz2
            rcases Bool.eq_false_or_eq_true (decide ((r[k].toNat : Int) < 48)) with gx | gx
            · clear gc
              go_wp2
              refine bodyPost_ret (v := .tuple #[.agg #[.int .u32 0, .int .i64 0], .bool false]) (by simp [results, Tryd.results18, go_sem, hc3, hc2, hz2_0]) rfl ?_
              exact ⟨rfl, by ((repeat (first | exact Below.refl _ _ | refine Below.drew ?_ | refine Below.setCell ?_ (by first | (simp; done) | (simp; omega) | omega) _ | refine Below.alloc ?_ (by first | (simp; done) | (simp; omega) | omega) _ | refine Below.trans ?_ (Below.mono hb3 (by first | (simp; done) | (simp; omega) | omega)) | refine Below.trans ?_ (Below.mono hb2 (by first | (simp; done) | (simp; omega) | omega)))); done)⟩
            · have gy : (57 : Int) < r[k].toNat := by simp at gx; omega
              clear gc
              go_wp2
              refine bodyPost_ret (v := .tuple #[.agg #[.int .u32 0, .int .i64 0], .bool false]) (by simp [results, Tryd.results18, go_sem, hc3, hc2, hz2_0]) rfl ?_
              exact ⟨rfl, by ((repeat (first | exact Below.refl _ _ | refine Below.drew ?_ | refine Below.setCell ?_ (by first | (simp; done) | (simp; omega) | omega) _ | refine Below.alloc ?_ (by first | (simp; done) | (simp; omega) | omega) _ | refine Below.trans ?_ (Below.mono hb3 (by first | (simp; done) | (simp; omega) | omega)) | refine Below.trans ?_ (Below.mono hb2 (by first | (simp; done) | (simp; omega) | omega)))); done)⟩
          · rw [if_neg gc] at hd
            have gx : (48 : Int) ≤ r[k].toNat := by omega
            have gy : (r[k].toNat : Int) ≤ 57 := by omega
            have HD := Lib.hid hd
            have hw : ((r[k].toNat : Int) - 48) % 256 = (r[k].toNat : Int) - 48 := by omega
            have hb1 : k ≤ 0 → 10 * v + ((r[k].toNat : Int) - 48) ≤ 9 := fun h => by have := HV.out (by omega); omega
            have HB1 := Lib.hid hb1
            clear hd gc hb1
            go_wp2
            go_round
            case rel => exact ⟨k + 1, 10 * v + ((r[k].toNat : Int) - 48), by omega, by go_num, rfl, HD.out, by omega, by omega, fun h => HB1.out (by omega), fun h => absurd h (by omega)⟩
            case measure => simp [intOf]; omega
        · have hd2 : dGo r.data.toList 0 = some v := by rw [hd, List.drop_eq_nil_of_le (by simp; omega)]; rfl
          have hv := HRR.out
          rw [hd2] at hv
          dsimp only at hv
          clear hd hd2 HRR hv1 hv2 hv3
          rcases Bool.eq_false_or_eq_true (valB qa v) with gv | gv
          · rw [if_pos gv] at hv
            obtain ⟨rfl, hz2⟩ := Prod.mk.inj hv
            obtain ⟨rfl, rfl⟩ := Prod.mk.inj hz2
            clear hv hz2
            go_wp2_with (go_at_call 24; refine (prefix_ValidB _ _ hqb.1 hqb.2 gv _).mono ?_; rintro e w4 ⟨rfl, hb4⟩; obtain ⟨hc4, hf4⟩ := bcell hb4; have hs4 := hb4.size; (try simp at hs4); have hz4_0 : w.heap.size < w4.heap.size := (by omega); have hz4_1 : w3.heap.size < w4.heap.size := (by omega))
            go_wp2
            refine bodyPost_ret (v := .tuple #[.agg #[.int .u32 qa, .int .i64 v], .bool true]) (by simp [results, Tryd.results18, go_sem, hc4, hc3, hc2, hz2_0, hz3_0, hz4_0, Nat.lt_succ_of_lt hz3_0, Nat.ne_of_lt hz3_0]) rfl ?_
            exact ⟨rfl, by ((repeat (first | exact Below.refl _ _ | refine Below.drew ?_ | refine Below.setCell ?_ (by first | (simp; done) | (simp; omega) | omega) _ | refine Below.alloc ?_ (by first | (simp; done) | (simp; omega) | omega) _ | refine Below.trans ?_ (Below.mono hb4 (by first | (simp; done) | (simp; omega) | omega)) | refine Below.trans ?_ (Below.mono hb3 (by first | (simp; done) | (simp; omega) | omega)) | refine Below.trans ?_ (Below.mono hb2 (by first | (simp; done) | (simp; omega) | omega)))); done)⟩
          · rw [if_neg (by rw [gv]; exact Bool.false_ne_true)] at hv
            obtain ⟨rfl, hz2⟩ := Prod.mk.inj hv
            obtain ⟨rfl, rfl⟩ := Prod.mk.inj hz2
            clear hv hz2
            go_wp2_with (go_at_call 24; refine (prefix_ValidB _ _ hqb.1 hqb.2 gv _).mono ?_; rintro e w4 ⟨rfl, hb4⟩; obtain ⟨hc4, hf4⟩ := bcell hb4; have hs4 := hb4.size; (try simp at hs4); have hz4_0 : w.heap.size < w4.heap.size := (by omega); have hz4_1 : w3.heap.size < w4.heap.size := (by omega))
            go_wp2
            refine bodyPost_ret (v := .tuple #[.agg #[.int .u32 0, .int .i64 0], .bool false]) (by simp [results, Tryd.results18, go_sem, hc4, hc3, hc2, hz2_0, hz3_0, hz4_0, Nat.lt_succ_of_lt hz3_0, Nat.ne_of_lt hz3_0]) rfl ?_
            exact ⟨rfl, by ((repeat (first | exact Below.refl _ _ | refine Below.drew ?_ | refine Below.setCell ?_ (by first | (simp; done) | (simp; omega) | omega) _ | refine Below.alloc ?_ (by first | (simp; done) | (simp; omega) | omega) _ | refine Below.trans ?_ (Below.mono hb4 (by first | (simp; done) | (simp; omega) | omega)) | refine Below.trans ?_ (Below.mono hb3 (by first | (simp; done) | (simp; omega) | omega)) | refine Below.trans ?_ (Below.mono hb2 (by first | (simp; done) | (simp; omega) | omega)))); done)⟩
  · have hbo : bitsOk r.data.toList = true := by
      have h4 : ¬ r.size = 2 := by intro h; rw [h] at ge; exact absurd ge (by decide)
      simp only [bitsOk, hrl, h4]; simp; omega
    have hrr : (match dGo r.data.toList 0 with | none => (0, 0, false) | some n => if valB qa n = true then (qa, n, true) else (0, 0, false)) = (a, n, ok) := by
      rw [← hr, parsePost, if_pos ⟨rfl, rfl, hbo⟩]
    clear hr hbo
    have HRR := Lib.hid hrr
    clear hrr hrl
    go_enter Tryd.func18, Tryd.ntmps18
    go_wp2_with (first | (go_at_call 43; refine (HC'.out _).mono ?_; rintro e w2 ⟨rfl, hb2⟩; obtain ⟨hc2, hf2⟩ := bcell hb2; have hs2 := hb2.size; (try simp at hs2); have hz2_0 : w.heap.size < w2.heap.size := (by omega)) | (go_at_call 16; refine (HP'.out _).mono ?_; rintro e w3 ⟨rfl, hb3⟩; obtain ⟨hc3, hf3⟩ := bcell hb3; have hs3 := hb3.size; (try simp at hs3); have hz3_0 : w.heap.size < w3.heap.size := (by omega)))
    go_loop [9, 10] (fun m i => ∃ (k : Nat) (v : Int), k ≤ r.size ∧ i = .int .i64 k ∧ m = .int .i64 v ∧ dGo r.data.toList 0 = dGo (r.data.toList.drop k) v ∧ 0 ≤ v ∧ v ≤ 99 ∧ (k ≤ 1 → v ≤ 9) ∧ (k = 0 → v = 0)) (fun _ i => r.size - (intOf i).toNat)
    case atStart => exact ⟨0, 0, Nat.zero_le _, rfl, rfl, rfl, by omega, by omega, by omega, by omega⟩
    case round =>
      obtain ⟨k, v, hk, rfl, rfl, hd, hv0, hv1, hv2, hv3⟩ := hrel
      by_cases hlt : k < r.size
      · rw [drop_cons r k hlt, dGo] at hd
        have hv9 : v ≤ 9 := hv2 (by omega)
        have hvz : k = 0 → v = 0 := hv3
        have HV := Lib.hid hvz
        clear hv1 hv2 hv3 hvz
        have hc8 := UInt8.toNat_lt r[k]
        by_cases gc : r[k].toNat < 48 ∨ 57 < r[k].toNat
        · rw [if_pos gc] at hd
          have hz : (0, 0, false) = (a, n, ok) := by rw [← HRR.out, hd]
          obtain ⟨rfl, hz2⟩ := Prod.mk.inj hz
          obtain ⟨rfl, rfl⟩ := Prod.mk.inj hz2
          clear hd hz hz2
          rcases Bool.eq_false_or_eq_true (decide ((r[k].toNat : Int) < 48)) with gx | gx
          · clear gc
            go_wp2
            refine bodyPost_ret (v := .tuple #[.agg #[.int .u32 0, .int .i64 0], .bool false]) (by simp [results, Tryd.results18, go_sem, hc3, hc2, hz2_0]) rfl ?_
            exact ⟨rfl, by ((repeat (first | exact Below.refl _ _ | refine Below.drew ?_ | refine Below.setCell ?_ (by first | (simp; done) | (simp; omega) | omega) _ | refine Below.alloc ?_ (by first | (simp; done) | (simp; omega) | omega) _ | refine Below.trans ?_ (Below.mono hb3 (by first | (simp; done) | (simp; omega) | omega)) | refine Below.trans ?_ (Below.mono hb2 (by first | (simp; done) | (simp; omega) | omega)))); done)⟩
          · have gy : (57 : Int) < r[k].toNat := by simp at gx; omega
            clear gc
            go_wp2
            refine bodyPost_ret (v := .tuple #[.agg #[.int .u32 0, .int .i64 0], .bool false]) (by simp [results, Tryd.results18, go_sem, hc3, hc2, hz2_0]) rfl ?_
            exact ⟨rfl, by ((repeat (first | exact Below.refl _ _ | refine Below.drew ?_ | refine Below.setCell ?_ (by first | (simp; done) | (simp; omega) | omega) _ | refine Below.alloc ?_ (by first | (simp; done) | (simp; omega) | omega) _ | refine Below.trans ?_ (Below.mono hb3 (by first | (simp; done) | (simp; omega) | omega)) | refine Below.trans ?_ (Below.mono hb2 (by first | (simp; done) | (simp; omega) | omega)))); done)⟩
        · rw [if_neg gc] at hd
          have gx : (48 : Int) ≤ r[k].toNat := by omega
          have gy : (r[k].toNat : Int) ≤ 57 := by omega
          have HD := Lib.hid hd
          have hw : ((r[k].toNat : Int) - 48) % 256 = (r[k].toNat : Int) - 48 := by omega
          have hb1 : k ≤ 0 → 10 * v + ((r[k].toNat : Int) - 48) ≤ 9 := fun h => by have := HV.out (by omega); omega
          have HB1 := Lib.hid hb1
          clear hd gc hb1
          go_wp2
          go_round
          case rel => exact ⟨k + 1, 10 * v + ((r[k].toNat : Int) - 48), by omega, by go_num, rfl, HD.out, by omega, by omega, fun h => HB1.out (by omega), fun h => absurd h (by omega)⟩
          case measure => simp [intOf]; omega
      · have hd2 : dGo r.data.toList 0 = some v := by rw [hd, List.drop_eq_nil_of_le (by simp; omega)]; rfl
        have hv := HRR.out
        rw [hd2] at hv
        dsimp only at hv
        clear hd hd2 HRR hv1 hv2 hv3
        rcases Bool.eq_false_or_eq_true (valB qa v) with gv | gv
        · rw [if_pos gv] at hv
          obtain ⟨rfl, hz2⟩ := Prod.mk.inj hv
          obtain ⟨rfl, rfl⟩ := Prod.mk.inj hz2
          clear hv hz2
          go_wp2_with (go_at_call 24; refine (prefix_ValidB _ _ hqb.1 hqb.2 gv _).mono ?_; rintro e w4 ⟨rfl, hb4⟩; obtain ⟨hc4, hf4⟩ := bcell hb4; have hs4 := hb4.size; (try simp at hs4); have hz4_0 : w.heap.size < w4.heap.size := (by omega); have hz4_1 : w3.heap.size < w4.heap.size := (by omega))
          go_wp2
          refine bodyPost_ret (v := .tuple #[.agg #[.int .u32 qa, .int .i64 v], .bool true]) (by simp [results, Tryd.results18, go_sem, hc4, hc3, hc2, hz2_0, hz3_0, hz4_0, Nat.lt_succ_of_lt hz3_0, Nat.ne_of_lt hz3_0]) rfl ?_
          exact ⟨rfl, by ((repeat (first | exact Below.refl _ _ | refine Below.drew ?_ | refine Below.setCell ?_ (by first | (simp; done) | (simp; omega) | omega) _ | refine Below.alloc ?_ (by first | (simp; done) | (simp; omega) | omega) _ | refine Below.trans ?_ (Below.mono hb4 (by first | (simp; done) | (simp; omega) | omega)) | refine Below.trans ?_ (Below.mono hb3 (by first | (simp; done) | (simp; omega) | omega)) | refine Below.trans ?_ (Below.mono hb2 (by first | (simp; done) | (simp; omega) | omega)))); done)⟩
        · rw [if_neg (by rw [gv]; exact Bool.false_ne_true)] at hv
          obtain ⟨rfl, hz2⟩ := Prod.mk.inj hv
          obtain ⟨rfl, rfl⟩ := Prod.mk.inj hz2
          clear hv hz2
          go_wp2_with (go_at_call 24; refine (prefix_ValidB _ _ hqb.1 hqb.2 gv _).mono ?_; rintro e w4 ⟨rfl, hb4⟩; obtain ⟨hc4, hf4⟩ := bcell hb4; have hs4 := hb4.size; (try simp at hs4); have hz4_0 : w.heap.size < w4.heap.size := (by omega); have hz4_1 : w3.heap.size < w4.heap.size := (by omega))
          go_wp2
          refine bodyPost_ret (v := .tuple #[.agg #[.int .u32 0, .int .i64 0], .bool false]) (by simp [results, Tryd.results18, go_sem, hc4, hc3, hc2, hz2_0, hz3_0, hz4_0, Nat.lt_succ_of_lt hz3_0, Nat.ne_of_lt hz3_0]) rfl ?_
          exact ⟨rfl, by ((repeat (first | exact Below.refl _ _ | refine Below.drew ?_ | refine Below.setCell ?_ (by first | (simp; done) | (simp; omega) | omega) _ | refine Below.alloc ?_ (by first | (simp; done) | (simp; omega) | omega) _ | refine Below.trans ?_ (Below.mono hb4 (by first | (simp; done) | (simp; omega) | omega)) | refine Below.trans ?_ (Below.mono hb3 (by first | (simp; done) | (simp; omega) | omega)) | refine Below.trans ?_ (Below.mono hb2 (by first | (simp; done) | (simp; omega) | omega)))); done)⟩
end Go.Proofs.YtekhggaafeonjaaDoor
