/- Walks of package prefix: ParseAddr. -/
import Derived.Test.YtekhggaafeonjaaDoorPre3
import Derived.Test.YtekhggaafeonjaaDoorStr
import Derived.Test.YtekhggaafeonjaaDoorTxtM
import Derived.WalkMore
namespace Go.Proofs.YtekhggaafeonjaaDoor
open Go.RowKit
structure PA where
  n : Nat
  d : Nat
  p : List Int
def paStep (c : Nat) (st : PA) : Option PA :=
  if c = 46 then (if st.d = 0 ∨ st.n = 3 then none else some { n := st.n + 1, d := 0, p := st.p })
  else if c < 48 ∨ 57 < c then none
  else if 0 < st.d ∧ st.p.getD st.n 0 = 0 then none
  else if 255 < 10 * st.p.getD st.n 0 + ((c : Int) - 48) then none
  else some { n := st.n, d := st.d + 1, p := st.p.set st.n (10 * st.p.getD st.n 0 + ((c : Int) - 48)) }
def paGo : List UInt8 → PA → Option PA
  | [], st => some st
  | c :: l, st => (paStep c.toNat st).bind (paGo l)
def paVal (p : List Int) : Int := p.getD 0 0 * 16777216 + p.getD 1 0 * 65536 + p.getD 2 0 * 256 + p.getD 3 0
def paEnd (st : Option PA) : Int × Bool :=
  match st with
  | none => (0, false)
  | some st => if st.n ≠ 3 ∨ st.d = 0 then (0, false) else (paVal st.p, true)
def paRes (l : List UInt8) : Int × Bool := paEnd (paGo l { n := 0, d := 0, p := [0, 0, 0, 0] })
structure PAok (st : PA) (B : Nat) (w : World) : Prop where
  n3 : st.n ≤ 3
  len : st.p.length = 4
  bd : ∀ j, 0 ≤ st.p.getD j 0 ∧ st.p.getD j 0 ≤ 255
  cell : ∀ j, j < 4 → w.cell? ⟨B, j, none⟩ = some (.int .u32 (st.p.getD j 0))
  froz : ∀ j, j < 4 → w.frozen? ⟨B, j, none⟩ = false
theorem PAok.dot {n d : Nat} {p : List Int} {B : Nat} {w : World} (h : PAok ⟨n, d, p⟩ B w) (hn : n ≠ 3) : PAok ⟨n + 1, 0, p⟩ B w :=
  ⟨by have := h.n3; simp at *; omega, h.len, h.bd, h.cell, h.froz⟩
theorem PAok.digit {n d : Nat} {p : List Int} {B : Nat} {w : World} (h : PAok ⟨n, d, p⟩ B w) {v : Int} (hv0 : 0 ≤ v) (hv1 : v ≤ 255) : PAok ⟨n, d + 1, p.set n v⟩ B (w.setCell ⟨B, n, none⟩ (.int .u32 v)) := by
  have h3 := h.n3
  have hl := h.len
  dsimp only at h3 hl
  have key : ∀ j, (p.set n v).getD j 0 = if j = n then v else p.getD j 0 := fun j => by
    simp only [List.getD_eq_getElem?_getD, List.getElem?_set]
    by_cases hj : n = j
    · subst hj; simp [show n < p.length by omega]
    · simp [hj, Ne.symm hj]
  refine ⟨h3, by simpa using hl, fun j => ?_, fun j hj => ?_, fun j hj => ?_⟩
  · rw [key]; split
    · exact ⟨hv0, hv1⟩
    · exact h.bd j
  · dsimp only; rw [key]; split
    · rename_i hjn; subst hjn; exact World.cell?_setCell_same _ _ _ (h.cell j hj)
    · rename_i hjn; rw [World.cell?_setCell_other _ _ _ _ (by intro e; injection e with _ e2 _; exact hjn e2.symm)]; exact h.cell j hj
  · rw [World.frozen?_setCell]; exact h.froz j hj
set_option maxHeartbeats 1000000 in
theorem prefix_ParseAddr (s : ByteArray) (hs : s.size ≤ maxLen) (a : Int) (ok : Bool) (hr : paRes s.data.toList = (a, ok)) (w : World) :
    Calls Tryd.prog 16 #[.string s] w fun e w' => e = .returned (.tuple #[.int .u32 a, .bool ok]) ∧ Below w.heap.size w w' := by
  unfold maxLen at hs
  have HR := Lib.hid hr
  clear hr
  go_enter Tryd.func16, Tryd.ntmps16
  go_wp2
  go_step3
  go_wp2
  go_step3
  go_wp2
  go_loopw [5, 6, 7] (fun n d i wr => ∃ (k : Nat) (st : PA), k ≤ s.size ∧ i = .int .i64 k ∧ n = .int .i64 st.n ∧ d = .int .i64 st.d ∧ st.d ≤ k ∧ paRes s.data.toList = paEnd (paGo (s.data.toList.drop k) st) ∧ PAok st w.heap.size wr ∧ Below w.heap.size w wr ∧ w.heap.size < wr.heap.size)
    (fun _ _ i _ => s.size - (intOf i).toNat)
  case atStart =>
    refine ⟨0, { n := 0, d := 0, p := [0, 0, 0, 0] }, Nat.zero_le _, rfl, rfl, rfl, Nat.le_refl _, rfl, ⟨by decide, rfl, fun j => ?_, fun j hj => ?_, fun j hj => ?_⟩, (Below.refl _ _).alloc (Nat.le_refl _) _, by simp⟩
    · have hz : ∀ j, [(0 : Int), 0, 0, 0].getD j 0 = 0 := fun j => by
        rcases j with _ | _ | _ | _ | j <;> simp
      dsimp only; rw [hz]; decide
    · rcases j with _ | _ | _ | _ | j
      all_goals first | omega | (rw [World.cell?_alloc_at _ _ _ _ rfl]; rfl)
    · exact World.frozen?_alloc_at _ _ _ _ rfl
  case round =>
    obtain ⟨k, ⟨n, d, p⟩, hk, rfl, rfl, rfl, hdk, hgo, hok, hb, hsz⟩ := hrel
    have hn3 : n ≤ 3 := hok.n3
    have hbd : 0 ≤ p.getD n 0 ∧ p.getD n 0 ≤ 255 := hok.bd n
    have hcn : wr.cell? ⟨w.heap.size, n, none⟩ = some (.int .u32 (p.getD n 0)) := hok.cell n (by omega)
    have hfn := hok.froz n (by omega)
    have HOK := Lib.hid hok
    have hdk' : d ≤ k := hdk
    clear hok hdk
    by_cases hlt : k < s.size
    · rw [drop_cons s k hlt] at hgo
      have hc8 := UInt8.toNat_lt s[k]
      generalize hx : p.getD n 0 = x at *
      have HX := Lib.hid hx
      clear hx
      have HS : Hid (∀ c : Nat, c = s[k].toNat → ∀ r, paStep c ⟨n, d, p⟩ = r → paRes s.data.toList = paEnd (r.bind (paGo (s.data.toList.drop (k + 1))))) := by
        intro c hc r hr; subst hc; rw [hgo, paGo, hr]
      clear hgo
      have fin : ∀ r, paStep s[k].toNat ⟨n, d, p⟩ = r → r = none → (a, ok) = (0, false) := fun r h1 h2 => by
        rw [← HR.out, HS.out _ rfl r h1, h2]; rfl
      have FIN := Lib.hid fin
      clear fin
      rcases Bool.eq_false_or_eq_true ((s[k].toNat : Int) == 46) with g46 | g46
      · have e46 : s[k].toNat = 46 := by have := eq_of_beq g46; omega
        rcases Bool.eq_false_or_eq_true ((d : Int) == 0) with gd | gd
        · have hp : paStep s[k].toNat ⟨n, d, p⟩ = none := by
            have : d = 0 := by have := eq_of_beq gd; omega
            simp [paStep, e46, this]
          obtain ⟨rfl, rfl⟩ := Prod.mk.inj (FIN.out _ hp rfl)
          clear hp
          go_wp2
          try rw [Exit.noGoto_ret]
          go_ret2
          exact ⟨rfl, hb⟩
        · rcases Bool.eq_false_or_eq_true ((n : Int) == 3) with gn | gn
          · have hp : paStep s[k].toNat ⟨n, d, p⟩ = none := by
              have : n = 3 := by have := eq_of_beq gn; omega
              simp [paStep, e46, this]
            clear e46
            obtain ⟨rfl, rfl⟩ := Prod.mk.inj (FIN.out _ hp rfl)
            clear hp
            go_wp2
            try rw [Exit.noGoto_ret]
            go_ret2
            exact ⟨rfl, hb⟩
          · have hp : paStep s[k].toNat ⟨n, d, p⟩ = some ⟨n + 1, 0, p⟩ := by
              have h1 : ¬ (d = 0 ∨ n = 3) := by simp at gd gn; omega
              simp [paStep, e46, h1]
            have HG := Lib.hid (HS.out _ rfl _ hp)
            clear hp e46
            go_wp2
            go_roundw
            case rel => exact ⟨k + 1, ⟨n + 1, 0, p⟩, by omega, by go_num, by go_num, rfl, Nat.zero_le _, HG.out, HOK.out.dot (by simp at gn; omega), hb, hsz⟩
            case measure => simp [intOf]; omega
      · have e46 : ¬ s[k].toNat = 46 := by simp at g46; omega
        rcases Bool.eq_false_or_eq_true (decide ((s[k].toNat : Int) < 48)) with g48 | g48
        · have hp : paStep s[k].toNat ⟨n, d, p⟩ = none := by
            have : s[k].toNat < 48 := by simp at g48; omega
            simp [paStep, e46, this]
          clear e46
          obtain ⟨rfl, rfl⟩ := Prod.mk.inj (FIN.out _ hp rfl)
          clear hp
          go_wp2
          try rw [Exit.noGoto_ret]
          go_ret2
          exact ⟨rfl, hb⟩
        · have e48 : ¬ s[k].toNat < 48 := by simp at g48; omega
          rcases Bool.eq_false_or_eq_true (decide (57 < (s[k].toNat : Int))) with g57 | g57
          · have hp : paStep s[k].toNat ⟨n, d, p⟩ = none := by
              have : 57 < s[k].toNat := by simp at g57; omega
              simp [paStep, e46, this]
            clear e46 e48
            obtain ⟨rfl, rfl⟩ := Prod.mk.inj (FIN.out _ hp rfl)
            clear hp
            go_wp2
            try rw [Exit.noGoto_ret]
            go_ret2
            exact ⟨rfl, hb⟩
          · have e57 : s[k].toNat ≤ 57 := by simp at g57; omega
            have hng : ¬ (s[k].toNat < 48 ∨ 57 < s[k].toNat) := by omega
            have e48' : (48 : Int) ≤ s[k].toNat := by omega
            have e57' : (s[k].toNat : Int) ≤ 57 := by omega
            clear e57
            rcases Nat.eq_zero_or_pos d with gd | gd
            · subst gd
              have hng0 : ¬ ((0 : Nat) < 0 ∧ x = 0) := by omega
              have hw : ((s[k].toNat : Int) - 48) % 256 = (s[k].toNat : Int) - 48 := by omega
              by_cases g255 : 255 < 10 * x + ((s[k].toNat : Int) - 48)
              · have hp : paStep s[k].toNat ⟨n, 0, p⟩ = none := by
                  simp only [paStep, e46, hng, if_false, hng0, HX.out]
                  rw [if_pos g255]
                clear e46 e48 hng hng0
                obtain ⟨rfl, rfl⟩ := Prod.mk.inj (FIN.out _ hp rfl)
                clear hp
                go_wp2
                try rw [Exit.noGoto_ret]
                go_ret2
                exact ⟨rfl, Below.setCell hb (Nat.le_refl _) _⟩
              · have hp : paStep s[k].toNat ⟨n, 0, p⟩ = some ⟨n, 0 + 1, p.set n (10 * x + ((s[k].toNat : Int) - 48))⟩ := by
                  simp only [paStep, e46, hng, if_false, hng0, HX.out]
                  rw [if_neg g255]
                have HG := Lib.hid (HS.out _ rfl _ hp)
                have hlo : 0 ≤ 10 * x + ((s[k].toNat : Int) - 48) := by omega
                clear hp e46 e48 hng hng0
                go_wp2
                go_roundw
                case rel => exact ⟨k + 1, ⟨n, 0 + 1, p.set n (10 * x + ((s[k].toNat : Int) - 48))⟩, by omega, by go_num, rfl, by go_num, by dsimp only; omega, HG.out, HOK.out.digit hlo (by omega), Below.setCell hb (Nat.le_refl _) _, by simpa [World.setCell] using hsz⟩
                case measure => simp [intOf]; omega
            · rcases Bool.eq_false_or_eq_true (x == 0) with gx | gx
              · have hp : paStep s[k].toNat ⟨n, d, p⟩ = none := by
                  have hx0 := eq_of_beq gx
                  simp only [paStep, e46, hng, if_false, HX.out]
                  rw [if_pos ⟨gd, hx0⟩]
                clear e46 e48 hng
                obtain ⟨rfl, rfl⟩ := Prod.mk.inj (FIN.out _ hp rfl)
                clear hp
                go_wp2
                try rw [Exit.noGoto_ret]
                go_ret2
                exact ⟨rfl, hb⟩
              · have hx0 : ¬ x = 0 := by simpa using gx
                have hng0 : ¬ (0 < d ∧ x = 0) := by intro h; exact hx0 h.2
                have hw : ((s[k].toNat : Int) - 48) % 256 = (s[k].toNat : Int) - 48 := by omega
                by_cases g255 : 255 < 10 * x + ((s[k].toNat : Int) - 48)
                · have hp : paStep s[k].toNat ⟨n, d, p⟩ = none := by
                    simp only [paStep, e46, hng, if_false, hng0, HX.out]
                    rw [if_pos g255]
                  clear e46 e48 hng hng0 hx0
                  obtain ⟨rfl, rfl⟩ := Prod.mk.inj (FIN.out _ hp rfl)
                  clear hp
                  go_wp2
                  try rw [Exit.noGoto_ret]
                  go_ret2
                  exact ⟨rfl, Below.setCell hb (Nat.le_refl _) _⟩
                · have hp : paStep s[k].toNat ⟨n, d, p⟩ = some ⟨n, d + 1, p.set n (10 * x + ((s[k].toNat : Int) - 48))⟩ := by
                    simp only [paStep, e46, hng, if_false, hng0, HX.out]
                    rw [if_neg g255]
                  have HG := Lib.hid (HS.out _ rfl _ hp)
                  have hlo : 0 ≤ 10 * x + ((s[k].toNat : Int) - 48) := by omega
                  clear hp e46 e48 hng hng0 hx0
                  go_wp2
                  go_roundw
                  case rel => exact ⟨k + 1, ⟨n, d + 1, p.set n (10 * x + ((s[k].toNat : Int) - 48))⟩, by omega, by go_num, rfl, by go_num, by dsimp only; omega, HG.out, HOK.out.digit hlo (by omega), Below.setCell hb (Nat.le_refl _) _, by simpa [World.setCell] using hsz⟩
                  case measure => simp [intOf]; omega
    · have hend : paRes s.data.toList = paEnd (some ⟨n, d, p⟩) := by
        rw [hgo, List.drop_eq_nil_of_le (by simp; omega)]; rfl
      have hks : k = s.size := by omega
      subst hks
      clear hgo hk
      have hok := HOK.out
      have c0 := hok.cell 0 (by omega)
      have c1 := hok.cell 1 (by omega)
      have c2 := hok.cell 2 (by omega)
      have c3 := hok.cell 3 (by omega)
      have b0 := hok.bd 0
      have b1 := hok.bd 1
      have b2 := hok.bd 2
      have b3 := hok.bd 3
      have HE := Lib.hid hend
      clear hok hend hbd hcn hfn HOK
      dsimp only at c0 c1 c2 c3 b0 b1 b2 b3
      rcases Bool.eq_false_or_eq_true ((d : Int) == 0) with gd | gd
      · have hd0 : d = 0 := by have := eq_of_beq gd; omega
        have hf : (a, ok) = (0, false) := by rw [← HR.out, HE.out]; simp [paEnd, hd0]
        obtain ⟨rfl, rfl⟩ := Prod.mk.inj hf
        clear hf hd0 c0 c1 c2 c3 b0 b1 b2 b3
        go_wp2
        all_goals
          try rw [Exit.noGoto_ret]
          go_ret2
          exact ⟨rfl, hb⟩
      · have hd0 : ¬ d = 0 := by simpa using gd
        by_cases hn : n = 3
        · subst hn
          have hf : (a, ok) = (paVal p, true) := by rw [← HR.out, HE.out]; simp [paEnd, hd0]
          obtain ⟨rfl, rfl⟩ := Prod.mk.inj hf
          have HV := Lib.hid (show paVal p = p.getD 0 0 * 16777216 + p.getD 1 0 * 65536 + p.getD 2 0 * 256 + p.getD 3 0 from rfl)
          clear hf
          generalize p.getD 0 0 = p0 at *
          generalize p.getD 1 0 = p1 at *
          generalize p.getD 2 0 = p2 at *
          generalize p.getD 3 0 = p3 at *
          go_wp2
          rw [Exit.noGoto_ret]
          go_ret2
          exact ⟨by rw [HV.out, ← or4 p0 p1 p2 p3 b0 b1 b2 b3]; rfl, hb⟩
        · have hf : (a, ok) = (0, false) := by rw [← HR.out, HE.out]; simp [paEnd, hn]
          obtain ⟨rfl, rfl⟩ := Prod.mk.inj hf
          clear hf c0 c1 c2 c3 b0 b1 b2 b3
          go_wp2
          all_goals
            try rw [Exit.noGoto_ret]
            go_ret2
            exact ⟨rfl, hb⟩
end Go.Proofs.YtekhggaafeonjaaDoor
