/- contracts of other texts in the form of my logic -/
import Derived.Test.YtmaiillomoehgaaDoorVF
namespace Go.Proofs.YtmaiillomoehgaaDoor.V
open Go.RowKit Go.Proofs.YtmaiillomoehgaaDoor
set_option linter.unusedVariables false
set_option linter.unusedSimpArgs false
theorem bd_eq (b : Bool) (i : Decidable (b = true)) : Value.bool b = Value.bool (@decide (b = true) i) := by cases b <;> simp
theorem sWords (w : World) (F : Nat → Prop) (hF : Old F w) (M : MS [] w) (s : ByteArray) (s_h : inStr s) (hb : s.size ≤ 4398046511104) :
 Calls Tryd.prog 34 #[.string s] w fun e w' => ∃ (ra : Option Addr) (rc : Nat), e = .returned (.slice ra ((wordsB s).length) rc) ∧ (slE strE).wf (Fr F []) w'.heap (Sl.mk ra rc (wordsB s)) ∧ Tr [] w [] w' := by
 refine (src_words s hb w).mono fun e w' ⟨v, he, ho, hbl⟩ => ?_
 obtain ⟨a, c, rfl, h⟩ := strs_row hF ho fun l hl => by
  have := wGo_le s.data.toList [] l hl
  rw [← size_len] at this
  unfold maxLen; simp only [List.length_nil] at this; omega
 exact ⟨a, c, he, h, tr_below hbl⟩
theorem rWords (w : World) (F : Nat → Prop) (hF : Old F w) (M : MS [] w) (s : ByteArray) (s_h : inStr s) (hb : s.size ≤ 4398046511104) (h35 : ∀ c ∈ s.data.toList, c ≠ 35) :
 Calls Tryd.prog 43 #[.string s] w fun e w' => ∃ (ra : Option Addr) (rc : Nat), e = .returned (.slice ra ((wordsB s).length) rc) ∧ (slE strE).wf (Fr F []) w'.heap (Sl.mk ra rc (wordsB s)) ∧ Tr [] w [] w' := by
 refine (ref_words s hb h35 w).mono fun e w' ⟨v, he, ho, hbl⟩ => ?_
 obtain ⟨a, c, rfl, h⟩ := strs_row hF ho fun l hl => by
  have := wGo_le s.data.toList [] l hl
  rw [← size_len] at this
  unfold maxLen; simp only [List.length_nil] at this; omega
 exact ⟨a, c, he, h, tr_below hbl⟩
theorem sPrint (w : World) (F : Nat → Prop) (hF : Old F w) (M : MS [] w) (s : ByteArray) (s_h : inStr s) :
 Calls Tryd.prog 33 #[.string s] w fun e w' => e = .returned (bD (prB s)) ∧ Tr [] w [] w' := by
 refine (src_printable s s_h rfl w).mono ?_
 rintro e w2 ⟨rfl, rfl⟩
 exact ⟨congrArg Ending.returned (bd_eq _ _), tr_same _⟩
theorem sNumber (w : World) (F : Nat → Prop) (hF : Old F w) (M : MS [] w) (s : ByteArray) (s_h : inStr s) (l : Int) (l_h : inI64 l) (m : Int) (m_h : inI64 m) :
 Calls Tryd.prog 21 #[.string s, iI l, iI m] w fun e w' => e = .returned (.tuple #[iI ((numB s.data.toList l m).getD 0), bD ((numB s.data.toList l m).isSome = true)]) ∧ Tr [] w [] w' := by
 refine (src_Number s l m l_h.1 l_h.2 m_h.1 m_h.2 s_h rfl w).mono ?_
 rintro e w2 ⟨rfl, rfl⟩
 exact ⟨congrArg (fun v => Ending.returned (.tuple #[_, v])) (bd_eq _ _), tr_same _⟩
theorem sName (w : World) (F : Nat → Prop) (hF : Old F w) (M : MS [] w) (s : ByteArray) (s_h : inStr s) :
 Calls Tryd.prog 28 #[.string s] w fun e w' => e = .returned (bD (nameB s.data.toList = true)) ∧ Tr [] w [] w' := by
 refine (src_ValidName s s_h rfl w).mono ?_
 rintro e w2 ⟨rfl, rfl⟩
 exact ⟨congrArg Ending.returned (bd_eq _ _), tr_same _⟩
theorem rName (w : World) (F : Nat → Prop) (hF : Old F w) (M : MS [] w) (s : ByteArray) (s_h : inStr s) :
 Calls Tryd.prog 29 #[.string s] w fun e w' => e = .returned (bD (nameB s.data.toList = true)) ∧ Tr [] w [] w' := by
 refine (ref_ValidName s s_h rfl w).mono ?_
 rintro e w2 ⟨rfl, rfl⟩
 exact ⟨congrArg Ending.returned (bd_eq _ _), tr_same _⟩
theorem lSane (w : World) (F : Nat → Prop) (hF : Old F w) (M : MS [] w) (g_w : hasML w.heap) :
 Calls Tryd.prog 15 #[] w fun e w' => e = .returned (bD (True)) ∧ Tr [] w [] w' := by
 refine (law10_sane w (by obtain ⟨m, hm⟩ := g_w; exact ⟨m, hm⟩)).mono ?_
 rintro e w2 ⟨rfl, hb⟩
 exact ⟨by simp, tr_below hb⟩
theorem sSplit (w : World) (F : Nat → Prop) (hF : Old F w) (M : MS [] w) (s : ByteArray) (s_h : inStr s) (c : ByteArray) (c_h : inStr c) (hb : s.size < 4294967281 ∧ c = ⟨#[10]⟩) (g_w : hasML w.heap) :
 Calls Tryd.prog 32 #[.string s, .string c] w fun e w' => ∃ (ra : Option Addr) (rc : Nat), e = .returned (.slice ra ((partsB 10 s).length) rc) ∧ (slE strE).wf (Fr F []) w'.heap (Sl.mk ra rc (partsB 10 s)) ∧ Tr [] w [] w' := by
 obtain ⟨h1, rfl⟩ := hb
 refine (strings_Split1 s 10 h1 w (by obtain ⟨m, hm⟩ := g_w; exact ⟨m, hm⟩)).mono ?_
 rintro e w2 ⟨rfl, rfl⟩
 have hn := parts_pos 10 s
 have hl := parts_len 10 s
 have e10 : partsB 10 s = (partsL 10 s.data.toList).map mkB := rfl
 rw [e10] at hn hl ⊢
 refine ⟨some ⟨w.heap.size, 0, none⟩, ((partsL 10 s.data.toList).map mkB).length, by rw [List.length_map], ?_, tr_below ((Below.refl _ _).alloc (Nat.le_refl _) _)⟩
 refine sl_of_blk (Blk.new _ _ _) _ _ rfl (by unfold maxLen; omega) hn (flat_str _) ⟨fun e => e, fun e => Nat.lt_irrefl _ (hF _ e)⟩ fun x hx => ?_
 obtain ⟨l, hm, rfl⟩ := List.mem_map.1 hx
 have := parts_le 10 _ l hm
 rw [← size_len] at this
 show (mkB l).size ≤ maxLen
 rw [mkB_size]; unfold maxLen; omega
theorem rParts (w : World) (F : Nat → Prop) (hF : Old F w) (M : MS [] w) (s : ByteArray) (s_h : inStr s) (c : Int) (c_h : inU8 c) (hb : s.size ≤ 4398046511104) :
 Calls Tryd.prog 42 #[.string s, .int .u8 c] w fun e w' => ∃ (ra : Option Addr) (rc : Nat), e = .returned (.slice ra ((partsB c s).length) rc) ∧ (slE strE).wf (Fr F []) w'.heap (Sl.mk ra rc (partsB c s)) ∧ Tr [] w [] w' := by
 have hc0 : ((UInt8.ofNat c.toNat).toNat : Int) = c := by have h1 := c_h.1; have h2 := c_h.2; simp; omega
 have h0 := ref_Parts s (UInt8.ofNat c.toNat) hb w
 rw [hc0] at h0
 refine h0.mono fun e w' ⟨v, he, ho, hbl⟩ => ?_
 obtain ⟨a, k, rfl, h⟩ := strs_row hF ho fun l hl => by
  have := parts_le _ _ l hl
  rw [← size_len] at this
  unfold maxLen; omega
 exact ⟨a, k, he, h, tr_below hbl⟩
end Go.Proofs.YtmaiillomoehgaaDoor.V
