/- Walks of package source: the closure of words. -/
import Derived.Test.YtmaiillomoehgaaDoorWrdM
import Derived.Test.YtmaiillomoehgaaDoorOwn
import Derived.Test.YtmaiillomoehgaaDoorRefT1
import Derived.Deep.AppendLies
import Derived.Deep.RegionLaw
namespace Go.Proofs.YtmaiillomoehgaaDoor
open Go.RowKit
/-- the captured variables of words: the line, the words, where a word begins -/
structure WS (B : Nat) (s : ByteArray) (out : List (List UInt8)) (st : Int) (v : Value) (w : World) : Prop where
  line : Box w B [.string s]
  outs : Box w (B + 1) [v]
  start : Box w (B + 2) [.int .i64 st]
  own : w.ownsRow (B + 3) 9 1 v out.length (strCells out)
  size : B + 3 ≤ w.heap.size
theorem ws_start {B : Nat} {s : ByteArray} {out : List (List UInt8)} {st : Int} {v : Value} {w : World} (h : WS B s out st v w) (n : Int) : WS B s out n v (w.setCell ⟨B + 2, 0, none⟩ (.int .i64 n)) :=
  ⟨h.line.other (by omega) _ _, h.outs.other (by omega) _ _, by simpa using h.start.set 0 (by simp) (.int .i64 n), own_set h.own (by omega) _ _, by rw [size_set]; exact h.size⟩
theorem ws_below {B : Nat} {s : ByteArray} {out : List (List UInt8)} {st : Int} {v : Value} {w w' : World} (h : WS B s out st v w) (hb : Below w.heap.size w w') : WS B s out st v w' :=
  ⟨h.line.below hb h.line.lt, h.outs.below hb h.outs.lt, h.start.below hb h.start.lt, own_below h.own hb, Nat.le_trans h.size hb.size⟩
/-- a word has been appended, and stored -/
theorem ws_app {B : Nat} {s : ByteArray} {out : List (List UInt8)} {st : Int} {v v' : Value} {w w' : World} (h : WS B s out st v w) (hb : Below (B + 3) w w') (l : List UInt8)
    (hown : w'.ownsRow (B + 3) 9 1 v' (out.length + 1) (strCells out ++ [.string ⟨l.toArray⟩])) : WS B s (out ++ [l]) st v' (w'.setCell ⟨B + 1, 0, none⟩ v') :=
  ⟨(h.line.below hb (by omega)).other (by omega) _ _, by simpa using (h.outs.below hb (by omega)).set 0 (by simp) v', (h.start.below hb (by omega)).other (by omega) _ _,
    by rw [strCells_snoc, List.length_append]; exact own_set hown (by omega) _ _, by rw [size_set]; exact Nat.le_trans h.size hb.size⟩
set_option maxHeartbeats 2000000 in
theorem src_words1 (B : Nat) (s : ByteArray) (hs : s.size ≤ 4398046511104) (out : List (List UInt8)) (hout : out.length ≤ 8796093022207) (k : Nat) (hk : k ≤ s.size) (st : Int) (hst : st = -1 ∨ (0 ≤ st ∧ st ≤ k)) (v : Value) (w : World) (h : WS B s out st v w) :
    Calls Tryd.prog 45 #[.int .i64 k, .pointer (some ⟨B + 2, 0, none⟩), .pointer (some ⟨B + 1, 0, none⟩), .pointer (some ⟨B, 0, none⟩)] w fun e w' =>
      e = .returned (.tuple #[]) ∧ Below B w w' ∧ ∃ v', WS B s (out ++ if st < 0 then [] else [(s.data.toList.drop st.toNat).take (k - st.toNat)]) (-1) v' w' := by
  have H := Lib.hid h
  have c0 := h.line.cell 0 _ rfl
  have c1 := h.outs.cell 0 _ rfl
  have c2 := h.start.cell 0 _ rfl
  have f1 := h.outs.froz 0 _ rfl
  have f2 := h.start.froz 0 _ rfl
  have z0 := h.line.lt
  have z1 := h.outs.lt
  have z2 := h.start.lt
  have z3 := h.size
  clear h
  by_cases hn : st < 0
  · rw [if_pos hn, List.append_nil]
    go_enter Tryd.func45, Tryd.ntmps45
    go_wp2
    refine bodyPost_end (v := .tuple #[]) (by simp [results, Tryd.results45, go_sem]) rfl ?_
    exact ⟨rfl, (Below.refl _ _).setCell (p := ⟨B + 2, 0, none⟩) (by dsimp only; omega) _, v, ws_start H.out (-1)⟩
  · rw [if_neg hn]
    have h0 : 0 ≤ st := by omega
    obtain ⟨f, rfl⟩ := Int.eq_ofNat_of_zero_le h0
    have hfk : f ≤ k := by omega
    clear hst
    go_enter Tryd.func45, Tryd.ntmps45
    go_wp2_with fail
    obtain ⟨i0, hi0, hz0, hz1, hz2⟩ := info_parts infoStr
    go_region_law ((refine step_append_lies _ rfl (.tmp 7) (.tmp 12) 29 rfl (B + 3) 9 i0 (.string ⟨#[]⟩) 1 16 Tryd.underlying29 hi0 hz0 hz1 hz2 rfl (by decide) v out.length (strCells out) (by rfl) (own_below H.out.own (by ((repeat (first | exact Below.refl _ _ | refine Below.drew ?_ | refine Below.setCell ?_ (by first | (simp; done) | (simp; omega) | omega) _ | refine Below.alloc ?_ (by first | (simp; done) | (simp; omega) | omega) _)); done))) ⟨w.heap.size, 0, none⟩ 1 1 [.string (s.extract f k)] (by rfl) rfl (World.news_of_block (by first | exact heap_alloc_new w _ | exact heap_alloc_new w.drew _)) (by intro u hu; simp at hu; subst hu; rfl) (by omega) (by unfold maxLen; omega) (by omega) (by simp; omega) (w.heap.size + 1) (by simp) ?_; intro g cap w1 hown1 hgrow hat hlt; have hb3 : Below (B + 3) w w1 := (by refine Below.trans ?_ (grown_below (own_below H.out.own ?_) hgrow (by simp; omega)) <;> ((repeat (first | exact Below.refl _ _ | refine Below.drew ?_ | refine Below.setCell ?_ (by first | (simp; done) | (simp; omega) | omega) _ | refine Below.alloc ?_ (by first | (simp; done) | (simp; omega) | omega) _)); done)); have d1 := (hb3.cell (p := ⟨B + 1, 0, none⟩) (by dsimp only; omega)).trans c1; have d2 := (hb3.cell (p := ⟨B + 2, 0, none⟩) (by dsimp only; omega)).trans c2; have e1 := (hb3.frozen (p := ⟨B + 1, 0, none⟩) (by dsimp only; omega)).trans f1; have e2 := (hb3.frozen (p := ⟨B + 2, 0, none⟩) (by dsimp only; omega)).trans f2; have HO1 := Lib.hid hown1; clear hown1 hgrow hat))
    all_goals
      go_wp2
      refine bodyPost_end (v := .tuple #[]) (by simp [results, Tryd.results45, go_sem]) rfl ?_
      refine ⟨rfl, ?_, _, ws_start (ws_app H.out hb3 _ (by rw [← ext_str]; exact HO1.out)) (-1)⟩
      exact ((hb3.mono (by omega)).setCell (p := ⟨B + 1, 0, none⟩) (by dsimp only; omega) _).setCell (p := ⟨B + 2, 0, none⟩) (by dsimp only; omega) _
end Go.Proofs.YtmaiillomoehgaaDoor
