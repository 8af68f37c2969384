/- Small laws of my own that every walk of this seat uses: worlds that only grow, a region that draws its order walked once over the class of such worlds, slices that read as lists. -/
import Derived.Test.YtfanmniaolncbaaRows
import Derived.WalkKit
import Derived.WalkSpells
import Derived.WalkLawsBesides
import Derived.Deep.QuietTactic
import Derived.BigQuiet
import Derived.Lib.Hide
import Derived.Laws.BytesArg
import Derived.Lib.UnsafeStr
import Derived.Lib.LaidTab
set_option linter.unusedVariables false
set_option linter.unusedSimpArgs false
namespace Go.Proofs.Ytfanmniaolncbaa
open Go.RowKit
theorem bcell {B : Nat} {W w1 : World} (hb : Below B W w1) : (∀ b o, b < B → w1.cell? ⟨b, o, none⟩ = W.cell? ⟨b, o, none⟩) ∧ (∀ b o, b < B → w1.frozen? ⟨b, o, none⟩ = W.frozen? ⟨b, o, none⟩) :=
  ⟨fun b o h => hb.cell (p := ⟨b, o, none⟩) h, fun b o h => hb.frozen (p := ⟨b, o, none⟩) h⟩
/-- a world in which all that 'W' has below block 'B' stands as it did -/
structure Ext (B : Nat) (W : World) where
  w : World
  below : Below B W w
instance extNonempty (B : Nat) (W : World) : Nonempty (Ext B W) := ⟨⟨W, Below.refl _ _⟩⟩
@[go_sem] theorem Ext.cell {B : Nat} {W : World} (x : Ext B W) (b o : Nat) (h : b < B) : x.w.cell? ⟨b, o, none⟩ = W.cell? ⟨b, o, none⟩ := x.below.cell (p := ⟨b, o, none⟩) h
@[go_sem] theorem Ext.frozen {B : Nat} {W : World} (x : Ext B W) (b o : Nat) (h : b < B) : x.w.frozen? ⟨b, o, none⟩ = W.frozen? ⟨b, o, none⟩ := x.below.frozen (p := ⟨b, o, none⟩) h
/-- A region that draws its order, whose operations read and whose callees give the same value in every later world: one walk in the order of the text. -/
theorem wp_region_later {P : Program} {id : Nat} {Q : Exit → Act → World → Prop} {a : Act} {w : World} {l : List Oper} (hm : P.follows .mixedOrders = true) (hB : Region.lexB .any l.toArray = true)
    (h : wpQuiet P l.toArray (fun w' => ∃ x : Ext w.heap.size w, w' = x.w) (fun a' => ∀ w', (∃ x : Ext w.heap.size w, w' = x.w) → Q .normal a' w') l a) : (Code.region id l.toArray true).wp P Q a w :=
  wp_region_quiet (C := fun w' => ∃ x : Ext w.heap.size w, w' = x.w) hm hB ⟨⟨_, (Below.refl _ _).drew⟩, rfl⟩ (by simpa using h)
theorem ext_below {B : Nat} {W w' : World} (h : ∃ x : Ext B W, w' = x.w) : Below B W w' := by obtain ⟨x, rfl⟩ := h; exact x.below
theorem calls_later {P : Program} {f : FuncId} {args : Array Value} {W : World} {x : Ext W.heap.size W} {v : Value}
    (h : Calls P f args x.w fun e w' => e = .returned v ∧ Below x.w.heap.size x.w w') : Calls P f args x.w fun e w'' => e = .returned v ∧ ∃ y : Ext W.heap.size W, w'' = y.w :=
  h.mono fun _ w' ⟨he, hb⟩ => ⟨he, ⟨w', x.below.trans (hb.mono x.below.size)⟩, rfl⟩
theorem calls_later_same {P : Program} {f : FuncId} {args : Array Value} {B : Nat} {W : World} {x : Ext B W} {v : Value}
    (h : Calls P f args x.w fun e w' => e = .returned v ∧ x.w = w') : Calls P f args x.w fun e w'' => e = .returned v ∧ ∃ y : Ext B W, w'' = y.w :=
  h.mono fun _ _ ⟨he, hb⟩ => ⟨he, x, hb.symm⟩
end Go.Proofs.Ytfanmniaolncbaa
