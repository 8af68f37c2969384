/- Regions in which an address is made beside an append, in either order: x.f = append(x.f, ..). -/
import Derived.Test.YtfanmniaolncbaaV6
set_option linter.unusedVariables false
set_option linter.unusedSimpArgs false
namespace Go.Proofs.Ytfanmniaolncbaa.V
open Go.RowKit
section
variable {P : Program} {Q : Exit → Act → World → Prop}
theorem Slots.both {N : Nat} {L Z : List (Nat × Value)} {a : Act} (S : Slots N L a) (T : Slots N Z a) : Slots N (Z ++ L) a := by
  refine ⟨S.size, S.defers, fun i u hu => ?_⟩
  induction Z with
  | nil => exact S.get i u hu
  | cons p r ih =>
    obtain ⟨j, v⟩ := p
    rw [List.cons_append, look_cons] at hu
    by_cases e : j = i
    · rw [if_pos e] at hu
      exact T.get i u (by rw [look_cons, if_pos e]; exact hu)
    · rw [if_neg e] at hu
      by_cases hr : ∃ x, look i r = some x
      · obtain ⟨x, hx⟩ := hr
        have hx2 : look i (r ++ L) = some x := by
          clear ih T hu
          induction r with
          | nil => cases hx
          | cons q r ih =>
            obtain ⟨k, y⟩ := q
            rw [List.cons_append, look_cons]
            rw [look_cons] at hx
            by_cases ek : k = i
            · rw [if_pos ek] at hx ⊢; exact hx
            · rw [if_neg ek] at hx ⊢; exact ih hx
        rw [hx2] at hu
        rw [← Option.some.inj hu]
        exact T.get i x (by rw [look_cons, if_neg e]; exact hx)
      · have hn : look i r = none := by
          cases h : look i r with
          | none => rfl
          | some x => exact absurd ⟨x, h⟩ hr
        have : look i (r ++ L) = look i L := by
          clear ih T hu hr
          induction r with
          | nil => rfl
          | cons q r ih =>
            obtain ⟨k, y⟩ := q
            rw [look_cons] at hn
            rw [List.cons_append, look_cons]
            by_cases ek : k = i
            · rw [if_pos ek] at hn; cases hn
            · rw [if_neg ek] at hn ⊢; exact ih hn
        rw [this] at hu
        exact S.get i u hu
end
end Go.Proofs.Ytfanmniaolncbaa.V
