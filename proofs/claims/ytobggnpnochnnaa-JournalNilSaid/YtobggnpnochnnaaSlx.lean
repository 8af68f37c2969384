/- A slice l[i:j] of a slice that is read. -/
import Derived.Test.YtobggnpnochnnaaGrpD
set_option linter.unusedVariables false
set_option linter.unusedSimpArgs false
namespace Go.Proofs.Ytobggnpnochnnaa.V
open Go.RowKit
def slSub {α : Type} (E : Enc α) (s : Sl α) (i j : Nat) : Sl α := slFrom E ⟨s.a, s.c, s.xs.take j⟩ i
theorem sl_sub {α : Type} {E : Enc α} {D : Nat → Prop} {h : Array Obj} {s : Sl α} (H : (slE E).wf D h s) (i j : Nat) (hij : i ≤ j) (hj : j ≤ s.xs.length) : (slE E).wf D h (slSub E s i j) :=
  sl_from (sl_take H j hj) i (by simp; omega)
theorem x_slsub {P : Program} {a : Act} {w : World} {d : Option Tmp} {ty : TypeId} {pos : String} {af : Array Edge} {g : Option (Nat × Bool)} {α : Type} (E : Enc α) {x y z : Operand} {t e : TypeId} (s : Sl α) {k k2 : IntKind} {i j : Int} {v : Value} {by_ : Nat} (ht : P.underlying t = some (.slice e)) (hi : (P.info? e).map (fun i => (i.zero, i.size, i.bytes)) = some (some v, E.n, by_)) (hx : a.eval x = .slice s.a s.xs.length s.c) (hy : a.eval y = .int k i) (hz : a.eval z = .int k2 j) (p m : Nat) (hp : i = (p : Int)) (hm : j = (m : Int)) (hpm : p ≤ m) (hl : m ≤ s.xs.length) (hc : s.xs.length ≤ s.c) :
    (execOp a.eval ⟨d, .slice t x (some y) (some z) none, ty, pos, af, g⟩).run P w = .ok (.value (.slice (slSub E s p m).a (slSub E s p m).xs.length (slSub E s p m).c)) w := by
  subst hp hm
  obtain ⟨ie, hie, _, hs, _⟩ := info_of hi
  have h1 : m ≤ s.c := by omega
  have h2 : min m s.xs.length - p = m - p := by omega
  simp [execOp, Instr.sliceAt, Instr.slice, Instr.sliceBounds, Instr.sliceBound, run_underlying ht, hx, hy, hz, asIntOf, hpm, h1, sizeOf, typeInfo, hie, hs, slSub, slFrom, h2]
end Go.Proofs.Ytobggnpnochnnaa.V
