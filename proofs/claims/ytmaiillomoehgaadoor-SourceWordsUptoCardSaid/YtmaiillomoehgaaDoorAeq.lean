/- Structs of two numbers are compared; arguments that are lists of short strings. -/
import Derived.Test.YtmaiillomoehgaaDoorGrpD
import Derived.Laws.StructEq
set_option linter.unusedVariables false
set_option linter.unusedSimpArgs false
namespace Go.Proofs.YtmaiillomoehgaaDoor.V
open Go.RowKit
theorem x_aneq {P : Program} {act : Act} {w : World} {d : Option Tmp} {ty : TypeId} {pos : String} {af : Array Edge} {g : Option (Nat × Bool)} {x y : Operand} {t yt : TypeId} {f0 f1 : Field} {k0 k1 : IntKind} {a b p q : Int}
    (ht : P.underlying t = some (.struct #[f0, f1])) (hs : P.stoodInHeld t = false) (hg : P.eqGuardType P.depth t = false) (n0 : f0.name ≠ "_") (n1 : f1.name ≠ "_") (o0 : f0.offset = 0) (o1 : f1.offset = 1) (u0 : P.underlying f0.type = some (.int k0)) (u1 : P.underlying f1.type = some (.int k1))
    (hx : act.eval x = .agg #[.int k0 a, .int k1 b]) (hy : act.eval y = .agg #[.int k0 p, .int k1 q]) :
    (execOp act.eval ⟨d, .binOp .neq t x y yt, ty, pos, af, g⟩).run P w = .ok (.value (.bool (decide (¬ (a = p ∧ b = q))))) w := by
  have ht' : P.underlying t = some (.struct (P.fieldsOf t)) := by unfold Program.fieldsOf; rw [ht]
  have hf : (P.fieldsOf t).toList = [f0, f1] := by unfold Program.fieldsOf; rw [ht]
  have hp0 : ∀ u v : Value, (part f0.type #[u, v] f0.offset).run P w = .ok u w := by
    intro u v; rw [o0]; simp [part, isAgg, run_underlying u0]
  have hp1 : ∀ u v : Value, (part f1.type #[u, v] f1.offset).run P w = .ok v w := by
    intro u v; rw [o1]; simp [part, isAgg, run_underlying u1]
  have q0 : (Op.equalIn 9999 f0.type (.int k0 a) (.int k0 p)).run P w = .ok (a == p) w := run_equalIn_int (P := P) w 9998 f0.type k0 k0 a p u0
  have q1 : (Op.equalIn 9999 f1.type (.int k1 b) (.int k1 q)).run P w = .ok (b == q) w := run_equalIn_int (P := P) w 9998 f1.type k1 k1 b q u1
  have he : (Op.equalIn 10000 t (.agg #[.int k0 a, .int k1 b]) (.agg #[.int k0 p, .int k1 q])).run P w = .ok (decide (a = p ∧ b = q)) w := by
    rw [run_equalIn_struct (P := P) w 9999 t _ _ ht' hs, hf]
    simp only [Op.eqFields, if_pos n0, if_pos n1, Sem.run_bind, hp0, hp1, Result.andThen_ok, q0, q1, Sem.run_ite, Sem.run_pure]
    by_cases h1 : a = p <;> by_cases h2 : b = q <;> simp [h1, h2]
  simp only [execOp, hx, hy, Sem.run_bind, run_eqGuard_agg (P := P) w .neq t x y _ _ hg, Result.andThen_ok, run_neq_struct, he]
  simp
end Go.Proofs.YtmaiillomoehgaaDoor.V
