/- numbers of the reference; ranges of ports -/
import Derived.Test.YtmaiillomoehgaaDoorS14
import Derived.Test.YtmaiillomoehgaaDoorAeq
import Derived.Test.YtmaiillomoehgaaDoorApF
namespace Go.Proofs.YtmaiillomoehgaaDoor.V
open Go.RowKit Go.Proofs.YtmaiillomoehgaaDoor
set_option linter.unusedVariables false
set_option linter.unusedSimpArgs false
theorem rNumber (w : World) (F : Nat → Prop) (hF : Old F w) (M : MS [] w) (s : ByteArray) (s_h : inStr s) (l : Int) (l_h : inI64 l) (m : Int) (m_h : inI64 m) :
 Calls Tryd.prog 26 #[.string s, iI l, iI m] w fun e w' => e = .returned (.tuple #[iI ((numB s.data.toList l m).getD 0), bD ((numB s.data.toList l m).isSome = true)]) ∧ Tr [] w [] w' := by
 refine (ref_Num s l m l_h.1 l_h.2 m_h.1 m_h.2 s_h rfl w).mono ?_
 rintro e w2 ⟨rfl, rfl⟩
 exact ⟨congrArg (fun v => Ending.returned (.tuple #[_, v])) (bd_eq _ _), tr_same _⟩
theorem sPorts (w : World) (F : Nat → Prop) (hF : Old F w) (M : MS [] w) (s : ByteArray) (s_h : inStr s) :
 Calls Tryd.prog 22 #[.string s] w fun e w' => e = .returned (.tuple #[.agg #[.int .u32 (((portsL s.data.toList).getD (0, 0)).1), .int .u32 (((portsL s.data.toList).getD (0, 0)).2)], bD ((portsL s.data.toList).isSome = true)]) ∧ Tr [] w [] w' := by
 refine (src_Ports s s_h rfl w).mono ?_
 rintro e w2 ⟨rfl, hb⟩
 exact ⟨congrArg (fun v => Ending.returned (.tuple #[_, v])) (bd_eq _ _), tr_below hb⟩
theorem rPorts (w : World) (F : Nat → Prop) (hF : Old F w) (M : MS [] w) (s : ByteArray) (s_h : inStr s) (hb : s.size ≤ 4398046511104) :
 Calls Tryd.prog 27 #[.string s] w fun e w' => e = .returned (.tuple #[.agg #[.int .u32 (((portsL s.data.toList).getD (0, 0)).1), .int .u32 (((portsL s.data.toList).getD (0, 0)).2)], bD ((portsL s.data.toList).isSome = true)]) ∧ Tr [] w [] w' := by
 refine (ref_Ports s hb rfl w).mono ?_
 rintro e w2 ⟨rfl, hb⟩
 exact ⟨congrArg (fun v => Ending.returned (.tuple #[_, v])) (bd_eq _ _), tr_below hb⟩
end Go.Proofs.YtmaiillomoehgaaDoor.V
