/- the example -/
import Derived.Test.YtobggnpnochnnaaK9
import Derived.Test.YtobggnpnochnnaaSanJM
namespace Go.Proofs.Ytobggnpnochnnaa.V
open Go.RowKit Go.Proofs.Ytobggnpnochnnaa
set_option linter.unusedVariables false
set_option linter.unusedSimpArgs false
set_option maxHeartbeats 2000000 in
set_option maxRecDepth 20000 in
theorem lOne (w : World) (F : Nat → Prop) (hF : Old F w) (M : MS [] w) :
 Calls Try.prog 69 #[] w fun e w' => ∃ (r : Plan), e = .returned (.agg (planE.cells r).toArray) ∧ planE.wf (Fr F []) w'.heap r ∧ (r.staged = false ∧ rdsP r = [[⟨0, 3⟩]]) ∧ Tr [] w [] w' := by
 refine go Try.func69 rfl 5 rfl [] [] hF M trivial trivial ?_
 intro a S
 have hD : ∀ k, In ([] : List BS) k → ¬ F k := fun _ h => h.elim
 refine rs0 ?_
 refine nbp S (x_allocz _ iZ47 rfl) ?_; clear S; intro a u b0 S
 refine ent (rs0 ?_)
 refine sp S (la (ov fun S=>x_bd S [(0, iI 0), (1, iI 3)] [iI 0, iI 3])) ?_; clear S; intro a u S
 refine nbs chgE S [(⟨0, 3⟩ : Chg)] (x_bs S [(0, .agg #[iI 0, iI 3])] uT122 iZ124) (fun x hx => by simp only [List.mem_cons, List.not_mem_nil, or_false] at hx; rw [hx]; exact (show chgE.wf _ _ (⟨0, 3⟩ : Chg) from ⟨(show inI64 0 from ⟨by omega, by omega⟩), (show inI64 3 from ⟨by omega, by omega⟩)⟩)) ?_; clear S; intro a u b2 S
 refine nbs (slE chgE) S [(Sl.mk (some ⟨b2, 0, none⟩) 1 ([(⟨0, 3⟩ : Chg)]))] (x_bs S [(0, .slice (some ⟨b2, 0, none⟩) 1 1)] uT45 iZ122) (fun x hx => by simp only [List.mem_cons, List.not_mem_nil, or_false] at hx; rw [hx]; exact (show (slE chgE).wf _ _ (Sl.mk (some ⟨b2, 0, none⟩) 1 ([(⟨0, 3⟩ : Chg)])) from (S.u 0 rfl))) ?_; clear S; intro a u b3 S
 refine ens S (tr (ov fun S=>x_bd S [(1, .slice (some ⟨b3, 0, none⟩) 1 1)] [.bool false, .slice (some ⟨b3, 0, none⟩) 1 1])<|la (stkw 0 rfl rfl rfl)) ?_; clear S; intro a u S
 refine wp_ret ?_
 refine retcw rfl S.s rfl [.bool false, .slice (some ⟨b3, 0, none⟩) 1 1] wD47 (fun j v hv => by rw [Nat.zero_add]; exact (S.k 0 rfl).cell hv) ?_
 replace S := S.pk []
 refine ⟨(⟨false, (Sl.mk (some ⟨b3, 0, none⟩) 1 ([(Sl.mk (some ⟨b2, 0, none⟩) 1 ([(⟨0, 3⟩ : Chg)]))]))⟩ : Plan), rfl, ⟨trivial, (S.u 1 rfl)⟩, ?_, S.m.c⟩
 exact ⟨rfl, rfl⟩
end Go.Proofs.Ytobggnpnochnnaa.V
