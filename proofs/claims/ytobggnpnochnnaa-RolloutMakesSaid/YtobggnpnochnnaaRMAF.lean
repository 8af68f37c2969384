/- RolloutMakes: for which plans and devices there is a run. -/
import Derived.Test.YtobggnpnochnnaaRMAB
import Derived.Test.YtobggnpnochnnaaRMAE
set_option linter.unusedVariables false
set_option linter.unusedSimpArgs false
set_option maxHeartbeats 4000000
set_option maxRecDepth 20000
namespace Go.Proofs.Ytobggnpnochnnaa.lawRMake
open Go.ChangeShapes Go.WideShapes Go.ChangeAt Go.RowKit
theorem types : ∀ t ∈ [22,47,83],Try.prog.readableRec t = true ∧ t < Try.prog.types.size:=by
  intro t ht;simp only [List.mem_cons,List.not_mem_nil,or_false] at ht
  rcases ht with rfl | rfl | rfl <;> exact ⟨by kernel_rfl,of_decide_eq_true (by kernel_rfl)⟩
set_option maxRecDepth 100000 in
theorem contract (H : Type) (enc : TypeId × Value → H) (W : World) (base : Nat) (args : Array Value) (ds gs : List (DataW H)) (before : List MemPlace)
    (hval : ∀ (j : Nat) t v,Try.f12.params[j]? = some t → args[j]? = some v → Value.okWide Try.prog W .any base t v)
    (hW : DataW.Whole enc Try.prog Try.f12.params.toList Rows.rolloutMakesSpec.vars false W args.toList ds gs before) :
    Calls Try.prog 12 args W fun e W'=>∃ v,e = .returned v ∧ Rows.rolloutMakesSpec.post enc Try.prog Try.f12 false true false false W args v W':=by
  have hW':=hW;obtain ⟨p,q,hA0,hV,rfl,hfz,hnd⟩:=hW;have hA : DataW.TrodAll enc Try.prog W 0 (fun _=>true) true Try.f12.params.toList args.toList ds p:=hA0;rw [Try.params12] at hA hval;have hA':=hA;obtain ⟨v0,vs0,d0,ds0,p0,q0,hargs,rfl,rfl,h0,r0⟩:=trodAll_cons hA;obtain ⟨v1,vs1,d1,ds1,p1,q1,rfl,rfl,rfl,h1,r1⟩:=trodAll_cons r0;obtain ⟨v2,vs2,d2,ds2,p2,q2,rfl,rfl,rfl,h2,r2⟩:=trodAll_cons r1;obtain ⟨rfl,rfl,rfl⟩:=trodAll_nil r2;obtain rfl : args = #[v0,v1,v2]:=by cases args;simp_all
  obtain ⟨rfl,rfl⟩:=trodVars_none hV;obtain ⟨s0,rfl,hs0⟩:=open_ints_sl Try.underlying22 Try.underlying3 (by kernel_rfl) (hval 0 22 v0 rfl rfl) h0;obtain ⟨s1,rfl,hs1⟩:=open_struct Try.underlying47 tells_plan (hval 1 47 v1 rfl rfl) h1;obtain ⟨s2,rfl,hs2⟩:=open_sl Try.underlying83 tells_bools (hval 2 83 v2 rfl rfl) h2;clear hA0;refine (true_ret (V.nMakes W V.No (V.old_no W) (V.MS.nil W) s0 hs0 s1 hs1 s2 hs2)).mono fun e W' ⟨he,hb⟩=>?_;subst he
  exact ⟨_, rfl, post_of_below (pa := _) (pv := []) hW' (fun _ _ _ => trodAll_cons_mk (shut_bool Try.underlying4 _) trodAll_mk0) (fun sp hs => args_again laid_out hb types hA' (fun x hx => hW'.lt x (List.mem_append_left _ hx)) (fun x hx => hs x (List.mem_append_left _ hx))) (fun _ _ => rfl) rfl
    hb (ok_one (by kernel_rfl) rfl (okWide_bool_mk Try.underlying4 _))⟩
set_option maxRecDepth 100000 in
theorem reads (os : Os) {H : Type} (enc : TypeId × Value → H) : ∃ places,DataW.whole enc Try.prog ((World.holding Try.prog os ⟨#[],#[],[]⟩).forCall (fun _ _=>0) ⟨#[],#[.slice none 0 0,.agg #[.bool false,.slice none 0 0],.slice none 0 0],[]⟩).memory Try.f12.params.toList Rows.rolloutMakesSpec.vars false (#[.slice none 0 0,.agg #[.bool false,.slice none 0 0],.slice none 0 0] : Array Value).toList 8 = some ([.nil,.agg [.lit (.bool false),.nil],.nil],[],places) :=
  ⟨[],by kernel_rfl⟩
set_option maxRecDepth 100000 in
theorem lifted (os : Os) (started : os.Started) (H : Type) (enc : TypeId × Value → H) (F : Stop.Interp) :
    ReturnsInHanded {} Try.checked os 12 .any ((OpenSpec.ofChange Rows.rolloutMakesSpec).preRow enc Try.prog Try.f12 Rows.rolloutMakesRow.domain false Rows.rolloutMakesRow.laid) (((OpenSpec.ofChange Rows.rolloutMakesSpec).at F).post enc Try.prog Try.f12 false true false false):=by
  obtain ⟨places,hx⟩:=reads os enc
  refine returnsInHanded_of_row (C := Try.checked) (s := OpenSpec.ofChange Rows.rolloutMakesSpec) own started (by kernel_rfl) Try.func12
    (witness_row_at (enc := enc) (C := Try.checked) false (World.holding Try.prog os ⟨#[], #[], []⟩) #[.slice none 0 0, .agg #[.bool false, .slice none 0 0], .slice none 0 0] rfl (by kernel_rfl) (by kernel_rfl) (by kernel_rfl)
      (OpenSpec.preRow_of_cond 8 hx (by kernel_rfl) (fun k hk=>by cases hk) (by kernel_rfl) (laidMet_of_run' 8 (by kernel_rfl) (by kernel_rfl)))) ?_
  intro W base args ds gs before hval hW _ _ _ _ _ _;exact contract H enc W base args ds gs before hval hW
theorem holds : Rows.RolloutMakesSaid :=
  OpenClaim.holds_of_cond 12 Try.f12 rfl rfl rfl rfl rfl rfl rfl ⟨rfl, rfl, rfl, rfl, rfl⟩ rfl rfl rfl rfl rfl (by kernel_rfl) Try.func12 (by kernel_rfl)
    (of_decide_eq_true (by kernel_rfl)) (by unfold Func.isWrapper;first | (rw [if_pos (by decide +kernel)];kernel_rfl) | (rw [if_neg (by decide +kernel)];exact ⟨rfl,rfl⟩))
    (fun os started H enc _ F=>by rw [OpenClaim.pre_eq_preRow];exact lifted os started H enc F)
end Go.Proofs.Ytobggnpnochnnaa.lawRMake
