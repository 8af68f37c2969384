/- RolloutWaits: the controller waits for the devices of its round. -/
import Derived.Test.YtobggnpnochnnaaRWAB
import Derived.Test.YtobggnpnochnnaaRWAG
set_option linter.unusedVariables false
set_option linter.unusedSimpArgs false
set_option maxHeartbeats 4000000
set_option maxRecDepth 20000
namespace Go.Proofs.Ytobggnpnochnnaa.lawRWait
open Go.ChangeShapes Go.WideShapes Go.ChangeAt Go.RowKit
theorem types : ∀ t ∈ [22],Try.prog.readableRec t = true ∧ t < Try.prog.types.size:=by
  intro t ht;simp only [List.mem_cons,List.not_mem_nil,or_false] at ht;subst ht;exact ⟨by kernel_rfl,of_decide_eq_true (by kernel_rfl)⟩
set_option maxRecDepth 100000 in
theorem contract (H : Type) (enc : TypeId × Value → H) (W : World) (base : Nat) (args : Array Value) (ds gs : List (DataW H)) (before : List MemPlace)
    (hval : ∀ (j : Nat) t v,Try.f15.params[j]? = some t → args[j]? = some v → Value.okWide Try.prog W .any base t v)
    (hW : DataW.Whole enc Try.prog Try.f15.params.toList Rows.rolloutWaitsSpec.vars false W args.toList ds gs before) :
    Calls Try.prog 15 args W fun e W'=>∃ v,e = .returned v ∧ Rows.rolloutWaitsSpec.post enc Try.prog Try.f15 false true false false W args v W':=by
  have hW':=hW;obtain ⟨p,q,hA0,hV,rfl,hfz,hnd⟩:=hW;have hA : DataW.TrodAll enc Try.prog W 0 (fun _=>true) true Try.f15.params.toList args.toList ds p:=hA0;rw [Try.params15] at hA hval;have hA':=hA;obtain ⟨v0,vs0,d0,ds0,p0,q0,hargs,rfl,rfl,h0,r0⟩:=trodAll_cons hA;obtain ⟨rfl,rfl,rfl⟩:=trodAll_nil r0;obtain rfl : args = #[v0]:=by cases args;simp_all
  obtain ⟨rfl,rfl⟩:=trodVars_none hV;obtain ⟨s0,rfl,hs0⟩:=open_ints_sl Try.underlying22 Try.underlying3 (by kernel_rfl) (hval 0 22 v0 rfl rfl) h0;clear hA0;refine (true_ret (V.nWaits W V.No (V.old_no W) (V.MS.nil W) s0 hs0)).mono fun e W' ⟨he,hb⟩=>?_;subst he
  exact ⟨_, rfl, post_of_below (pa := _) (pv := []) hW' (fun _ _ _ => trodAll_cons_mk (shut_bool Try.underlying4 _) trodAll_mk0) (fun sp hs => args_again laid_out hb types hA' (fun x hx => hW'.lt x (List.mem_append_left _ hx)) (fun x hx => hs x (List.mem_append_left _ hx))) (fun _ _ => rfl) rfl
    hb (ok_one (by kernel_rfl) rfl (okWide_bool_mk Try.underlying4 _))⟩
set_option maxRecDepth 100000 in
theorem reads (os : Os) {H : Type} (enc : TypeId × Value → H) : ∃ places,DataW.whole enc Try.prog ((World.holding Try.prog os ⟨#[],#[],[]⟩).forCall (fun _ _=>0) ⟨#[],#[.slice none 0 0],[]⟩).memory Try.f15.params.toList Rows.rolloutWaitsSpec.vars false (#[.slice none 0 0] : Array Value).toList 8 = some ([.nil],[],places) :=
  ⟨[],by kernel_rfl⟩
set_option maxRecDepth 100000 in
theorem lifted (os : Os) (started : os.Started) (H : Type) (enc : TypeId × Value → H) (F : Stop.Interp) :
    ReturnsInHanded {} Try.checked os 15 .any ((OpenSpec.ofChange Rows.rolloutWaitsSpec).preRow enc Try.prog Try.f15 Rows.rolloutWaitsRow.domain false Rows.rolloutWaitsRow.laid) (((OpenSpec.ofChange Rows.rolloutWaitsSpec).at F).post enc Try.prog Try.f15 false true false false):=by
  obtain ⟨places,hx⟩:=reads os enc
  refine returnsInHanded_of_row (C := Try.checked) (s := OpenSpec.ofChange Rows.rolloutWaitsSpec) own started (by kernel_rfl) Try.func15
    (witness_row_at (enc := enc) (C := Try.checked) false (World.holding Try.prog os ⟨#[], #[], []⟩) #[.slice none 0 0] rfl (by kernel_rfl) (by kernel_rfl) (by kernel_rfl)
      (OpenSpec.preRow_of_cond 8 hx (by kernel_rfl) (fun k hk=>by cases hk) (by kernel_rfl) (laidMet_of_run' 8 (by kernel_rfl) (by kernel_rfl)))) ?_
  intro W base args ds gs before hval hW _ _ _ _ _ _;exact contract H enc W base args ds gs before hval hW
theorem holds : Rows.RolloutWaitsSaid :=
  OpenClaim.holds_of_cond 15 Try.f15 rfl rfl rfl rfl rfl rfl rfl ⟨rfl, rfl, rfl, rfl, rfl⟩ rfl rfl rfl rfl rfl (by kernel_rfl) Try.func15 (by kernel_rfl)
    (of_decide_eq_true (by kernel_rfl)) (by unfold Func.isWrapper;first | (rw [if_pos (by decide +kernel)];kernel_rfl) | (rw [if_neg (by decide +kernel)];exact ⟨rfl,rfl⟩))
    (fun os started H enc _ F=>by rw [OpenClaim.pre_eq_preRow];exact lifted os started H enc F)
end Go.Proofs.Ytobggnpnochnnaa.lawRWait
