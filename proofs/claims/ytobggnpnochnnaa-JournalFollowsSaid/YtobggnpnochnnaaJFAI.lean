/- JournalFollows: a log that is written ahead follows the controller, also when its last record is torn. -/
import Derived.Test.YtobggnpnochnnaaJFAC
import Derived.Test.YtobggnpnochnnaaJFAH
set_option linter.unusedVariables false
set_option linter.unusedSimpArgs false
set_option maxHeartbeats 4000000
set_option maxRecDepth 20000
namespace Go.Proofs.Ytobggnpnochnnaa.lawJFol
open Go.ChangeShapes Go.WideShapes Go.ChangeAt Go.RowKit
theorem types:∀ t∈[22,3],Try.prog.readableRec t=true∧t < Try.prog.types.size:=by
  intro t ht;simp only [List.mem_cons,List.not_mem_nil,or_false] at ht
  rcases ht with rfl | rfl <;> exact ⟨by kernel_rfl,of_decide_eq_true (by kernel_rfl)⟩
set_option maxRecDepth 100000 in
theorem uV (H : Type) (enc : TypeId × Value → H) (W : World) (base : Nat) (args : Array Value) (ds gs : List (DataW H)) (before : List MemPlace)
    (hval:∀ (j:Nat) t v,Try.f18.params[j]?=some t→args[j]?=some v→Value.okWide Try.prog W .any base t v)
    (hW:DataW.Whole enc Try.prog Try.f18.params.toList Rows.journalFollowsSpec.vars false W args.toList ds gs before) :
    Calls Try.prog 18 args W fun e W'=>∃ v,e = .returned v∧Rows.journalFollowsSpec.post enc Try.prog Try.f18 false true false false W args v W':=by
  have hW':=hW;obtain ⟨p,q,hA0,hV,rfl,hfz,hnd⟩:=hW;have hA:DataW.TrodAll enc Try.prog W 0 (fun _=>true) true Try.f18.params.toList args.toList ds p:=hA0;rw [Try.params18] at hA hval;have hA':=hA;obtain ⟨v0,vs0,d0,ds0,p0,q0,hargs,rfl,rfl,h0,r0⟩:=trodAll_cons hA;obtain ⟨v1,vs1,d1,ds1,p1,q1,rfl,rfl,rfl,h1,r1⟩:=trodAll_cons r0;obtain ⟨rfl,rfl,rfl⟩:=trodAll_nil r1;obtain rfl:args = #[v0,v1]:=by cases args;simp_all
  obtain ⟨rfl,rfl⟩:=trodVars_none hV;obtain ⟨s0,rfl,hs0⟩:=nX Try.underlying22 Try.underlying3 (by kernel_rfl) (hval 0 22 v0 rfl rfl) h0;obtain ⟨s1,rfl,hs1⟩:=open_int Try.underlying3 (hval 1 3 v1 rfl rfl) h1;clear hA0;refine (tI (V.lFol W V.No (V.yn W) (V.MS.nil W) s0 hs0 s1 hs1)).mono fun e W' ⟨he,hb⟩=>?_;subst he
  exact ⟨_, rfl, mN (pa := _) (pv := []) hW' (fun _ _ _ => trodAll_cons_mk (shut_bool Try.underlying4 _) trodAll_mk0) (fun sp hs => mD uB hb types hA' (fun x hx => hW'.lt x (List.mem_append_left _ hx)) (fun x hx => hs x (List.mem_append_left _ hx))) (fun _ _ => rfl) rfl
    hb (ok_one (by kernel_rfl) rfl (okWide_bool_mk Try.underlying4 _))⟩
set_option maxRecDepth 100000 in
theorem reads (os:Os) {H:Type} (enc:TypeId × Value→H):∃ places,DataW.whole enc Try.prog ((World.holding Try.prog os ⟨#[],#[],[]⟩).forCall (fun _ _=>0) ⟨#[],#[.slice none 0 0,.int .i64 0],[]⟩).memory Try.f18.params.toList Rows.journalFollowsSpec.vars false (#[.slice none 0 0,.int .i64 0]:Array Value).toList 8=some ([.nil,.lit (.int .i64 0)],[],places) :=
  ⟨[],by kernel_rfl⟩
set_option maxRecDepth 100000 in
theorem lifted (os : Os) (started : os.Started) (H : Type) (enc : TypeId × Value → H) (F : Stop.Interp) :
    ReturnsInHanded {} Try.checked os 18 .any ((OpenSpec.ofChange Rows.journalFollowsSpec).preRow enc Try.prog Try.f18 Rows.journalFollowsRow.domain false Rows.journalFollowsRow.laid) (((OpenSpec.ofChange Rows.journalFollowsSpec).at F).post enc Try.prog Try.f18 false true false false):=by
  obtain ⟨places,hx⟩:=reads os enc
  refine returnsInHanded_of_row (C := Try.checked) (s := OpenSpec.ofChange Rows.journalFollowsSpec) own started (by kernel_rfl) Try.func18
    (witness_row_at (enc := enc) (C := Try.checked) false (World.holding Try.prog os ⟨#[], #[], []⟩) #[.slice none 0 0, .int .i64 0] rfl (by kernel_rfl) (by kernel_rfl) (by kernel_rfl)
      (OpenSpec.preRow_of_cond 8 hx (by kernel_rfl) (fun k hk=>by cases hk) (by kernel_rfl) (laidMet_of_run' 8 (by kernel_rfl) (by kernel_rfl)))) ?_
  intro W base args ds gs before hval hW _ _ _ _ _ _;exact uV H enc W base args ds gs before hval hW
theorem holds:Rows.JournalFollowsSaid :=
  OpenClaim.holds_of_cond 18 Try.f18 rfl rfl rfl rfl rfl rfl rfl ⟨rfl, rfl, rfl, rfl, rfl⟩ rfl rfl rfl rfl rfl (by kernel_rfl) Try.func18 (by kernel_rfl)
    (of_decide_eq_true (by kernel_rfl)) (by unfold Func.isWrapper;first | (rw [if_pos (by decide +kernel)];kernel_rfl) | (rw [if_neg (by decide +kernel)];exact ⟨rfl,rfl⟩))
    (fun os started H enc _ F=>by rw [OpenClaim.pre_eq_preRow];exact lifted os started H enc F)
end Go.Proofs.Ytobggnpnochnnaa.lawJFol
