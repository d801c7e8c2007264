/- millpondlaw28.MoveWrong returns true, whatever the world, where the tables of math/bits are as the program's text lays them. Conditions: none but what the card itself names. -/
import Derived.Test.YthkdchfpgpafaaaGreatDoorStart
import Derived.Test.YthkdchfpgpafaaaGreatDoorMW
import Derived.Test.YthkdchfpgpafaaaGreatDoorLFMoveWrong
namespace Go.Proofs.YthkdchfpgpafaaaGreatDoor.moveWrong
open Go.ChangeShapes Go.WideShapes Go.ChangeAt Go.RowKit
theorem u64_of {n:Int} (h:(Lit.int .u64 n).wf=true):∃ m:Nat,n = .ofNat m ∧ m < 18446744073709551616:=by
 have h':(decide (IntKind.u64.min ≤ n) && decide (n ≤ IntKind.u64.max))=true:=h
 rw [Bool.and_eq_true,decide_eq_true_eq,decide_eq_true_eq] at h'
 have e1:IntKind.u64.min=0:=by decide
 have e2:IntKind.u64.max=18446744073709551615:=by decide
 rw [e1,e2] at h'
 exact ⟨n.toNat,by rw [Int.ofNat_eq_natCast]; omega,by omega⟩
set_option maxRecDepth 100000 in
theorem contract (H:Type) (enc:TypeId × Value → H) (W:World) (base:Nat) (args:Array Value) (ds gs:List (DataW H)) (before:List MemPlace)
  (hval:∀ (j:Nat) t v,Tryz.f3.params[j]? = some t → args[j]? = some v → Value.okWide Tryz.prog W .any base t v)
  (hW:DataW.Whole enc Tryz.prog Tryz.f3.params.toList Rows.moveWrongSpec.vars false W args.toList ds gs before) (hL:laidMetH Tryz.prog Rows.moveWrongRow.laid W) :
  Calls Tryz.prog 3 args W fun e W'=>∃ v,e = .returned v ∧ Rows.moveWrongSpec.post enc Tryz.prog Tryz.f3 false true false false W args v W':=by
 have hW':=hW
 obtain ⟨p,q,hA0,hV,rfl,hfz,hnd⟩:=hW
 have hA:DataW.TrodAll enc Tryz.prog W 0 (fun _=>true) true Tryz.f3.params.toList args.toList ds p:=hA0
 rw [Tryz.params3] at hA hval
 obtain ⟨v0,vs0,d0,ds0,p0,q0,hargs,rfl,rfl,h0,r0⟩:=trodAll_cons hA
 obtain ⟨rfl,rfl,rfl⟩:=trodAll_nil r0
 obtain rfl:args = #[v0]:=by cases args; simp_all
 obtain ⟨rfl,rfl⟩:=trodVars_none hV
 obtain ⟨a0,rfl,rfl,rfl,w0⟩:=open_int Tryz.underlying23 (hval 0 23 v0 rfl rfl) h0
 obtain ⟨m0,rfl,hm0⟩:=u64_of w0
 clear hA0
 refine AI.calls_mono (AI.rMoveWrong (tabs_of hL) hm0) fun e W' ⟨he,hs⟩=>?_
 subst he
 exact ⟨_,rfl,post_same (pa:=[]) (pv:=[]) hW' (fun _ _ _=>trodAll_cons_mk (shut_bool Tryz.underlying4 _) trodAll_mk0) (fun _ _=>trodAll_cons_mk (shut_int Tryz.underlying23 w0) trodAll_mk0) (fun _ _=>rfl) hs⟩
theorem laid_met (os:Os):laidMet Tryz.prog Rows.moveWrongRow.laid ((laidWorld os).forCall (fun _ _=>0) ⟨#[],#[.int .u64 5],[]⟩).memory :=
 laidMet_of_run' 8 (by kernel_rfl) (by kernel_rfl)
theorem reads (os:Os) {H:Type} (enc:TypeId × Value → H):∃ places,DataW.whole enc Tryz.prog ((laidWorld os).forCall (fun _ _=>0) ⟨#[],#[.int .u64 5],[]⟩).memory Tryz.f3.params.toList Rows.moveWrongSpec.vars false (#[.int .u64 5]:Array Value).toList 8=some ([.lit (.int .u64 5)],[],places) :=
 ⟨[],by kernel_rfl⟩
set_option maxRecDepth 100000 in
theorem lifted (os:Os) (started:os.Started) (H:Type) (enc:TypeId × Value → H) (F:Stop.Interp) :
  ReturnsInHanded {} Tryz.checked os 3 .any ((OpenSpec.ofChange Rows.moveWrongSpec).preRow enc Tryz.prog Tryz.f3 Rows.moveWrongRow.domain false Rows.moveWrongRow.laid) (((OpenSpec.ofChange Rows.moveWrongSpec).at F).post enc Tryz.prog Tryz.f3 false true false false):=by
 obtain ⟨places,hx⟩:=reads os enc
 refine returnsInHanded_of_row (C:=Tryz.checked) (s:=OpenSpec.ofChange Rows.moveWrongSpec) own started (by kernel_rfl) Tryz.func3
  (witness_row_at (enc:=enc) (C:=Tryz.checked) false (laidWorld os) #[.int .u64 5] rfl (by kernel_rfl) (by kernel_rfl) (by kernel_rfl)
   (OpenSpec.preRow_of_cond 8 hx (by kernel_rfl) (fun k hk=>by cases hk) (by kernel_rfl) (laid_met os))) ?_
 intro W base args ds gs before hval hW _ _ _ hL _ _
 exact contract H enc W base args ds gs before hval hW hL
theorem closed:joinedFacts Tryz.prog 3 Tryz.f3 (OpenSpec.ofChange Rows.moveWrongSpec).bare Rows.moveWrongRow=true:=by
 unfold joinedFacts
 rw [fact_laid,fact_maps,fact_stops,fact_knobs,in_place,unfollowed,recurses,named]
 kernel_rfl
theorem said:Rows.MoveWrongSaid :=
 OpenClaim.holds_of_cond 3 Tryz.f3 rfl rfl rfl rfl rfl rfl rfl ⟨rfl,rfl,rfl,rfl,rfl⟩ rfl rfl rfl rfl rfl (by kernel_rfl) Tryz.func3 closed
  (of_decide_eq_true (by kernel_rfl)) (by unfold Func.isWrapper; first | (rw [if_pos (by decide +kernel)]; kernel_rfl) | (rw [if_neg (by decide +kernel)]; exact ⟨rfl,rfl⟩))
  (fun os started H enc _ F=>by rw [OpenClaim.pre_eq_preRow]; exact lifted os started H enc F)
theorem plain (f:FuncId) (fn:Func) (hf:Tryz.pinned.checked.prog.funcNamed "millpond/millpondlaw28.MoveWrong" = some f) (hfn:Tryz.pinned.checked.prog.funcs[f]? = some fn) :
  false=Tryz.pinned.checked.prog.looks [] ∧ ∀ (j:Nat) t,fn.params[j]? = some t → Tryz.pinned.checked.prog.wantsStandIn t=false:=by
 obtain rfl:f=3:=Option.some.inj ((show Tryz.prog.funcNamed "millpond/millpondlaw28.MoveWrong" = some 3 by kernel_rfl).symm.trans hf) |>.symm
 obtain rfl:fn=Tryz.f3:=(Option.some.inj (Tryz.func3.symm.trans hfn)).symm
 refine ⟨by kernel_rfl,fun j t ht=>?_⟩
 rw [Tryz.params3] at ht
 have ht':t=23:=by
  match j,ht with
  | 0,ht=>simpa using ht.symm
  | j + 1,ht=>simp at ht
 have hw:Tryz.prog.wantsStandIn 23=false:=by kernel_rfl
 rw [ht']; exact hw
theorem card:Rows.MoveWrongCardSaid :=
 Claim7.holds_tied_plain_at .later [] _ _ _ _ said (fun _ h=>by cases h) (by kernel_rfl) (fun _ h=>by cases h) moveWrong_row_tie rfl ⟨rfl,rfl⟩ (by kernel_rfl) rfl plain goes.symm
end Go.Proofs.YthkdchfpgpafaaaGreatDoor.moveWrong
theorem Go.Proofs.YthkdchfpgpafaaaGreatDoor.moveWrong_holds:Go.Proofs.YthkdchfpgpafaaaGreatDoor.Rows.MoveWrongCardSaid:=Go.Proofs.YthkdchfpgpafaaaGreatDoor.moveWrong.card
#print axioms Go.Proofs.YthkdchfpgpafaaaGreatDoor.moveWrong_holds
