/- millpondlaw23.RefsBoth returns true, whatever the world, where the tables of math/bits are as the program's text lays them. Conditions: none but what the card itself names. -/
import Derived.Test.YthoiknijhfnadaaGreatDoorKSf
import Derived.Test.YthoiknijhfnadaaGreatDoorEvB
import Derived.Test.YthoiknijhfnadaaGreatDoorLFRefsBoth
import Derived.Deep.Strs
import Derived.Carry
import Derived.Lib.SmallJoins
set_option maxRecDepth 100000
namespace Go.Proofs.YthoiknijhfnadaaGreatDoor.refsBoth
open Go.ChangeShapes Go.WideShapes Go.ChangeAt Go.RowKit
theorem acts_row:∀(n:Nat) (f:Nat→AI.ActK) (cs:List Value) (off:Nat),(∀i,i<n→∀k,k<4→cs[off+i*4+k]? = (AI.actK (f i))[k]?) →
  off+n*4≤cs.length+(if n=0 then off else 0)∧(cs.drop off).take (n*4)=AI.actsK ((List.range n).map f)
 |0,f,cs,off,_=>⟨by simp,by simp[AI.actsK]⟩
 |n+1,f,cs,off,h=>by
  have h3:=h 0 (Nat.succ_pos n) 3 (by omega)
  rw[Nat.zero_mul,Nat.add_zero] at h3
  obtain⟨l2,_⟩:=List.getElem?_eq_some_iff.1 (show cs[off+3]? = some _ from h3)
  obtain⟨r1,r2⟩:=acts_row n (fun i=>f (i+1)) cs (off+4) (fun i hi k hk=>by
   rw[show off+4+i*4+k=off+(i+1)*4+k by omega]
   exact h (i+1) (by omega) k hk)
  refine⟨?_,?_⟩
  ·rw[if_neg (Nat.succ_ne_zero n),Nat.add_zero]
   split at r1<;>omega
  ·have e:cs.drop off=AI.actK (f 0)++cs.drop (off+4):=by
    apply List.ext_getElem?
    intro k
    rw[List.getElem?_drop,List.getElem?_append]
    have l3:(AI.actK (f 0)).length=4:=rfl
    rw[l3]
    split
    ·rename_i hk
     have:=h 0 (Nat.succ_pos n) k hk
     rwa [Nat.zero_mul,Nat.add_zero] at this
    ·rename_i hk
     rw[List.getElem?_drop,show off+4+(k-4)=off+k by omega]
   rw[e,show(n+1)*4=4+n*4 by omega,List.take_append,show(AI.actK (f 0)).length=4 from rfl,List.take_of_length_le (show(AI.actK (f 0)).length≤4+n*4 by rw[show(AI.actK (f 0)).length=4 from rfl];omega),Nat.add_sub_cancel_left,r2,List.range_succ_eq_map,List.map_cons,List.map_map]
   rfl
theorem cA:Tryz.prog.cellsOf 30=4:=by kernel_rfl
theorem c8:Tryz.prog.cellsOf 5=1:=by kernel_rfl
theorem cU:Tryz.prog.cellsOf 28=1:=by kernel_rfl
theorem cB:Tryz.prog.cellsOf 4=1:=by kernel_rfl
theorem u8_of{n:Int}(h:(Lit.int .u8 n).wf=true):∃m:Nat,n = .ofNat m∧m<256:=by
 have h':(decide (IntKind.u8.min≤n)&&decide (n≤IntKind.u8.max))=true:=h
 rw[Bool.and_eq_true,decide_eq_true_eq,decide_eq_true_eq] at h'
 have e1:IntKind.u8.min=0:=rfl
 have e2:IntKind.u8.max=255:=rfl
 rw[e1,e2] at h'
 exact⟨n.toNat,by rw[Int.ofNat_eq_natCast];omega,by omega⟩
theorem u64_of{n:Int}(h:(Lit.int .u64 n).wf=true):∃m:Nat,n = .ofNat m∧m<18446744073709551616:=by
 have h':(decide (IntKind.u64.min≤n)&&decide (n≤IntKind.u64.max))=true:=h
 rw[Bool.and_eq_true,decide_eq_true_eq,decide_eq_true_eq] at h'
 have e1:IntKind.u64.min=0:=rfl
 have e2:IntKind.u64.max=18446744073709551615:=by decide
 rw[e1,e2] at h'
 exact⟨n.toNat,by rw[Int.ofNat_eq_natCast];omega,by omega⟩
theorem of_four{α:Type}:∀{cs:List α},cs.length=4→∃x0 x1 x2 x3,cs=[x0,x1,x2,x3]
 |[x0,x1,x2,x3],_=>⟨x0,x1,x2,x3,rfl⟩
theorem act_of{H:Type}{enc:TypeId×Value→H}{W:World}{base:Nat}{sp:Nat→Bool}{held:Bool}{n:Nat}{cs:List Value}{x:DataW H×List MemPlace}(h:DataW.trod enc Tryz.prog W base sp held n 30 cs=some x) :
  ∃a:AI.ActK,(a.2.1<256∧a.2.2.1<256∧a.2.2.2<18446744073709551616)∧cs=AI.actK a:=by
 obtain⟨y0,y1,y2,y3,n',rfl,hl,h0,h1,h2,h3⟩:=Go.Joins.trod_struct4 Tryz.underlying30 h
 obtain⟨b,e0,_⟩:=DataW.trod_bool Tryz.underlying4 h0
 obtain⟨i,e1,_,w1⟩:=DataW.trod_int Tryz.underlying5 h1
 obtain⟨j,e2,_,w2⟩:=DataW.trod_int Tryz.underlying5 h2
 obtain⟨k,e3,_,w3⟩:=DataW.trod_int Tryz.underlying28 h3
 obtain⟨i,rfl,hi⟩:=u8_of w1
 obtain⟨j,rfl,hj⟩:=u8_of w2
 obtain⟨k,rfl,hk⟩:=u64_of w3
 rw[cA] at hl
 rw[c8] at e1 e2
 rw[cU] at e3
 rw[cB] at e0
 obtain⟨x0,x1,x2,x3,rfl⟩:∃x0 x1 x2 x3,cs=[x0,x1,x2,x3]:=of_four hl
 have e0:[x0]=[Value.bool b]:=e0
 have e1:[x1]=[Value.int .u8 (.ofNat i)]:=e1
 have e2:[x2]=[Value.int .u8 (.ofNat j)]:=e2
 have e3:[x3]=[Value.int .u64 (.ofNat k)]:=e3
 refine⟨(b,i,j,k),⟨hi,hj,hk⟩,?_⟩
 rw[List.cons.inj e0 |>.1,List.cons.inj e1 |>.1,List.cons.inj e2 |>.1,List.cons.inj e3 |>.1]
 rfl
theorem contract(H:Type)(enc:TypeId×Value→H)(W:World)(base:Nat)(args:Array Value)(ds gs:List (DataW H))(before:List MemPlace)
  (hval:∀(j:Nat) t v,Tryz.f5.params[j]? = some t→args[j]? = some v→Value.okWide Tryz.prog W .any base t v)
  (hW:DataW.Whole enc Tryz.prog Tryz.f5.params.toList Rows.refsBothSpec.vars false W args.toList ds gs before) (hL:laidMetH Tryz.prog Rows.refsBothRow.laid W) :
  Calls Tryz.prog 5 args W fun e W'=>∃v,e = .returned v∧Rows.refsBothSpec.post enc Tryz.prog Tryz.f5 false true false false W args v W':=by
 have hW':=hW
 obtain⟨p,q,hA0,hV,rfl,hfz,hnd⟩:=hW
 have hA:DataW.TrodAll enc Tryz.prog W 0 (fun _=>true) true Tryz.f5.params.toList args.toList ds p:=hA0
 rw[Tryz.params5] at hA hval
 obtain⟨v0,v1,d0,d1,p0,p1,rfl,rfl,rfl,h0,h1⟩:=trodAll_two hA
 obtain⟨rfl,rfl⟩:=trodVars_none hV
 obtain⟨n0,rfl,rfl,rfl,w0⟩:=open_int Tryz.underlying5 (hval 0 5 v0 rfl rfl) h0
 obtain⟨n,rfl,hn⟩:=u8_of w0
 have hv1:=hval 1 22 v1 rfl rfl
 obtain⟨a1,len,cap,rfl⟩:=okWide_slice Tryz.underlying22 hv1
 have hT:=tabs_of hL
 have hpost:∀(e:Ending) (W':World),(e = .returned (.bool true)∧AI.Same W W')→∃v,e = .returned v∧Rows.refsBothSpec.post enc Tryz.prog Tryz.f5 false true false false W #[.int .u8 (.ofNat n),.slice a1 len cap] v W':=by
  rintro e W' ⟨rfl,hs⟩
  refine⟨_,rfl,post_same (pa:=[]++p1) (pv:=[]) hW' (fun _ _ _=>trodAll_cons_mk (shut_bool Tryz.underlying4 _) trodAll_mk0) (fun sp hsp=>?_) (fun _ _=>rfl) hs⟩
  have hlt:∀x∈p1,x.block<W.heap.size:=fun x hx=>hW'.lt x (by simp[hx])
  have h1':DataW.Trod enc Tryz.prog W' 0 sp true 22 (.slice a1 len cap) d1 p1 :=
   WideElems.Trod_stays fact_laid (by kernel_rfl) (of_decide_eq_true (by kernel_rfl)) h1 (fun x hx=>by
    have hb:=hs.old x.block (hlt x hx)
    cases x with
    |cell b o=>exact World.cell?_of_block (w:=W) hb
    |map b=>exact hb) (fun x hx=>hsp x (by simp[hx]))
  exact trodAll_mk2 (shut_int Tryz.underlying5 w0) h1'
 refine AI.calls_mono ?_ hpost
 obtain⟨fu,hf⟩:=h1
 rcases Go.Deep.open_slice Tryz.underlying22 hf with⟨hcs,_⟩|⟨a,len',cap',m,n',D,Pl,hcs,_,hl,hm,hmm,_,hel⟩
 ·simp[Value.cells] at hcs
  obtain⟨rfl,rfl,rfl⟩:=hcs
  have h00:=hT.t32 0 (by decide)
  obtain⟨cs,t,f,hb⟩:∃cs t f,W.heap[0]? = some (.cells cs t f):=by
   unfold World.cell? at h00
   split at h00
   ·exact⟨_,_,_,by assumption⟩
   ·cases h00
  exact AI.rBothL hT hn (l:=[]) (off:=0) (ad:=none) (fun a ha=>by cases ha) (by simp) hb (Nat.zero_le _) rfl (fun h=>absurd rfl h) (.nils 0 0)
 ·simp[Value.cells] at hcs
  obtain⟨rfl,rfl,rfl⟩:=hcs
  have hok:len≤cap∧(cap:Int)≤IntKind.i64.max∧W.has Tryz.prog .any base a 30 cap:=by
   have h:=hv1
   simp only[Value.okWide,Cell.okWide,Cell.ok,Tryz.underlying22] at h
   exact h
  obtain⟨_,hc63,_,hsp,row,cells,hsh,_⟩:=hok
  obtain⟨cs,t,f,hb⟩:∃cs t f,W.heap[a.block]? = some (.cells cs t f):=by
   unfold World.shape? at hsh
   split at hsh
   ·exact⟨_,_,_,by assumption⟩
   ·cases hsh
  obtain⟨b,off,sp⟩:=a
  have hsp:sp=none:=hsp
  subst hsp
  have hmm':m=cap:=by rw[hmm];rfl
  have hpick:∀i,i<len→∃x:AI.ActK,(x.2.1<256∧x.2.2.1<256∧x.2.2.2<18446744073709551616)∧∀k,k<4→cs.toList[off+i*4+k]? = (AI.actK x)[k]? := by
   intro i hi
   obtain⟨cs3,h3,ht⟩:=hel i (by omega)
   rw[cA] at h3
   obtain⟨_,_,hcell⟩:=World.cells?_some h3
   obtain⟨x,hx,rfl⟩:=act_of ht
   refine⟨x,hx,fun k hk=>?_⟩
   rw[← hcell k hk,add_plain,add_plain]
   show _=(match W.heap[b]? with|some (.cells c _ _)=>if(none:Option Nat).isSome then none else c[off+i*4+k]? | _=>none)
   rw[hb]
   simp
  obtain⟨g,hg⟩:=Go.Deep.choose_lt hpick
  have hlen:((List.range len).map g).length=len:=by simp
  obtain⟨r1,r2⟩:=acts_row len g cs.toList off (fun i hi=>(hg i hi).2)
  have hu:∀x,x∈(List.range len).map g→x.2.1<256∧x.2.2.1<256∧x.2.2.2<18446744073709551616:=by
   intro x hx
   obtain⟨i,hi,rfl⟩:=List.mem_map.1 hx
   exact(hg i (List.mem_range.1 hi)).1
  have e63:IntKind.i64.max=9223372036854775807:=by decide
  have hV:AI.FR (fun i=>if i=0 then some (b,0) else none) (.slice (some ⟨0,off,some 1⟩) ((List.range len).map g).length cap) (.slice (some ⟨b,off,none⟩) len cap):=by
   rw[hlen];exact .slx (i:=0) (b:=b) (s:=0) rfl
  rcases Nat.eq_zero_or_pos len with rfl|hp
  ·exact AI.rBothL hT hn (l:=[]) (off:=0) (ad:=some ⟨0,off,some 1⟩) (fun a ha=>by cases ha) (by simp) hb (Nat.zero_le _) rfl (fun h=>absurd rfl h) hV
  ·rw[if_neg (by omega),Nat.add_zero] at r1
   exact AI.rBothL hT hn (l:=(List.range len).map g) (off:=off) (ad:=some ⟨0,off,some 1⟩) hu (by rw[hlen];omega) hb (by rw[hlen];simpa using r1) (by rw[hlen];exact r2) (fun _=>rfl) hV
theorem laid_met(os:Os):laidMet Tryz.prog Rows.refsBothRow.laid ((laidWorld os).forCall (fun _ _=>0) ⟨#[],#[.int .u8 0,.slice none 0 0],[]⟩).memory :=
 laidMet_of_run' 8 (by kernel_rfl) (by kernel_rfl)
theorem reads(os:Os){H:Type}(enc:TypeId×Value→H):∃places,DataW.whole enc Tryz.prog ((laidWorld os).forCall (fun _ _=>0) ⟨#[],#[.int .u8 0,.slice none 0 0],[]⟩).memory Tryz.f5.params.toList Rows.refsBothSpec.vars false (#[.int .u8 0,.slice none 0 0]:Array Value).toList 8=some ([.lit (.int .u8 0),.nil],[],places) :=
 ⟨[],by kernel_rfl⟩
theorem lifted(os:Os)(started:os.Started)(H:Type)(enc:TypeId×Value→H)(F:Stop.Interp) :
  ReturnsInHanded {} Tryz.checked os 5 .any ((OpenSpec.ofChange Rows.refsBothSpec).preRow enc Tryz.prog Tryz.f5 Rows.refsBothRow.domain false Rows.refsBothRow.laid) (((OpenSpec.ofChange Rows.refsBothSpec).at F).post enc Tryz.prog Tryz.f5 false true false false):=by
 obtain⟨places,hx⟩:=reads os enc
 refine returnsInHanded_of_row (C:=Tryz.checked) (s:=OpenSpec.ofChange Rows.refsBothSpec) own started (by kernel_rfl) Tryz.func5
  (witness_row_at (enc:=enc) (C:=Tryz.checked) false (laidWorld os) #[.int .u8 0,.slice none 0 0] rfl (by kernel_rfl) (by kernel_rfl) (by kernel_rfl)
   (OpenSpec.preRow_of_cond 8 hx (by kernel_rfl) (fun k hk=>by cases hk) (by kernel_rfl) (laid_met os))) ?_
 intro W base args ds gs before hval hW _ _ _ hL _ _
 exact contract H enc W base args ds gs before hval hW hL
theorem closed:joinedFacts Tryz.prog 5 Tryz.f5 (OpenSpec.ofChange Rows.refsBothSpec).bare Rows.refsBothRow=true:=by
 unfold joinedFacts
 rw[fact_laid,fact_maps,fact_stops,fact_knobs,in_place,unfollowed,recurses,named]
 kernel_rfl
theorem said:Rows.RefsBothSaid :=
 OpenClaim.holds_of_cond 5 Tryz.f5 rfl rfl rfl rfl rfl rfl rfl ⟨rfl,rfl,rfl,rfl,rfl⟩ rfl rfl rfl rfl rfl (by kernel_rfl) Tryz.func5 closed
  (of_decide_eq_true (by kernel_rfl)) (by unfold Func.isWrapper;first|(rw[if_pos (by decide +kernel)];kernel_rfl)|(rw[if_neg (by decide +kernel)];exact⟨rfl,rfl⟩))
  (fun os started H enc _ F=>by rw[OpenClaim.pre_eq_preRow];exact lifted os started H enc F)
theorem plain(f:FuncId)(fn:Func)(hf:Tryz.pinned.checked.prog.funcNamed "millpond/millpondlaw23.RefsBoth" = some f)(hfn:Tryz.pinned.checked.prog.funcs[f]? = some fn) :
  false=Tryz.pinned.checked.prog.looks []∧∀(j:Nat) t,fn.params[j]? = some t→Tryz.pinned.checked.prog.wantsStandIn t=false:=by
 obtain rfl:f=5:=Option.some.inj ((show Tryz.prog.funcNamed "millpond/millpondlaw23.RefsBoth" = some 5 by kernel_rfl).symm.trans hf) |>.symm
 obtain rfl:fn=Tryz.f5:=(Option.some.inj (Tryz.func5.symm.trans hfn)).symm
 refine⟨by kernel_rfl,fun j t ht=>?_⟩
 rw[Tryz.params5] at ht
 have ht':t=5∨t=22:=by
  match j,ht with
  |0,ht=>exact .inl (by simpa using ht.symm)
  |1,ht=>exact .inr (by simpa using ht.symm)
  |j+2,ht=>simp at ht
 have hw:Tryz.prog.wantsStandIn 5=false:=by kernel_rfl
 have hw':Tryz.prog.wantsStandIn 22=false:=by kernel_rfl
 rcases ht' with rfl|rfl
 ·exact hw
 ·exact hw'
theorem card:Rows.RefsBothCardSaid :=
 Claim7.holds_tied_plain_at .later [] _ _ _ _ said (fun _ h=>by cases h) (by kernel_rfl) (fun _ h=>by cases h) refsBoth_row_tie rfl ⟨rfl,rfl⟩ (by kernel_rfl) rfl plain goes.symm
end Go.Proofs.YthoiknijhfnadaaGreatDoor.refsBoth
theorem Go.Proofs.YthoiknijhfnadaaGreatDoor.refsBoth_holds:Go.Proofs.YthoiknijhfnadaaGreatDoor.Rows.RefsBothCardSaid:=Go.Proofs.YthoiknijhfnadaaGreatDoor.refsBoth.card
#print axioms Go.Proofs.YthoiknijhfnadaaGreatDoor.refsBoth_holds
