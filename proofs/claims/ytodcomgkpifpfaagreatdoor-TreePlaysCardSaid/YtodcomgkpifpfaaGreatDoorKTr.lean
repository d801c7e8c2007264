/- Is a node in a subtree: the walk. -/
import Derived.Test.YtodcomgkpifpfaaGreatDoorKSp
import Derived.Test.YtodcomgkpifpfaaGreatDoorTw
import Derived.Test.YtodcomgkpifpfaaGreatDoorIfn3
import Derived.Test.YtodcomgkpifpfaaGreatDoorKFo
set_option maxRecDepth 100000
noncomputable section
namespace Go.AI
open Go.Proofs
open Go.Fo (Wd Un Pre)
variable {W0:World}{Cls:Nat→Int→Prop}{x:Ar}{S:List Nat}{rr rb:List Value}{tbl:List (Nat×AObj Ar)}{nx:Nat}
theorem upd_self{α:Type}{s:Nat}{y:α}:∀{l:List (Nat×α)},look s l=some y→upd s y l=l
 |[],h=>by simp[look] at h
 |a::r,h=>by
  unfold upd
  unfold look at h
  cases hb:Nat.beq s a.1 with
  |true =>
   rw[hb,cond_true] at h
   injection h with h
   subst h;rfl
  |false =>
   rw[hb,cond_false] at h
   rw[cond_false,upd_self h]
structure Hs(tbl:List (Nat×AObj Ar))(x:Ar)(rr rb:List Value):Prop where
 l0:look 0 tbl=some (.ext x)
 l1:look 1 tbl=some (.cells (pA::rb))
 l2:look 2 tbl=some (.cells (pB::rr))
structure Can(rr rb:List Value):Prop where
 r:can3Fs ⟨0,1,2⟩ rr=some rr
 b:can3Fs ⟨0,1,2⟩ rb=some rb
theorem Hs.sm:Hs (sm3 x rr rb) x rr rb:=⟨rfl,rfl,rfl⟩
theorem Hs.cons{k:Nat}{o:AObj Ar}(H:Hs tbl x rr rb)(hk:2<k):Hs ((k,o)::tbl) x rr rb:=by
 refine⟨?_,?_,?_⟩
 ·rw[zC,if_neg (by show¬0=k;omega)];exact H.l0
 ·rw[zC,if_neg (by show¬1=k;omega)];exact H.l1
 ·rw[zC,if_neg (by show¬2=k;omega)];exact H.l2
section
variable {F:Nat→Option IFn}{cl:Nat→Bool}{hk:Hook Ar}{n:Nat}{K:List (Nat×Value)→Mem Ar→Prop}{env:List (Nat×Value)}{l:List (Option (Nat×Bool)×IOp)}
theorem lift_rd{spec:Spec}{spec0:List Value→Option Value}{vs:List Value}{v:Value}{x':Ar}(H:Hs tbl x rr rb)(C:Can rr rb)(hx:x.refuse<9223372036854775808)(h1:firstV vs=some 2)(h2:can3L ⟨0,1,2⟩ vs=some vs)(hs:spec x vs=some (v,x'))(hb:back3V ⟨0,1,2⟩ v=some v):liftR spec spec0 vs ⟨tbl,nx⟩=some (v,⟨upd 0 (.ext x') tbl,nx⟩) :=
 liftR_at (q:=⟨0,1,2⟩) h1 (find3_at h1 H.l2 H.l1 H.l0 (by decide)) hx h2 C.r C.b hs hb
theorem WO.rd{d:Option Nat}{f:Opd}{xs:List Opd}{kf:Nat}{vs:List Value}{v:Value}{spec:Spec}{spec0:List Value→Option Value}(H:Hs tbl x rr rb)(C:Can rr rb)(hx:x.refuse<9223372036854775808)
  (hs:spec x vs=some (v,x)) (hf:evo env f=some (.func (.func kf) #[] #[])) (hxs:evs env xs=some vs) (hh:hk kf=some (liftR spec spec0)) (h1:firstV vs=some 2) (h2:can3L ⟨0,1,2⟩ vs=some vs)
  (hb:back3V ⟨0,1,2⟩ v=some v) (k:WO (run F cl hk (n+1)) l (putEnv d v env) ⟨[],tbl,nx⟩ K):WO (run F cl hk (n+1)) ((none,.call d f xs)::l) env ⟨[],tbl,nx⟩ K:=by
 refine .fcall (v:=v) (h:=⟨tbl,nx⟩) hf hxs ?_ k
 have he:vs++(#[]:Array Value).toList=vs:=List.append_nil vs
 rw[he,run_hook hh,lift_rd H C hx h1 h2 hs hb,upd_self H.l0]
end
theorem TW.e0(h:TW x S){a:Nat}(ha:a∈S):nodeE x (.ofNat a)=some 0:=(h.node a ha).ok
theorem TW.has(h:TW x S){a:Nat}(ha:a∈S):spTHas x [trC,vI a]=some (errV 0,x):=by
 simp only[spTHas,ofNode,h.e0 ha]
theorem getI_eq{a f:Nat}(h:wd x (a+32+8*f)<4611686018427387904):getI x a f = .ofNat (wd x (a+32+8*f)):=by
 unfold getI
 exact wrap64 (by simp only[zO];omega) (by simp only[zO];omega)
theorem TW.get(h:TW x S){a f:Nat}(ha:a∈S)(hf:fldB f=true)(hl:InS S (wd x (a+32+8*f))):spTGet x [trC,vI a,vI f]=some (vI (wd x (a+32+8*f)),x):=by
 simp only[spTGet,hf,cond_true,ofNode,h.e0 ha,getI_eq (hl.lt h.small)]
theorem TW.par(h:TW x S){a:Nat}(ha:a∈S):spTParent x [trC,vI a]=some (vI ((wds x S).par a),x):=by
 obtain⟨d,I⟩:=h.inv
 have hp:(wds x S).par a=wd x (a+40):=wdS_in ha
 have hl:=inv_par_in I ha
 rw[hp] at hl ⊢
 simp only[spTParent,ofNode,h.e0 ha]
 rw[getI_eq (f:=1) (hl.lt h.small)]
open Classical in
def spTUnder(S:List Nat):Spec
 |x,[.agg ⟨[.pointer (some ⟨2,0,none⟩)]⟩,.int .i64 (.ofNat a),.int .i64 (.ofNat top)]=>if TW x S∧a∈S∧top∈S then some (.bool (decide (Un (wds x S) top a)),x) else none
 |_,_=>none
abbrev RF1(hk:List (HookF Ar))(n:Nat):CallFn Ar:=run FA (fun _=>false) (hookL hk) n
theorem RF_ok{hk:List (HookF Ar)}(h:∀y∈hk,HookOk (Ext1 Cls) PZ W0 y.1 y.2)(n:Nat):CallsOk (Ext1 Cls) PZ W0 (RF1 hk n):=run_sound (esc:=escA) mixedZ (hookL_ok h) n
open Classical in
theorem under_run(hS:S.length<900)(h:TW x S)(C:Can rr rb){a top:Nat}(ha:a∈S)(ht:top∈S) :
  ∃v h',RF1 hV8 1002 16 [trC,vI a,vI top] ⟨sm3 x rr rb,3⟩=some (v,h')∧(v = .bool (decide (Un (wds x S) top a))∧Hs h'.tbl x rr rb):=by
 obtain⟨d,I⟩:=h.inv
 have H0:Hs ((3,AObj.cells [pR])::sm3 x rr rb) x rr rb:=Hs.sm.cons (by decide)
 have hb3:look 3 ((3,AObj.cells [pR])::sm3 x rr rb)=some (.cells [pR]):=rfl
 refine run_fn rfl fUnder (zL rfl) ?_
 dsimp only[iUnder,argsE]
 refine WC.seq (WC.ops (WO.box rfl rfl (WO.mv rfl (WO.nil (zN (WC.seq (WC.seq (WC.ops ?_))))))))
 refine WO.load rfl hb3 rfl rfl rfl (WO.mv rfl (WO.rd H0 C h.ref (h.has ha) rfl rfl rfl rfl rfl rfl ?_))
 refine WO.pure rfl (WO.mv rfl (WO.take rfl rfl (WO.load rfl hb3 rfl rfl rfl (WO.take rfl rfl (WO.mv rfl (WO.take rfl rfl ?_))))))
 refine WO.rd H0 C h.ref (h.has ht) rfl rfl rfl rfl rfl rfl (WO.take rfl rfl (WO.pure rfl (WO.pure rfl (WO.nil (zN (WC.cond_false rfl (WC.skip (zN (WC.seq (WC.block ?_))))))))))
 refine WC.loop (fun j e tbl nx=>∃b,e 1=some (vI b)∧e 2=some (vI top)∧e 3=some (.pointer (some ⟨3,0,none⟩))∧(b=0∨b∈S∧d b<j)∧(Un (wds x S) top a↔b≠0∧Un (wds x S) top b)∧tbl=(3,AObj.cells [pR])::sm3 x rr rb∧nx=4) (k:=901) (by decide)
  ⟨a,rfl,rfl,rfl,.inr ⟨ha,by have:=I.lt ha;omega⟩,⟨fun q=>⟨h.pos ha,q⟩,fun q=>q.2⟩,rfl,rfl⟩ ?_
 rintro j e tbl nx ⟨b,e1,e2,e3,hb,hu,rfl,rfl⟩
 have hout:∀b,(b=0∨b=top)→(Un (wds x S) top a↔b≠0∧Un (wds x S) top b)→decide (Un (wds x S) top a)=decide (Int.ofNat b=Int.ofNat top):=by
  intro b hb hu
  have h0:=h.pos ht
  rcases hb with rfl|rfl
  ·have:¬Int.ofNat 0=Int.ofNat top:=fun e=>h0 (Int.ofNat.inj e).symm
   rw[decide_eq_false this,decide_eq_false (fun q=>(hu.1 q).1 rfl)]
  ·rw[decide_eq_true (rfl:Int.ofNat b=Int.ofNat b),decide_eq_true (hu.2 ⟨h0,.refl⟩)]
 refine WC.seq (WC.seq (WC.ops (WO.mv e1 (WO.neqS rfl rfl (fun hz=>?_) (fun hz=>?_)))))
 ·refine WO.mv rfl (WO.take rfl rfl (WO.mv e1 (WO.take rfl rfl (WO.mv e2 (WO.take rfl rfl (WO.neqS rfl rfl (fun hn=>?_) (fun hn=>?_)))))))
  ·refine WO.pure rfl (WO.nil (zN (WC.cond_true rfl (WC.skip (zN (WC.block (WC.ops ?_)))))))
   have hb0:b≠0:=fun e=>hz (by rw[e])
   have hbt:b≠top:=fun e=>hn (by rw[e])
   obtain⟨hbS,hj⟩:=hb.resolve_left hb0
   refine WO.load e3 hb3 rfl rfl rfl (WO.mv e1 (WO.rd H0 C h.ref (h.par hbS) rfl rfl rfl rfl rfl rfl (WO.mv rfl (WO.nil (zB ?_)))))
   refine⟨j-1,by omega,rfl,(wds x S).par b,rfl,e2,e3,?_,?_,rfl,rfl⟩
   ·by_cases hp:(wds x S).par b=0
    ·exact .inl hp
    ·have:=I.dep b hbS hp
     exact .inr ⟨(I.par b hbS hp).1,by omega⟩
   ·rw[hu]
    constructor
    ·rintro⟨_,q⟩
     exact q.par_of hbt
    ·rintro⟨q1,q2⟩
     exact⟨hb0,.up q1 q2⟩
  ·have hbt:b=top:=Int.ofNat.inj hn
   refine WO.pure rfl (WO.nil (zN (WC.cond_false rfl (WC.exit (thenC_exit (blockC_exit ?_))))))
   refine zN (WC.seq (WC.ops (WO.mv e1 (WO.mv e2 (WO.eql rfl rfl (WO.mv rfl (WO.nil (zN (WC.ret ?_)))))))))
   exact⟨_,_,rfl,rfl,by rw[hout b (.inr hbt) hu],H0⟩
 ·have hb0:b=0:=Int.ofNat.inj hz
  refine WO.mv rfl (WO.skip rfl rfl (WO.skip rfl rfl (WO.skip rfl rfl (WO.pure rfl (WO.nil (zN (WC.cond_false rfl (WC.exit (thenC_exit (blockC_exit ?_))))))))))
  refine zN (WC.seq (WC.ops (WO.mv e1 (WO.mv e2 (WO.eql rfl rfl (WO.mv rfl (WO.nil (zN (WC.ret ?_)))))))))
  exact⟨_,_,rfl,rfl,by rw[hout b (.inl hb0) hu],H0⟩
theorem rTUnder(hS:S.length<900){x':Ar}{vs:List Value}{v:Value}(C:Can rr rb)(hs:spTUnder S x vs=some (v,x')):∃t n,RF1 hV8 1002 16 vs ⟨sm3 x rr rb,3⟩=some (v,⟨t,n⟩)∧look 0 t=some (.ext x')∧look 1 t=some (.cells (pA::rb))∧look 2 t=some (.cells (pB::rr)):=by
 unfold spTUnder at hs
 split at hs
 ·rename_i a top
  split at hs
  ·rename_i hc
   injection hs with hs;injection hs with h1 h2;subst h1;subst h2
   obtain⟨v,h',h1,rfl,H⟩:=under_run (rr:=rr) (rb:=rb) hS hc.1 C hc.2.1 hc.2.2
   exact⟨h'.tbl,h'.next,h1,H.l0,H.l1,H.l2⟩
  ·cases hs
 ·cases hs
def hT1(S:List Nat):List (HookF Ar):=(16,liftR (spTUnder S) (fun _=>none))::hV8
theorem hT1_ok(hS:S.length<900):∀y∈hT1 S,HookOk (Ext1 Cls) PZ W0 y.1 y.2 :=
 more_ok (E:=(Ext1 Cls)) hV8_ok (liftR_ok (RF_ok hV8_ok 1002) (fun _ _ _ _ _ _ _ h1 h2 hs=>rTUnder hS ⟨h1,h2⟩ hs) fun _ _ _ hs=>by cases hs)
end Go.AI
/- Who is told behind one;a subtree told: the walks. -/
namespace Go.AI
open Go.Proofs
open Go.Fo (Wd Un Pre Fol later)
variable {W0:World}{Cls:Nat→Int→Prop}{x:Ar}{S:List Nat}{rr rb:List Value}{tbl:List (Nat×AObj Ar)}{nx:Nat}
def depX(h:TW x S):Nat→Nat:=h.inv.choose
theorem depX_inv(h:TW x S):Go.Fo.Inv (wds x S) S (kidsX x S) (depX h):=h.inv.choose_spec
def restX(h:TW x S)(top a:Nat):List Nat:=Go.Fo.Rest (wds x S) S (kidsX x S) (depX h) top a
open Classical in
def spTNext(S:List Nat):Spec
 |x,[.agg ⟨[.pointer (some ⟨2,0,none⟩)]⟩,.int .i64 (.ofNat a),.int .i64 (.ofNat top)]=>if h:TW x S∧a∈S∧top∈S∧Un (wds x S) top a then some (vI ((restX h.1 top a).headD 0),x) else none
 |_,_=>none
theorem TW.fst(h:TW x S){a:Nat}(ha:a∈S):spTGet x [trC,vI a,vI 2]=some (vI ((kidsX x S a).headD 0),x):=by
 obtain⟨d,I⟩:=h.inv
 have hp:(wds x S).fst a=wd x (a+48):=wdS_in ha
 have hl:=inv_fst_in I ha
 rw[← I.fst a ha,hp]
 rw[hp] at hl
 exact h.get ha rfl hl
theorem TW.nxt(h:TW x S){a:Nat}(ha:a∈S)(h0:(wds x S).par a≠0):spTGet x [trC,vI a,vI 4]=some (vI ((later a (kidsX x S ((wds x S).par a))).headD 0),x):=by
 obtain⟨d,I⟩:=h.inv
 have hp:(wds x S).nxt a=wd x (a+64):=wdS_in ha
 have hl:=(inv_nxt_in I ha h0).1
 rw[← I.nxt_eq ha h0,hp]
 rw[hp] at hl
 exact h.get ha rfl hl
theorem next_run(hS:S.length<900)(h:TW x S)(C:Can rr rb){a top:Nat}(ha:a∈S)(ht:top∈S)(hu:Un (wds x S) top a) :
  ∃v h',RF1 (hT1 S) 1002 30 [trC,vI a,vI top] ⟨sm3 x rr rb,3⟩=some (v,h')∧(v=vI ((restX h top a).headD 0)∧Hs h'.tbl x rr rb):=by
 have I:=depX_inv h
 have H0:Hs ((3,AObj.cells [pR])::sm3 x rr rb) x rr rb:=Hs.sm.cons (by decide)
 have hb3:look 3 ((3,AObj.cells [pR])::sm3 x rr rb)=some (.cells [pR]):=rfl
 refine run_fn rfl fNext (zL rfl) ?_
 dsimp only[iNext,argsE]
 refine WC.seq (WC.ops (WO.box rfl rfl (WO.mv rfl (WO.nil (zN (WC.seq (WC.seq (WC.ops ?_))))))))
 refine WO.load rfl hb3 rfl rfl rfl (WO.mv rfl (WO.rd H0 C h.ref (h.fst ha) rfl rfl rfl rfl rfl rfl (WO.mv rfl (WO.nil (zN (WC.seq (WC.ops (WO.mv rfl ?_))))))))
 cases hk:kidsX x S a with
 |cons y ys =>
  obtain⟨y1,y2,y3⟩:=I.down_kid ha hu hk
  refine WO.neqS rfl rfl (fun _=>?_) (fun hz=>absurd (Int.ofNat.inj hz) (h.pos y1))
  refine WO.nil (zN (WC.cond_true rfl (WC.seq (WC.ops (WO.mv rfl (WO.mv rfl (WO.nil (zN (WC.ret (thenC_ret ?_))))))))))
  refine⟨_,_,rfl,rfl,?_,H0⟩
  have e:restX h top a=y::Go.Fo.Rest (wds x S) S (kidsX x S) (depX h) top y:=y3.trans (I.pre_fol y1)
  rw[e];rfl
 |nil =>
  have e:restX h top a=Fol (wds x S) S (kidsX x S) (depX h) top a:=by unfold restX Go.Fo.Rest;rw[hk];rfl
  rw[e]
  refine WO.neqS rfl rfl (fun hz=>absurd rfl hz) (fun _=>?_)
  refine WO.nil (zN (WC.cond_false rfl (WC.skip (zN (WC.seq (WC.block ?_))))))
  refine WC.loop (fun j e tbl nx=>∃b,e 1=some (vI b)∧e 2=some (vI top)∧e 3=some (.pointer (some ⟨3,0,none⟩))∧b∈S∧Un (wds x S) top b∧depX h b<j∧Fol (wds x S) S (kidsX x S) (depX h) top a=Fol (wds x S) S (kidsX x S) (depX h) top b∧tbl=(3,AObj.cells [pR])::sm3 x rr rb∧nx=4) (k:=901) (by decide)
   ⟨a,rfl,rfl,rfl,ha,hu,by have:=I.lt ha;omega,rfl,rfl,rfl⟩ ?_
  rintro j e tbl nx ⟨b,e1,e2,e3,hb,hub,hj,hf,rfl,rfl⟩
  rw[hf]
  refine WC.seq (WC.seq (WC.ops (WO.mv e1 (WO.mv e2 (WO.neqS rfl rfl (fun hn=>?_) (fun hn=>?_))))))
  ·have hbt:b≠top:=fun e=>hn (by rw[e])
   obtain⟨hp0,hup⟩:=hub.par_of hbt
   refine WO.nil (zN (WC.cond_true rfl (WC.skip (zN (WC.block (WC.seq (WC.seq (WC.ops ?_))))))))
   refine WO.load e3 hb3 rfl rfl rfl (WO.mv e1 (WO.rd H0 C h.ref (h.nxt hb hp0) rfl rfl rfl rfl rfl rfl (WO.mv rfl (WO.nil (zN (WC.seq (WC.ops (WO.mv rfl ?_))))))))
   cases hl:later b (kidsX x S ((wds x S).par b)) with
   |cons y ys =>
    obtain⟨y1,y2,y3⟩:=I.down_next hb hub hbt hl
    refine WO.neqS rfl rfl (fun _=>?_) (fun hz=>absurd (Int.ofNat.inj hz) (h.pos y1))
    refine WO.nil (zN (WC.cond_true rfl (WC.seq (WC.ops (WO.mv rfl (WO.mv rfl (WO.nil (zN (WC.ret (thenC_ret ?_))))))))))
    refine blockC_ret (blockC_ret (thenC_ret ⟨_,_,rfl,rfl,?_,H0⟩))
    rw[y3,I.pre_fol y1];rfl
   |nil =>
    obtain⟨y1,y2,y3,y4⟩:=I.down_up hb hub hbt hl
    refine WO.neqS rfl rfl (fun hz=>absurd rfl hz) (fun _=>?_)
    refine WO.nil (zN (WC.cond_false rfl (WC.skip (zN (WC.ops ?_)))))
    refine WO.load e3 hb3 rfl rfl rfl (WO.mv e1 (WO.rd H0 C h.ref (h.par hb) rfl rfl rfl rfl rfl rfl (WO.mv rfl (WO.nil (zB ?_)))))
    exact⟨j-1,by omega,rfl,(wds x S).par b,rfl,e2,e3,y1,y2,by omega,y4,rfl,rfl⟩
  ·have hbt:b=top:=Int.ofNat.inj hn
   refine WO.nil (zN (WC.cond_false rfl (WC.exit (thenC_exit (blockC_exit ?_)))))
   refine zN (WC.seq (WC.ops (WO.mv rfl (WO.nil (zN (WC.ret ?_))))))
   refine⟨_,_,rfl,rfl,?_,H0⟩
   rw[hbt,Go.Fo.fol_top];rfl
theorem rTNext(hS:S.length<900){x':Ar}{vs:List Value}{v:Value}(C:Can rr rb)(hs:spTNext S x vs=some (v,x')):∃t n,RF1 (hT1 S) 1002 30 vs ⟨sm3 x rr rb,3⟩=some (v,⟨t,n⟩)∧look 0 t=some (.ext x')∧look 1 t=some (.cells (pA::rb))∧look 2 t=some (.cells (pB::rr)):=by
 unfold spTNext at hs
 split at hs
 ·rename_i a top
  split at hs
  ·rename_i hc
   injection hs with hs;injection hs with h1 h2;subst h1;subst h2
   obtain⟨v,h',h1,rfl,H⟩:=next_run (rr:=rr) (rb:=rb) hS hc.1 C hc.2.1 hc.2.2.1 hc.2.2.2
   exact⟨h'.tbl,h'.next,h1,H.l0,H.l1,H.l2⟩
  ·cases hs
 ·cases hs
def hT2(S:List Nat):List (HookF Ar):=(30,liftR (spTNext S) (fun _=>none))::hT1 S
theorem hT2_ok(hS:S.length<900):∀y∈hT2 S,HookOk (Ext1 Cls) PZ W0 y.1 y.2 :=
 more_ok (E:=(Ext1 Cls)) (hT1_ok hS) (liftR_ok (RF_ok (hT1_ok hS) 1002) (fun _ _ _ _ _ _ _ h1 h2 hs=>rTNext hS ⟨h1,h2⟩ hs) fun _ _ _ hs=>by cases hs)
end Go.AI
/- A subtree told, parents first: the walk. -/
namespace Go.AI
open Go.Proofs
open Go.Fo (Wd Un Pre Fol later)
variable {W0:World}{Cls:Nat→Int→Prop}{x:Ar}{S:List Nat}{rr rb:List Value}{tbl:List (Nat×AObj Ar)}{nx:Nat}
theorem TW.next(h:TW x S){a top:Nat}(ha:a∈S)(ht:top∈S)(hu:Un (wds x S) top a):spTNext S x [trC,vI a,vI top]=some (vI ((restX h top a).headD 0),x):=by
 have hc:TW x S∧a∈S∧top∈S∧Un (wds x S) top a:=⟨h,ha,ht,hu⟩
 simp only[spTNext,dif_pos hc]
open Classical in
def spTDown(S:List Nat):SpecL
 |x,[.agg ⟨[.pointer (some ⟨2,0,none⟩)]⟩,.int .i64 (.ofNat a)]=>if TW x S∧a∈S then some (Pre S (kidsX x S) a) else none
 |_,_=>none
theorem TW.pre_len(h:TW x S){a:Nat}(ha:a∈S):(Pre S (kidsX x S) a).length≤S.length :=
 Go.Fo.nodup_len _ _ ((depX_inv h).nodup_pre a ha) fun y hy=>(((depX_inv h).mem_pre a ha y).1 hy).1
def Rowed(T:Nat)(tbl:List (Nat×AObj Ar))(nx:Nat)(v:Value)(P:List Nat):Prop :=
 (P=[]∧v = .slice none 0 0)∨∃k,4≤k∧k<nx∧P≠[]∧v = .slice (some ⟨k,0,none⟩) P.length P.length∧look k tbl=some (.grown 1 T (P.map nI))
theorem Hs.del{k:Nat}(H:Hs tbl x rr rb)(hk:2<k):Hs (AI.del k tbl) x rr rb:=by
 refine⟨?_,?_,?_⟩
 ·rw[look_del_ne (by omega)];exact H.l0
 ·rw[look_del_ne (by omega)];exact H.l1
 ·rw[look_del_ne (by omega)];exact H.l2
theorem row_more{T:Nat}{v:Value}{P:List Nat}{b:Nat}(hP:P.length<1000)(h3:look 3 tbl=some (.cells [pR]))(H:Hs tbl x rr rb)(hn:4≤nx)(h:Rowed T tbl nx v P) :
  ∃w tbl',appendM ⟨[],(nx,.cells [vI b])::tbl,nx+1⟩ 1 8 T v (.slice (some ⟨nx,0,none⟩) 1 1)=some (w,⟨[],tbl',nx+2⟩)∧Rowed T tbl' (nx+2) w (P++[b])∧look 3 tbl'=some (.cells [pR])∧Hs tbl' x rr rb:=by
 have hsrc:source (⟨[],(nx,.cells [vI b])::tbl,nx+1⟩:Mem Ar) 1 (.slice (some ⟨nx,0,none⟩) 1 1)=some (1,[vI b]):=by
  have hl:(⟨[],(nx,.cells [vI b])::tbl,nx+1⟩:Mem Ar).loads (some ⟨nx,0,none⟩) 1=some [vI b] :=
   mem_loads (by rw[zC,if_pos rfl]) rfl rfl (by decide)
  simp only[source,Nat.mul_one,hl,Option.map]
 have h31:look 3 ((nx,AObj.cells [vI b])::tbl)=some (.cells [pR]):=by rw[zC,if_neg (by show¬3=nx;omega)];exact h3
 have H1:Hs ((nx,AObj.cells [vI b])::tbl) x rr rb:=H.cons (by omega)
 rcases h with⟨rfl,rfl⟩|⟨k,k1,k2,_,rfl,hk⟩
 ·refine⟨_,_,appendM_new hsrc (by decide) (by decide),.inr ⟨nx+1,by omega,by omega,by simp,rfl,?_⟩,?_,H1.cons (by show 2<nx+1;omega)⟩
  ·rw[zC,if_pos rfl];rfl
  ·rw[zC,if_neg (by show¬3=nx+1;omega)];exact h31
 ·have hlk:look k ((nx,AObj.cells [vI b])::tbl)=some (.grown 1 T (P.map nI)):=by rw[zC,if_neg (by show¬k=nx;omega)];exact hk
  have hlen:(P.map nI).length=P.length*1:=by simp
  have hld:(⟨[],(nx,.cells [vI b])::tbl,nx+1⟩:Mem Ar).loads (some ⟨k,0,none⟩) (P.length*1)=some (P.map nI):=by
   rcases Nat.eq_zero_or_pos P.length with e|e
   ·have:P=[]:=List.length_eq_zero_iff.1 e
    subst this;rfl
   ·refine mem_loads hlk rfl ?_ (by omega)
    have h1:(P.map nI).drop 0=P.map nI:=rfl
    have h2:(P.map nI).take (P.length*1)=P.map nI:=by rw[← hlen,List.take_length]
    have h3:Nat.beq (P.map nI).length (P.length*1)=true:=by rw[Nat.beq_eq];exact hlen
    simp only[takeN,h1,h2,h3,cond_true]
  refine⟨_,_,appendM_more (b:=8) hsrc rfl (by decide) (by exact hlk) hlen hld (by omega),.inr ⟨nx+1,by omega,by omega,by simp,?_,?_⟩,?_,?_⟩
  ·rw[List.length_append];rfl
  ·show look (nx+1) ((nx+1,AObj.grown 1 T (P.map nI++[vI b]))::AI.del k ((nx,AObj.cells [vI b])::tbl))=_
   rw[zC,if_pos rfl,List.map_append];rfl
  ·show look 3 ((nx+1,AObj.grown 1 T (P.map nI++[vI b]))::AI.del k ((nx,AObj.cells [vI b])::tbl))=_
   rw[zC,if_neg (by show¬3=nx+1;omega),look_del_ne (by omega)];exact h31
  ·exact(H1.del (by omega)).cons (by show 2<nx+1;omega)
theorem down_run(hS:S.length<900)(h:TW x S)(C:Can rr rb){a:Nat}(ha:a∈S) :
  ∃v h',RF1 (hT2 S) 1002 11 [trC,vI a] ⟨sm3 x rr rb,3⟩=some (v,h')∧(Rowed 3 h'.tbl h'.next v (Pre S (kidsX x S) a)∧Hs h'.tbl x rr rb):=by
 have I:=depX_inv h
 have hlen:=h.pre_len ha
 have H0:Hs ((3,AObj.cells [pR])::sm3 x rr rb) x rr rb:=Hs.sm.cons (by decide)
 have hb3:look 3 ((3,AObj.cells [pR])::sm3 x rr rb)=some (.cells [pR]):=rfl
 refine run_fn rfl fDown (zL rfl) ?_
 dsimp only[iDown,argsE]
 refine WC.seq (WC.ops (WO.box rfl rfl (WO.mv rfl (WO.nil (zN (WC.seq (WC.seq (WC.ops ?_))))))))
 refine WO.load rfl hb3 rfl rfl rfl (WO.mv rfl (WO.rd H0 C h.ref (h.has ha) rfl rfl rfl rfl rfl rfl (WO.pure rfl (WO.nil (zN (WC.cond_false rfl (WC.skip (zN (WC.seq (WC.ops ?_))))))))))
 refine WO.mv rfl (WO.nil (zN (WC.seq (WC.seq (WC.ops (WO.mv rfl (WO.mv rfl (WO.nil (zN (WC.block ?_))))))))))
 refine WC.loop (fun j e tbl nx=>∃P b,P.length+j=950∧e 1=some (vI a)∧e 2=some (.pointer (some ⟨3,0,none⟩))∧(∃v,e 5=some v∧Rowed 3 tbl nx v P)∧e 6=some (vI b)∧(b=0∧Pre S (kidsX x S) a=P∨b∈S∧Un (wds x S) a b∧Pre S (kidsX x S) a=P++b::restX h a b)∧look 3 tbl=some (.cells [pR])∧4≤nx∧Hs tbl x rr rb) (k:=950) (by decide)
  ⟨[],a,rfl,rfl,rfl,⟨_,rfl,.inl ⟨rfl,rfl⟩⟩,rfl,.inr ⟨ha,.refl,I.pre_rest ha⟩,hb3,by decide,H0⟩ ?_
 rintro j e tbl nx ⟨P,b,hj,e1,e2,⟨v,e5,hv⟩,e6,hb,l3,hn,H⟩
 refine WC.seq (WC.seq (WC.ops (WO.mv e6 (WO.neqS rfl rfl (fun hz=>?_) (fun hz=>?_)))))
 ·have hb0:b≠0:=fun e=>hz (by rw[e])
  obtain⟨hbS,hub,hpre⟩:=hb.resolve_left fun q=>hb0 q.1
  have hPl:P.length<900:=by rw[hpre,List.length_append] at hlen;omega
  refine WO.nil (zN (WC.cond_true rfl (WC.skip (zN (WC.seq (WC.block (WC.ops ?_)))))))
  refine WO.mv e5 (WO.mv e6 ?_)
  refine WO.step (i:=.bslice 20 1 1 [.int .i64 (.ofNat 0)] [(0,.t 19)]) (v:=.slice (some ⟨nx,0,none⟩) 1 1) (m':=⟨[],(nx,.cells [vI b])::tbl,nx+1⟩) rfl ?_
  obtain⟨w,tbl',q1,q2,q3,q4⟩:=row_more (b:=b) (by omega) l3 H hn hv
  refine WO.append rfl rfl q1 (WO.mv rfl (WO.nil (zB (zN (WC.ops ?_)))))
  refine WO.load e2 q3 rfl rfl rfl (WO.mv e6 (WO.mv e1 (WO.rd q4 C h.ref (h.next hbS ha hub) rfl rfl rfl rfl rfl rfl (WO.mv rfl (WO.nil ?_)))))
  refine⟨j-1,by omega,rfl,P++[b],(restX h a b).headD 0,by rw[List.length_append];show P.length+1+(j-1)=950;omega,e1,e2,⟨w,rfl,q2⟩,rfl,?_,q3,by show 4≤nx+2;omega,q4⟩
  rcases I.rest_step hbS hub with hr|⟨y,y1,y2,y3⟩
  ·have hr:restX h a b=[]:=hr
   exact .inl ⟨by rw[hr];rfl,by rw[hpre,hr]⟩
  ·have y3:restX h a b=y::restX h a y:=y3
   refine .inr ⟨by rw[y3];exact y1,by rw[y3];exact y2,?_⟩
   rw[hpre,y3,List.append_assoc];rfl
 ·have hb0:b=0:=Int.ofNat.inj hz
  have hpre:Pre S (kidsX x S) a=P:=by
   rcases hb with q|q
   ·exact q.2
   ·exact absurd hb0 (h.pos q.1)
  refine WO.nil (zN (WC.cond_false rfl (WC.exit (thenC_exit (blockC_exit ?_)))))
  refine zN (WC.seq (WC.ops (WO.mv e5 (WO.mv rfl (WO.nil (zN (WC.ret ?_)))))))
  exact⟨_,_,rfl,rfl,by rw[hpre];exact hv,H⟩
theorem rTDown(hS:S.length<900){vs:List Value}{l:List Nat}(C:Can rr rb)(hs:spTDown S x vs=some l):∃t n v,RF1 (hT2 S) 1002 11 vs ⟨sm3 x rr rb,3⟩=some (v,⟨t,n⟩)∧look 0 t=some (.ext x)∧look 1 t=some (.cells (pA::rb))∧look 2 t=some (.cells (pB::rr))∧RowIs 3 t v l:=by
 unfold spTDown at hs
 split at hs
 ·rename_i a
  split at hs
  ·rename_i hc
   injection hs with hs;subst hs
   obtain⟨v,h',h1,h2,H⟩:=down_run (rr:=rr) (rb:=rb) hS hc.1 C hc.2
   refine⟨h'.tbl,h'.next,v,h1,H.l0,H.l1,H.l2,?_⟩
   rcases h2 with⟨q,rfl⟩|⟨k,k1,_,_,rfl,hk⟩
   ·rw[q];rfl
   ·cases hp:Pre S (kidsX x S) a with
    |nil =>
     have:=(depX_inv hc.1).pre_eq hc.2
     rw[hp] at this;cases this
    |cons y ys=>rw[hp] at hk;exact⟨k,by omega,rfl,hk⟩
  ·cases hs
 ·cases hs
def hT3(S:List Nat):List (HookF Ar):=(11,liftL 3 (spTDown S))::hT2 S
theorem hT3_ok(hS:S.length<900):∀y∈hT3 S,HookOk (Ext1 Cls) PZ W0 y.1 y.2 :=
 more_ok (E:=(Ext1 Cls)) (hT2_ok hS) (liftL_ok (RF_ok (hT2_ok hS) 1002) (fun _ _ _ _ _ _ h1 h2 hs=>rTDown hS ⟨h1,h2⟩ hs))
end Go.AI
/- A child more, a child less. -/
namespace Go.AI
open Go.Proofs
open Go.Fo (Wd Un Pre)
variable {W0:World}{Cls:Nat→Int→Prop}
theorem wAddThere_1{x:Ar}{rr rb:List Value}{S:List Nat}{pp cc q1:Nat}:scriptR F1 cleanT (hookL (hT1 S))
 [.run 9,.callR (vI 0) (x),.run 12,.callR (vI 0) (x),.run 12,.callR (vI (q1+1)) (x),.run 16]
 1000 9 [trC,vI pp,vI cc] x rr rb=some ((vI 9),(x),pA::rb,pB::rr,[(.callR 10 (x) (rr) (rb) [(vA [pR]),(vI (cc))] (vI (q1+1)) (x)),(.callR 27 (x) (rr) (rb) [(vA [pR]),(vI (cc))] (vI 0) (x)),(.callR 27 (x) (rr) (rb) [(vA [pR]),(vI (pp))] (vI 0) (x))]):=by kernel_rfl
set_option maxHeartbeats 1600000 in
theorem wAddThere{x:Ar}{rr rb:List Value}{S:List Nat}{pp cc q1:Nat}(hx:x.refuse<9223372036854775808)(hrr:can3Fs ⟨0,1,2⟩ rr=some rr)(hrb:can3Fs ⟨0,1,2⟩ rb=some rb)(a1:spTHas x [trC,vI pp]=some (errV 0,x))(a2:spTHas x [trC,vI cc]=some (errV 0,x))(a3:spTParent x [trC,vI cc]=some (vI (q1+1),x)):∃t nx,RS (hT1 S) 9 [trC,vI pp,vI cc] ⟨sm3 x rr rb,3⟩=some (errV 9,⟨t,nx⟩)∧look 0 t=some (.ext x)∧look 1 t=some (.cells (pA::rb))∧look 2 t=some (.cells (pB::rr)):=by
 refine to_runR (scriptR_run (wAddThere_1 (x:=x) (rr:=rr) (rb:=rb) (S:=S) (pp:=pp) (cc:=cc) (q1:=q1)) ?_) ?_ ?_
 ·repeat' first
   |exact trivial
   |assumption
   |exact ob_bin rfl (by assumption)
   |exact⟨_,_,rfl,by first|assumption|rfl⟩
   |refine And.intro ?_ ?_
   |exact rfl
 ·first|rfl|(simp only[cond_true, *,zT,cond_false]<;>rfl)
 ·first|rfl|(simp only[cond_true, *,cond_false]<;>rfl)
theorem wAddCycle_1{x:Ar}{rr rb:List Value}{S:List Nat}{pp cc:Nat}:scriptR F1 cleanT (hookL (hT1 S))
 [.run 9,.callR (vI 0) (x),.run 12,.callR (vI 0) (x),.run 12,.callR (vI 0) (x),.run 8,.callR (.bool true) (x),.run 16]
 1000 9 [trC,vI pp,vI cc] x rr rb=some ((vI 12),(x),pA::rb,pB::rr,[(.callR 16 (x) (rr) (rb) [(vA [pR]),(vI (pp)),(vI (cc))] (.bool true) (x)),(.callR 10 (x) (rr) (rb) [(vA [pR]),(vI (cc))] (vI 0) (x)),(.callR 27 (x) (rr) (rb) [(vA [pR]),(vI (cc))] (vI 0) (x)),(.callR 27 (x) (rr) (rb) [(vA [pR]),(vI (pp))] (vI 0) (x))]):=by kernel_rfl
set_option maxHeartbeats 1600000 in
theorem wAddCycle{x:Ar}{rr rb:List Value}{S:List Nat}{pp cc:Nat}(hx:x.refuse<9223372036854775808)(hrr:can3Fs ⟨0,1,2⟩ rr=some rr)(hrb:can3Fs ⟨0,1,2⟩ rb=some rb)(a1:spTHas x [trC,vI pp]=some (errV 0,x))(a2:spTHas x [trC,vI cc]=some (errV 0,x))(a3:spTParent x [trC,vI cc]=some (vI 0,x))(a4:(spTUnder S) x [trC,vI pp,vI cc]=some (.bool true,x)):∃t nx,RS (hT1 S) 9 [trC,vI pp,vI cc] ⟨sm3 x rr rb,3⟩=some (errV 12,⟨t,nx⟩)∧look 0 t=some (.ext x)∧look 1 t=some (.cells (pA::rb))∧look 2 t=some (.cells (pB::rr)):=by
 refine to_runR (scriptR_run (wAddCycle_1 (x:=x) (rr:=rr) (rb:=rb) (S:=S) (pp:=pp) (cc:=cc)) ?_) ?_ ?_
 ·repeat' first
   |exact trivial
   |assumption
   |exact ob_bin rfl (by assumption)
   |exact⟨_,_,rfl,by first|assumption|rfl⟩
   |refine And.intro ?_ ?_
   |exact rfl
 ·first|rfl|(simp only[cond_true, *,zT,cond_false]<;>rfl)
 ·first|rfl|(simp only[cond_true, *,cond_false]<;>rfl)
theorem wAdd0_1{x X1 X2 X3 X4 X5:Ar}{rr rb:List Value}{S:List Nat}{pp cc:Nat}:scriptR F1 cleanT (hookL (hT1 S))
 [.run 9,.callR (vI 0) (x),.run 12,.callR (vI 0) (x),.run 12,.callR (vI 0) (x),.run 8,.callR (.bool false) (x),.run 8,.callR (vI 0) (x),.run 6,.callR (vT []) (X1),.run 5,.callR (vT []) (X2),.run 4,.callR (vT []) (X3),.run 5,.callR (vT []) (X4),.run 10,.callR (vT []) (X5),.run 16]
 1000 9 [trC,vI pp,vI cc] x rr rb=some ((vI 0),(X5),pA::rb,pB::rr,[(.callR 29 (X4) (rr) (rb) [(vA [pR]),(vI (pp)),(vI 2),(vI (cc))] (vT []) (X5)),(.callR 29 (X3) (rr) (rb) [(vA [pR]),(vI (pp)),(vI 3),(vI (cc))] (vT []) (X4)),(.callR 29 (X2) (rr) (rb) [(vA [pR]),(vI (cc)),(vI 4),(vI 0)] (vT []) (X3)),(.callR 29 (X1) (rr) (rb) [(vA [pR]),(vI (cc)),(vI 5),(vI 0)] (vT []) (X2)),(.callR 29 (x) (rr) (rb) [(vA [pR]),(vI (cc)),(vI 1),(vI (pp))] (vT []) (X1)),(.callR 28 (x) (rr) (rb) [(vA [pR]),(vI (pp)),(vI 3)] (vI 0) (x)),(.callR 16 (x) (rr) (rb) [(vA [pR]),(vI (pp)),(vI (cc))] (.bool false) (x)),(.callR 10 (x) (rr) (rb) [(vA [pR]),(vI (cc))] (vI 0) (x)),(.callR 27 (x) (rr) (rb) [(vA [pR]),(vI (cc))] (vI 0) (x)),(.callR 27 (x) (rr) (rb) [(vA [pR]),(vI (pp))] (vI 0) (x))]):=by kernel_rfl
set_option maxHeartbeats 1600000 in
theorem wAdd0{x X1 X2 X3 X4 X5:Ar}{rr rb:List Value}{S:List Nat}{pp cc:Nat}(hx:x.refuse<9223372036854775808)(hrr:can3Fs ⟨0,1,2⟩ rr=some rr)(hrb:can3Fs ⟨0,1,2⟩ rb=some rb)(a1:spTHas x [trC,vI pp]=some (errV 0,x))(a2:spTHas x [trC,vI cc]=some (errV 0,x))(a3:spTParent x [trC,vI cc]=some (vI 0,x))(a4:(spTUnder S) x [trC,vI pp,vI cc]=some (.bool false,x))(a5:spTGet x [trC,vI pp,vI 3]=some (vI 0,x))(s1:spTSet x [trC,vI cc,vI 1,vI pp]=some (.tuple ⟨[]⟩,X1))(r1:X1.refuse<9223372036854775808)(s2:spTSet X1 [trC,vI cc,vI 5,vI 0]=some (.tuple ⟨[]⟩,X2))(r2:X2.refuse<9223372036854775808)(s3:spTSet X2 [trC,vI cc,vI 4,vI 0]=some (.tuple ⟨[]⟩,X3))(r3:X3.refuse<9223372036854775808)(s4:spTSet X3 [trC,vI pp,vI 3,vI cc]=some (.tuple ⟨[]⟩,X4))(r4:X4.refuse<9223372036854775808)(s5:spTSet X4 [trC,vI pp,vI 2,vI cc]=some (.tuple ⟨[]⟩,X5)):∃t nx,RS (hT1 S) 9 [trC,vI pp,vI cc] ⟨sm3 x rr rb,3⟩=some (errV 0,⟨t,nx⟩)∧look 0 t=some (.ext X5)∧look 1 t=some (.cells (pA::rb))∧look 2 t=some (.cells (pB::rr)):=by
 refine to_runR (scriptR_run (wAdd0_1 (x:=x) (X1:=X1) (X2:=X2) (X3:=X3) (X4:=X4) (X5:=X5) (rr:=rr) (rb:=rb) (S:=S) (pp:=pp) (cc:=cc)) ?_) ?_ ?_
 ·repeat' first
   |exact trivial
   |assumption
   |exact ob_bin rfl (by assumption)
   |exact⟨_,_,rfl,by first|assumption|rfl⟩
   |refine And.intro ?_ ?_
   |exact rfl
 ·first|rfl|(simp only[cond_true, *,zT,cond_false]<;>rfl)
 ·first|rfl|(simp only[cond_true, *,cond_false]<;>rfl)
theorem wAddL_1{x X1 X2 X3 X4 X5:Ar}{rr rb:List Value}{S:List Nat}{pp cc l1:Nat}:scriptR F1 cleanT (hookL (hT1 S))
 [.run 9,.callR (vI 0) (x),.run 12,.callR (vI 0) (x),.run 12,.callR (vI 0) (x),.run 8,.callR (.bool false) (x),.run 8,.callR (vI (l1+1)) (x),.run 6,.callR (vT []) (X1),.run 5,.callR (vT []) (X2),.run 4,.callR (vT []) (X3),.run 5,.callR (vT []) (X4),.run 10,.callR (vT []) (X5),.run 16]
 1000 9 [trC,vI pp,vI cc] x rr rb=some ((vI 0),(X5),pA::rb,pB::rr,[(.callR 29 (X4) (rr) (rb) [(vA [pR]),(vI (l1+1)),(vI 4),(vI (cc))] (vT []) (X5)),(.callR 29 (X3) (rr) (rb) [(vA [pR]),(vI (pp)),(vI 3),(vI (cc))] (vT []) (X4)),(.callR 29 (X2) (rr) (rb) [(vA [pR]),(vI (cc)),(vI 4),(vI 0)] (vT []) (X3)),(.callR 29 (X1) (rr) (rb) [(vA [pR]),(vI (cc)),(vI 5),(vI (l1+1))] (vT []) (X2)),(.callR 29 (x) (rr) (rb) [(vA [pR]),(vI (cc)),(vI 1),(vI (pp))] (vT []) (X1)),(.callR 28 (x) (rr) (rb) [(vA [pR]),(vI (pp)),(vI 3)] (vI (l1+1)) (x)),(.callR 16 (x) (rr) (rb) [(vA [pR]),(vI (pp)),(vI (cc))] (.bool false) (x)),(.callR 10 (x) (rr) (rb) [(vA [pR]),(vI (cc))] (vI 0) (x)),(.callR 27 (x) (rr) (rb) [(vA [pR]),(vI (cc))] (vI 0) (x)),(.callR 27 (x) (rr) (rb) [(vA [pR]),(vI (pp))] (vI 0) (x))]):=by kernel_rfl
set_option maxHeartbeats 1600000 in
theorem wAddL{x X1 X2 X3 X4 X5:Ar}{rr rb:List Value}{S:List Nat}{pp cc l1:Nat}(hx:x.refuse<9223372036854775808)(hrr:can3Fs ⟨0,1,2⟩ rr=some rr)(hrb:can3Fs ⟨0,1,2⟩ rb=some rb)(a1:spTHas x [trC,vI pp]=some (errV 0,x))(a2:spTHas x [trC,vI cc]=some (errV 0,x))(a3:spTParent x [trC,vI cc]=some (vI 0,x))(a4:(spTUnder S) x [trC,vI pp,vI cc]=some (.bool false,x))(a5:spTGet x [trC,vI pp,vI 3]=some (vI (l1+1),x))(s1:spTSet x [trC,vI cc,vI 1,vI pp]=some (.tuple ⟨[]⟩,X1))(r1:X1.refuse<9223372036854775808)(s2:spTSet X1 [trC,vI cc,vI 5,vI (l1+1)]=some (.tuple ⟨[]⟩,X2))(r2:X2.refuse<9223372036854775808)(s3:spTSet X2 [trC,vI cc,vI 4,vI 0]=some (.tuple ⟨[]⟩,X3))(r3:X3.refuse<9223372036854775808)(s4:spTSet X3 [trC,vI pp,vI 3,vI cc]=some (.tuple ⟨[]⟩,X4))(r4:X4.refuse<9223372036854775808)(s5:spTSet X4 [trC,vI (l1+1),vI 4,vI cc]=some (.tuple ⟨[]⟩,X5)):∃t nx,RS (hT1 S) 9 [trC,vI pp,vI cc] ⟨sm3 x rr rb,3⟩=some (errV 0,⟨t,nx⟩)∧look 0 t=some (.ext X5)∧look 1 t=some (.cells (pA::rb))∧look 2 t=some (.cells (pB::rr)):=by
 refine to_runR (scriptR_run (wAddL_1 (x:=x) (X1:=X1) (X2:=X2) (X3:=X3) (X4:=X4) (X5:=X5) (rr:=rr) (rb:=rb) (S:=S) (pp:=pp) (cc:=cc) (l1:=l1)) ?_) ?_ ?_
 ·repeat' first
   |exact trivial
   |assumption
   |exact ob_bin rfl (by assumption)
   |exact⟨_,_,rfl,by first|assumption|rfl⟩
   |refine And.intro ?_ ?_
   |exact rfl
 ·first|rfl|(simp only[cond_true, *,zT,cond_false]<;>rfl)
 ·first|rfl|(simp only[cond_true, *,cond_false]<;>rfl)
theorem wCutNone_1{x:Ar}{rr rb:List Value}{cc:Nat}:scriptR F1 cleanT (hookL hV8)
 [.run 9,.callR (vI 0) (x),.run 11,.callR (vI 0) (x),.run 16]
 1000 8 [trC,vI cc] x rr rb=some ((vI 8),(x),pA::rb,pB::rr,[(.callR 10 (x) (rr) (rb) [(vA [pR]),(vI (cc))] (vI 0) (x)),(.callR 27 (x) (rr) (rb) [(vA [pR]),(vI (cc))] (vI 0) (x))]):=by kernel_rfl
set_option maxHeartbeats 1600000 in
theorem wCutNone{x:Ar}{rr rb:List Value}{cc:Nat}(hx:x.refuse<9223372036854775808)(hrr:can3Fs ⟨0,1,2⟩ rr=some rr)(hrb:can3Fs ⟨0,1,2⟩ rb=some rb)(a2:spTHas x [trC,vI cc]=some (errV 0,x))(a3:spTParent x [trC,vI cc]=some (vI 0,x)):∃t nx,RS hV8 8 [trC,vI cc] ⟨sm3 x rr rb,3⟩=some (errV 8,⟨t,nx⟩)∧look 0 t=some (.ext x)∧look 1 t=some (.cells (pA::rb))∧look 2 t=some (.cells (pB::rr)):=by
 refine to_runR (scriptR_run (wCutNone_1 (x:=x) (rr:=rr) (rb:=rb) (cc:=cc)) ?_) ?_ ?_
 ·repeat' first
   |exact trivial
   |assumption
   |exact ob_bin rfl (by assumption)
   |exact⟨_,_,rfl,by first|assumption|rfl⟩
   |refine And.intro ?_ ?_
   |exact rfl
 ·first|rfl|(simp only[cond_true, *,zT,cond_false]<;>rfl)
 ·first|rfl|(simp only[cond_true, *,cond_false]<;>rfl)
theorem wCut00_1{x X1 X2 X3 X4 X5:Ar}{rr rb:List Value}{pp cc:Nat}:scriptR F1 cleanT (hookL hV8)
 [.run 9,.callR (vI 0) (x),.run 11,.callR (vI (pp+1)) (x),.run 13,.callR (vI 0) (x),.run 2,.callR (vI 0) (x),.run 12,.callR (vT []) (X1),.run 10,.callR (vT []) (X2),.run 25,.callR (vT []) (X3),.run 22,.callR (vT []) (X4),.run 22,.callR (vT []) (X5),.run 48]
 1000 8 [trC,vI cc] x rr rb=some ((vI 0),(X5),pA::rb,pB::rr,[(.callR 29 (X4) (rr) (rb) [(vA [pR]),(vI (cc)),(vI 4),(vI 0)] (vT []) (X5)),(.callR 29 (X3) (rr) (rb) [(vA [pR]),(vI (cc)),(vI 5),(vI 0)] (vT []) (X4)),(.callR 29 (X2) (rr) (rb) [(vA [pR]),(vI (cc)),(vI 1),(vI 0)] (vT []) (X3)),(.callR 29 (X1) (rr) (rb) [(vA [pR]),(vI (pp+1)),(vI 3),(vI 0)] (vT []) (X2)),(.callR 29 (x) (rr) (rb) [(vA [pR]),(vI (pp+1)),(vI 2),(vI 0)] (vT []) (X1)),(.callR 28 (x) (rr) (rb) [(vA [pR]),(vI (cc)),(vI 4)] (vI 0) (x)),(.callR 28 (x) (rr) (rb) [(vA [pR]),(vI (cc)),(vI 5)] (vI 0) (x)),(.callR 10 (x) (rr) (rb) [(vA [pR]),(vI (cc))] (vI (pp+1)) (x)),(.callR 27 (x) (rr) (rb) [(vA [pR]),(vI (cc))] (vI 0) (x))]):=by kernel_rfl
set_option maxHeartbeats 1600000 in
theorem wCut00{x X1 X2 X3 X4 X5:Ar}{rr rb:List Value}{pp cc:Nat}(hx:x.refuse<9223372036854775808)(hrr:can3Fs ⟨0,1,2⟩ rr=some rr)(hrb:can3Fs ⟨0,1,2⟩ rb=some rb)(a2:spTHas x [trC,vI cc]=some (errV 0,x))(a3:spTParent x [trC,vI cc]=some (vI (pp+1),x))(a5:spTGet x [trC,vI cc,vI 5]=some (vI 0,x))(a6:spTGet x [trC,vI cc,vI 4]=some (vI 0,x))(s1:spTSet x [trC,vI (pp+1),vI 2,vI 0]=some (.tuple ⟨[]⟩,X1))(r1:X1.refuse<9223372036854775808)(s2:spTSet X1 [trC,vI (pp+1),vI 3,vI 0]=some (.tuple ⟨[]⟩,X2))(r2:X2.refuse<9223372036854775808)(s3:spTSet X2 [trC,vI cc,vI 1,vI 0]=some (.tuple ⟨[]⟩,X3))(r3:X3.refuse<9223372036854775808)(s4:spTSet X3 [trC,vI cc,vI 5,vI 0]=some (.tuple ⟨[]⟩,X4))(r4:X4.refuse<9223372036854775808)(s5:spTSet X4 [trC,vI cc,vI 4,vI 0]=some (.tuple ⟨[]⟩,X5)):∃t nx,RS hV8 8 [trC,vI cc] ⟨sm3 x rr rb,3⟩=some (errV 0,⟨t,nx⟩)∧look 0 t=some (.ext X5)∧look 1 t=some (.cells (pA::rb))∧look 2 t=some (.cells (pB::rr)):=by
 refine to_runR (scriptR_run (wCut00_1 (x:=x) (X1:=X1) (X2:=X2) (X3:=X3) (X4:=X4) (X5:=X5) (rr:=rr) (rb:=rb) (pp:=pp) (cc:=cc)) ?_) ?_ ?_
 ·repeat' first
   |exact trivial
   |assumption
   |exact ob_bin rfl (by assumption)
   |exact⟨_,_,rfl,by first|assumption|rfl⟩
   |refine And.intro ?_ ?_
   |exact rfl
 ·first|rfl|(simp only[cond_true, *,zT,cond_false]<;>rfl)
 ·first|rfl|(simp only[cond_true, *,cond_false]<;>rfl)
theorem wCut0N_1{x X1 X2 X3 X4 X5:Ar}{rr rb:List Value}{pp cc q1:Nat}:scriptR F1 cleanT (hookL hV8)
 [.run 9,.callR (vI 0) (x),.run 11,.callR (vI (pp+1)) (x),.run 13,.callR (vI 0) (x),.run 2,.callR (vI (q1+1)) (x),.run 12,.callR (vT []) (X1),.run 10,.callR (vT []) (X2),.run 25,.callR (vT []) (X3),.run 22,.callR (vT []) (X4),.run 22,.callR (vT []) (X5),.run 48]
 1000 8 [trC,vI cc] x rr rb=some ((vI 0),(X5),pA::rb,pB::rr,[(.callR 29 (X4) (rr) (rb) [(vA [pR]),(vI (cc)),(vI 4),(vI 0)] (vT []) (X5)),(.callR 29 (X3) (rr) (rb) [(vA [pR]),(vI (cc)),(vI 5),(vI 0)] (vT []) (X4)),(.callR 29 (X2) (rr) (rb) [(vA [pR]),(vI (cc)),(vI 1),(vI 0)] (vT []) (X3)),(.callR 29 (X1) (rr) (rb) [(vA [pR]),(vI (q1+1)),(vI 5),(vI 0)] (vT []) (X2)),(.callR 29 (x) (rr) (rb) [(vA [pR]),(vI (pp+1)),(vI 2),(vI (q1+1))] (vT []) (X1)),(.callR 28 (x) (rr) (rb) [(vA [pR]),(vI (cc)),(vI 4)] (vI (q1+1)) (x)),(.callR 28 (x) (rr) (rb) [(vA [pR]),(vI (cc)),(vI 5)] (vI 0) (x)),(.callR 10 (x) (rr) (rb) [(vA [pR]),(vI (cc))] (vI (pp+1)) (x)),(.callR 27 (x) (rr) (rb) [(vA [pR]),(vI (cc))] (vI 0) (x))]):=by kernel_rfl
set_option maxHeartbeats 1600000 in
theorem wCut0N{x X1 X2 X3 X4 X5:Ar}{rr rb:List Value}{pp cc q1:Nat}(hx:x.refuse<9223372036854775808)(hrr:can3Fs ⟨0,1,2⟩ rr=some rr)(hrb:can3Fs ⟨0,1,2⟩ rb=some rb)(a2:spTHas x [trC,vI cc]=some (errV 0,x))(a3:spTParent x [trC,vI cc]=some (vI (pp+1),x))(a5:spTGet x [trC,vI cc,vI 5]=some (vI 0,x))(a6:spTGet x [trC,vI cc,vI 4]=some (vI (q1+1),x))(s1:spTSet x [trC,vI (pp+1),vI 2,vI (q1+1)]=some (.tuple ⟨[]⟩,X1))(r1:X1.refuse<9223372036854775808)(s2:spTSet X1 [trC,vI (q1+1),vI 5,vI 0]=some (.tuple ⟨[]⟩,X2))(r2:X2.refuse<9223372036854775808)(s3:spTSet X2 [trC,vI cc,vI 1,vI 0]=some (.tuple ⟨[]⟩,X3))(r3:X3.refuse<9223372036854775808)(s4:spTSet X3 [trC,vI cc,vI 5,vI 0]=some (.tuple ⟨[]⟩,X4))(r4:X4.refuse<9223372036854775808)(s5:spTSet X4 [trC,vI cc,vI 4,vI 0]=some (.tuple ⟨[]⟩,X5)):∃t nx,RS hV8 8 [trC,vI cc] ⟨sm3 x rr rb,3⟩=some (errV 0,⟨t,nx⟩)∧look 0 t=some (.ext X5)∧look 1 t=some (.cells (pA::rb))∧look 2 t=some (.cells (pB::rr)):=by
 refine to_runR (scriptR_run (wCut0N_1 (x:=x) (X1:=X1) (X2:=X2) (X3:=X3) (X4:=X4) (X5:=X5) (rr:=rr) (rb:=rb) (pp:=pp) (cc:=cc) (q1:=q1)) ?_) ?_ ?_
 ·repeat' first
   |exact trivial
   |assumption
   |exact ob_bin rfl (by assumption)
   |exact⟨_,_,rfl,by first|assumption|rfl⟩
   |refine And.intro ?_ ?_
   |exact rfl
 ·first|rfl|(simp only[cond_true, *,zT,cond_false]<;>rfl)
 ·first|rfl|(simp only[cond_true, *,cond_false]<;>rfl)
theorem wCutV0_1{x X1 X2 X3 X4 X5:Ar}{rr rb:List Value}{pp cc l1:Nat}:scriptR F1 cleanT (hookL hV8)
 [.run 9,.callR (vI 0) (x),.run 11,.callR (vI (pp+1)) (x),.run 13,.callR (vI (l1+1)) (x),.run 2,.callR (vI 0) (x),.run 12,.callR (vT []) (X1),.run 10,.callR (vT []) (X2),.run 25,.callR (vT []) (X3),.run 22,.callR (vT []) (X4),.run 22,.callR (vT []) (X5),.run 48]
 1000 8 [trC,vI cc] x rr rb=some ((vI 0),(X5),pA::rb,pB::rr,[(.callR 29 (X4) (rr) (rb) [(vA [pR]),(vI (cc)),(vI 4),(vI 0)] (vT []) (X5)),(.callR 29 (X3) (rr) (rb) [(vA [pR]),(vI (cc)),(vI 5),(vI 0)] (vT []) (X4)),(.callR 29 (X2) (rr) (rb) [(vA [pR]),(vI (cc)),(vI 1),(vI 0)] (vT []) (X3)),(.callR 29 (X1) (rr) (rb) [(vA [pR]),(vI (pp+1)),(vI 3),(vI (l1+1))] (vT []) (X2)),(.callR 29 (x) (rr) (rb) [(vA [pR]),(vI (l1+1)),(vI 4),(vI 0)] (vT []) (X1)),(.callR 28 (x) (rr) (rb) [(vA [pR]),(vI (cc)),(vI 4)] (vI 0) (x)),(.callR 28 (x) (rr) (rb) [(vA [pR]),(vI (cc)),(vI 5)] (vI (l1+1)) (x)),(.callR 10 (x) (rr) (rb) [(vA [pR]),(vI (cc))] (vI (pp+1)) (x)),(.callR 27 (x) (rr) (rb) [(vA [pR]),(vI (cc))] (vI 0) (x))]):=by kernel_rfl
set_option maxHeartbeats 1600000 in
theorem wCutV0{x X1 X2 X3 X4 X5:Ar}{rr rb:List Value}{pp cc l1:Nat}(hx:x.refuse<9223372036854775808)(hrr:can3Fs ⟨0,1,2⟩ rr=some rr)(hrb:can3Fs ⟨0,1,2⟩ rb=some rb)(a2:spTHas x [trC,vI cc]=some (errV 0,x))(a3:spTParent x [trC,vI cc]=some (vI (pp+1),x))(a5:spTGet x [trC,vI cc,vI 5]=some (vI (l1+1),x))(a6:spTGet x [trC,vI cc,vI 4]=some (vI 0,x))(s1:spTSet x [trC,vI (l1+1),vI 4,vI 0]=some (.tuple ⟨[]⟩,X1))(r1:X1.refuse<9223372036854775808)(s2:spTSet X1 [trC,vI (pp+1),vI 3,vI (l1+1)]=some (.tuple ⟨[]⟩,X2))(r2:X2.refuse<9223372036854775808)(s3:spTSet X2 [trC,vI cc,vI 1,vI 0]=some (.tuple ⟨[]⟩,X3))(r3:X3.refuse<9223372036854775808)(s4:spTSet X3 [trC,vI cc,vI 5,vI 0]=some (.tuple ⟨[]⟩,X4))(r4:X4.refuse<9223372036854775808)(s5:spTSet X4 [trC,vI cc,vI 4,vI 0]=some (.tuple ⟨[]⟩,X5)):∃t nx,RS hV8 8 [trC,vI cc] ⟨sm3 x rr rb,3⟩=some (errV 0,⟨t,nx⟩)∧look 0 t=some (.ext X5)∧look 1 t=some (.cells (pA::rb))∧look 2 t=some (.cells (pB::rr)):=by
 refine to_runR (scriptR_run (wCutV0_1 (x:=x) (X1:=X1) (X2:=X2) (X3:=X3) (X4:=X4) (X5:=X5) (rr:=rr) (rb:=rb) (pp:=pp) (cc:=cc) (l1:=l1)) ?_) ?_ ?_
 ·repeat' first
   |exact trivial
   |assumption
   |exact ob_bin rfl (by assumption)
   |exact⟨_,_,rfl,by first|assumption|rfl⟩
   |refine And.intro ?_ ?_
   |exact rfl
 ·first|rfl|(simp only[cond_true, *,zT,cond_false]<;>rfl)
 ·first|rfl|(simp only[cond_true, *,cond_false]<;>rfl)
theorem wCutVN_1{x X1 X2 X3 X4 X5:Ar}{rr rb:List Value}{pp cc l1 q1:Nat}:scriptR F1 cleanT (hookL hV8)
 [.run 9,.callR (vI 0) (x),.run 11,.callR (vI (pp+1)) (x),.run 13,.callR (vI (l1+1)) (x),.run 2,.callR (vI (q1+1)) (x),.run 12,.callR (vT []) (X1),.run 10,.callR (vT []) (X2),.run 25,.callR (vT []) (X3),.run 22,.callR (vT []) (X4),.run 22,.callR (vT []) (X5),.run 48]
 1000 8 [trC,vI cc] x rr rb=some ((vI 0),(X5),pA::rb,pB::rr,[(.callR 29 (X4) (rr) (rb) [(vA [pR]),(vI (cc)),(vI 4),(vI 0)] (vT []) (X5)),(.callR 29 (X3) (rr) (rb) [(vA [pR]),(vI (cc)),(vI 5),(vI 0)] (vT []) (X4)),(.callR 29 (X2) (rr) (rb) [(vA [pR]),(vI (cc)),(vI 1),(vI 0)] (vT []) (X3)),(.callR 29 (X1) (rr) (rb) [(vA [pR]),(vI (q1+1)),(vI 5),(vI (l1+1))] (vT []) (X2)),(.callR 29 (x) (rr) (rb) [(vA [pR]),(vI (l1+1)),(vI 4),(vI (q1+1))] (vT []) (X1)),(.callR 28 (x) (rr) (rb) [(vA [pR]),(vI (cc)),(vI 4)] (vI (q1+1)) (x)),(.callR 28 (x) (rr) (rb) [(vA [pR]),(vI (cc)),(vI 5)] (vI (l1+1)) (x)),(.callR 10 (x) (rr) (rb) [(vA [pR]),(vI (cc))] (vI (pp+1)) (x)),(.callR 27 (x) (rr) (rb) [(vA [pR]),(vI (cc))] (vI 0) (x))]):=by kernel_rfl
set_option maxHeartbeats 1600000 in
theorem wCutVN{x X1 X2 X3 X4 X5:Ar}{rr rb:List Value}{pp cc l1 q1:Nat}(hx:x.refuse<9223372036854775808)(hrr:can3Fs ⟨0,1,2⟩ rr=some rr)(hrb:can3Fs ⟨0,1,2⟩ rb=some rb)(a2:spTHas x [trC,vI cc]=some (errV 0,x))(a3:spTParent x [trC,vI cc]=some (vI (pp+1),x))(a5:spTGet x [trC,vI cc,vI 5]=some (vI (l1+1),x))(a6:spTGet x [trC,vI cc,vI 4]=some (vI (q1+1),x))(s1:spTSet x [trC,vI (l1+1),vI 4,vI (q1+1)]=some (.tuple ⟨[]⟩,X1))(r1:X1.refuse<9223372036854775808)(s2:spTSet X1 [trC,vI (q1+1),vI 5,vI (l1+1)]=some (.tuple ⟨[]⟩,X2))(r2:X2.refuse<9223372036854775808)(s3:spTSet X2 [trC,vI cc,vI 1,vI 0]=some (.tuple ⟨[]⟩,X3))(r3:X3.refuse<9223372036854775808)(s4:spTSet X3 [trC,vI cc,vI 5,vI 0]=some (.tuple ⟨[]⟩,X4))(r4:X4.refuse<9223372036854775808)(s5:spTSet X4 [trC,vI cc,vI 4,vI 0]=some (.tuple ⟨[]⟩,X5)):∃t nx,RS hV8 8 [trC,vI cc] ⟨sm3 x rr rb,3⟩=some (errV 0,⟨t,nx⟩)∧look 0 t=some (.ext X5)∧look 1 t=some (.cells (pA::rb))∧look 2 t=some (.cells (pB::rr)):=by
 refine to_runR (scriptR_run (wCutVN_1 (x:=x) (X1:=X1) (X2:=X2) (X3:=X3) (X4:=X4) (X5:=X5) (rr:=rr) (rb:=rb) (pp:=pp) (cc:=cc) (l1:=l1) (q1:=q1)) ?_) ?_ ?_
 ·repeat' first
   |exact trivial
   |assumption
   |exact ob_bin rfl (by assumption)
   |exact⟨_,_,rfl,by first|assumption|rfl⟩
   |refine And.intro ?_ ?_
   |exact rfl
 ·first|rfl|(simp only[cond_true, *,zT,cond_false]<;>rfl)
 ·first|rfl|(simp only[cond_true, *,cond_false]<;>rfl)
open Classical in
def spTAdd(S:List Nat):Spec
 |x,[.agg ⟨[.pointer (some ⟨2,0,none⟩)]⟩,.int .i64 (.ofNat p),.int .i64 (.ofNat c)]=>if TW x S∧p∈S∧c∈S then(if wd x (c+40)≠0 then some (errV 9,x) else if Un (wds x S) c p then some (errV 12,x) else some (errV 0,addX x p c)) else none
 |_,_=>none
open Classical in
def spTCut(S:List Nat):Spec
 |x,[.agg ⟨[.pointer (some ⟨2,0,none⟩)]⟩,.int .i64 (.ofNat c)]=>if TW x S∧c∈S then(if wd x (c+40)=0 then some (errV 8,x) else some (errV 0,cutX x c)) else none
 |_,_=>none
theorem set_at{x:Ar}{a f v:Nat}(h:NodeAt x a)(hf:fldB f=true)(hv:v<9223372036854775808):spTSet x [trC,vI a,vI f,vI v]=some (.tuple ⟨[]⟩,stw x (a+32+8*f) v):=by
 have hb:Nat.blt v 9223372036854775808=true:=by rw[blt_iff];exact decide_eq_true hv
 simp only[spTSet,hf,hb,Bool.and_self,cond_true,h.ok]
theorem InS.lt63{S:List Nat}(hs:∀a,a∈S→a<4611686018427387904){v:Nat}(h:InS S v):v<9223372036854775808:=Nat.lt_trans (h.lt hs) (by decide)
open Classical in
theorem rTAdd{x x':Ar}{S:List Nat}{rr rb vs:List Value}{v:Value}(hrr:can3Fs ⟨0,1,2⟩ rr=some rr)(hrb:can3Fs ⟨0,1,2⟩ rb=some rb)(hs:spTAdd S x vs=some (v,x')):∃t n,RS (hT1 S) 9 vs ⟨sm3 x rr rb,3⟩=some (v,⟨t,n⟩)∧look 0 t=some (.ext x')∧look 1 t=some (.cells (pA::rb))∧look 2 t=some (.cells (pB::rr)):=by
 unfold spTAdd at hs
 split at hs
 ·rename_i p c
  split at hs
  ·rename_i hc
   obtain⟨h,hp,hcS⟩:=hc
   obtain⟨d,I⟩:=h.inv
   have hpw:(wds x S).par c=wd x (c+40):=wdS_in hcS
   have hlw:(wds x S).lst p=wd x (p+56):=wdS_in hp
   have hl:=inv_lst_in I hp
   rw[hlw] at hl
   have hpar:=h.par hcS
   rw[hpw] at hpar
   split at hs
   ·rename_i h0
    injection hs with hs;injection hs with h1 h2;subst h1;subst h2
    obtain⟨q,hq⟩:=Nat.exists_eq_succ_of_ne_zero h0
    rw[hq] at hpar
    exact wAddThere h.ref hrr hrb (h.has hp) (h.has hcS) hpar
   ·rename_i h0
    have h0:wd x (c+40)=0:=by
     by_cases e:wd x (c+40)=0
     ·exact e
     ·exact absurd e h0
    rw[h0] at hpar
    have hcu:TW x S∧p∈S∧c∈S:=⟨h,hp,hcS⟩
    split at hs
    ·rename_i hu
     injection hs with hs;injection hs with h1 h2;subst h1;subst h2
     exact wAddCycle h.ref hrr hrb (h.has hp) (h.has hcS) hpar (by simp only[spTUnder,if_pos hcu,decide_eq_true hu])
    ·rename_i hu
     injection hs with hs;injection hs with h1 h2;subst h1;subst h2
     have hun:spTUnder S x [trC,vI p,vI c]=some (.bool false,x):=by simp only[spTUnder,if_pos hcu,decide_eq_false hu]
     have n0:=h.nds
     have n1:=n0.stw (v:=p) hcS (o:=40) (by decide) (by decide)
     have n2:=n1.stw (v:=wd x (p+56)) hcS (o:=72) (by decide) (by decide)
     have n3:=n2.stw (v:=0) hcS (o:=64) (by decide) (by decide)
     have n4:=n3.stw (v:=c) hp (o:=56) (by decide) (by decide)
     have p63:p<9223372036854775808:=InS.lt63 h.small (.inr hp)
     have c63:c<9223372036854775808:=InS.lt63 h.small (.inr hcS)
     have l63:=hl.lt63 h.small
     have hget:=h.get hp (f:=3) rfl hl
     unfold addX
     dsimp only
     by_cases e:wd x (p+56)=0
     ·rw[if_pos e]
      rw[show p+32+8*3=p+56 from rfl,e] at hget
      rw[e] at n2 n3 n4 ⊢
      exact wAdd0 h.ref hrr hrb (h.has hp) (h.has hcS) hpar hun hget (set_at (n0.node c hcS) rfl p63) n1.ref (set_at (n1.node c hcS) rfl (by decide)) n2.ref (set_at (n2.node c hcS) rfl (by decide)) n3.ref (set_at (n3.node p hp) rfl c63) n4.ref (set_at (n4.node p hp) rfl c63)
     ·rw[if_neg e]
      obtain⟨q,hq⟩:=Nat.exists_eq_succ_of_ne_zero e
      have hls:wd x (p+56)∈S:=hl.resolve_left e
      rw[show p+32+8*3=p+56 from rfl,hq] at hget
      rw[hq] at n2 n3 n4 hls l63 ⊢
      exact wAddL h.ref hrr hrb (h.has hp) (h.has hcS) hpar hun hget (set_at (n0.node c hcS) rfl p63) n1.ref (set_at (n1.node c hcS) rfl l63) n2.ref (set_at (n2.node c hcS) rfl (by decide)) n3.ref (set_at (n3.node p hp) rfl c63) n4.ref (set_at (n4.node _ hls) rfl c63)
  ·cases hs
 ·cases hs
theorem rTCut{x x':Ar}{S:List Nat}{rr rb vs:List Value}{v:Value}(hrr:can3Fs ⟨0,1,2⟩ rr=some rr)(hrb:can3Fs ⟨0,1,2⟩ rb=some rb)(hs:spTCut S x vs=some (v,x')):∃t n,RS hV8 8 vs ⟨sm3 x rr rb,3⟩=some (v,⟨t,n⟩)∧look 0 t=some (.ext x')∧look 1 t=some (.cells (pA::rb))∧look 2 t=some (.cells (pB::rr)):=by
 unfold spTCut at hs
 split at hs
 ·rename_i c
  split at hs
  ·rename_i hc
   obtain⟨h,hcS⟩:=hc
   obtain⟨d,I⟩:=h.inv
   have hpw:(wds x S).par c=wd x (c+40):=wdS_in hcS
   have hpar:=h.par hcS
   rw[hpw] at hpar
   split at hs
   ·rename_i h0
    injection hs with hs;injection hs with h1 h2;subst h1;subst h2
    rw[h0] at hpar
    exact wCutNone h.ref hrr hrb (h.has hcS) hpar
   ·rename_i h0
    injection hs with hs;injection hs with h1 h2;subst h1;subst h2
    have h0':(wds x S).par c≠0:=by rw[hpw];exact h0
    obtain⟨i1,i2⟩:=inv_nxt_in I hcS h0'
    rw[show(wds x S).nxt c=wd x (c+64) from wdS_in hcS] at i1
    rw[show(wds x S).prv c=wd x (c+72) from wdS_in hcS] at i2
    have hpS:=(I.par c hcS h0').1
    rw[hpw] at hpS
    have gv:=h.get hcS (f:=5) rfl i2
    have gn:=h.get hcS (f:=4) rfl i1
    rw[show c+32+8*5=c+72 from rfl] at gv
    rw[show c+32+8*4=c+64 from rfl] at gn
    have v63:=i2.lt63 h.small
    have n63:=i1.lt63 h.small
    have n0:=h.nds
    unfold cutX
    dsimp only
    obtain⟨qp,hqp⟩:=Nat.exists_eq_succ_of_ne_zero h0
    rw[hqp] at hpar hpS ⊢
    by_cases ev:wd x (c+72)=0
    ·by_cases en:wd x (c+64)=0
     ·rw[ev] at gv v63 ⊢
      rw[en] at gn n63 ⊢
      have n1:=n0.stw (v:=0) hpS (o:=48) (by decide) (by decide)
      have n2:=n1.stw (v:=0) hpS (o:=56) (by decide) (by decide)
      have n3:=n2.stw (v:=0) hcS (o:=40) (by decide) (by decide)
      have n4:=n3.stw (v:=0) hcS (o:=72) (by decide) (by decide)
      simp only[if_true]
      exact wCut00 h.ref hrr hrb (h.has hcS) hpar gv gn (set_at (n0.node _ hpS) rfl n63) n1.ref (set_at (n1.node _ hpS) rfl v63) n2.ref (set_at (n2.node c hcS) rfl (by decide)) n3.ref (set_at (n3.node c hcS) rfl (by decide)) n4.ref (set_at (n4.node c hcS) rfl (by decide))
     ·obtain⟨qn,hqn⟩:=Nat.exists_eq_succ_of_ne_zero en
      have hnS:wd x (c+64)∈S:=i1.resolve_left en
      rw[ev] at gv v63 ⊢
      rw[hqn] at gn n63 ⊢
      rw[hqn] at hnS
      have n1:=n0.stw (v:=(qn+1)) hpS (o:=48) (by decide) (by decide)
      have n2:=n1.stw (v:=0) hnS (o:=72) (by decide) (by decide)
      have n3:=n2.stw (v:=0) hcS (o:=40) (by decide) (by decide)
      have n4:=n3.stw (v:=0) hcS (o:=72) (by decide) (by decide)
      simp only[if_true,if_pos,if_neg (Nat.succ_ne_zero _)]
      exact wCut0N h.ref hrr hrb (h.has hcS) hpar gv gn (set_at (n0.node _ hpS) rfl n63) n1.ref (set_at (n1.node _ hnS) rfl v63) n2.ref (set_at (n2.node c hcS) rfl (by decide)) n3.ref (set_at (n3.node c hcS) rfl (by decide)) n4.ref (set_at (n4.node c hcS) rfl (by decide))
    ·obtain⟨qv,hqv⟩:=Nat.exists_eq_succ_of_ne_zero ev
     have hvS:wd x (c+72)∈S:=i2.resolve_left ev
     by_cases en:wd x (c+64)=0
     ·rw[hqv] at gv v63 ⊢
      rw[hqv] at hvS
      rw[en] at gn n63 ⊢
      have n1:=n0.stw (v:=0) hvS (o:=64) (by decide) (by decide)
      have n2:=n1.stw (v:=(qv+1)) hpS (o:=56) (by decide) (by decide)
      have n3:=n2.stw (v:=0) hcS (o:=40) (by decide) (by decide)
      have n4:=n3.stw (v:=0) hcS (o:=72) (by decide) (by decide)
      simp only[if_true,if_pos,if_neg (Nat.succ_ne_zero _)]
      exact wCutV0 h.ref hrr hrb (h.has hcS) hpar gv gn (set_at (n0.node _ hvS) rfl n63) n1.ref (set_at (n1.node _ hpS) rfl v63) n2.ref (set_at (n2.node c hcS) rfl (by decide)) n3.ref (set_at (n3.node c hcS) rfl (by decide)) n4.ref (set_at (n4.node c hcS) rfl (by decide))
     ·obtain⟨qn,hqn⟩:=Nat.exists_eq_succ_of_ne_zero en
      have hnS:wd x (c+64)∈S:=i1.resolve_left en
      rw[hqv] at gv v63 ⊢
      rw[hqv] at hvS
      rw[hqn] at gn n63 ⊢
      rw[hqn] at hnS
      have n1:=n0.stw (v:=(qn+1)) hvS (o:=64) (by decide) (by decide)
      have n2:=n1.stw (v:=(qv+1)) hnS (o:=72) (by decide) (by decide)
      have n3:=n2.stw (v:=0) hcS (o:=40) (by decide) (by decide)
      have n4:=n3.stw (v:=0) hcS (o:=72) (by decide) (by decide)
      simp only[if_true,if_pos,if_neg (Nat.succ_ne_zero _)]
      exact wCutVN h.ref hrr hrb (h.has hcS) hpar gv gn (set_at (n0.node _ hvS) rfl n63) n1.ref (set_at (n1.node _ hnS) rfl v63) n2.ref (set_at (n2.node c hcS) rfl (by decide)) n3.ref (set_at (n3.node c hcS) rfl (by decide)) n4.ref (set_at (n4.node c hcS) rfl (by decide))
  ·cases hs
 ·cases hs
def hT4(S:List Nat):List (HookF Ar):=(9,liftR (spTAdd S) (fun _=>none))::(8,liftR (spTCut S) (fun _=>none))::hT3 S
theorem hT4_ok{S:List Nat}(hS:S.length<900):∀y∈hT4 S,HookOk (Ext1 Cls) PZ W0 y.1 y.2 :=
 more_ok (E:=(Ext1 Cls)) (more_ok (E:=(Ext1 Cls)) (hT3_ok hS) (liftR_ok (RS_ok hV8_ok) (fun _ _ _ _ _ _ _ h1 h2 hs=>rTCut h1 h2 hs) fun _ _ _ hs=>by cases hs)) (liftR_ok (RS_ok (hT1_ok hS)) (fun _ _ _ _ _ _ _ h1 h2 hs=>rTAdd h1 h2 hs) fun _ _ _ hs=>by cases hs)
end Go.AI
/- A row turned round;a subtree told the other way round: the walks. -/
namespace Go.AI
open Go.Proofs
open Go.Fo (Wd Un Pre)
variable {W0:World}{Cls:Nat→Int→Prop}{x:Ar}{S:List Nat}{rr rb:List Value}{tbl:List (Nat×AObj Ar)}{nx:Nat}
theorem splice_one:∀{cs:List Value} {q:Nat} {v:Value},q<cs.length→splice cs q [v]=cs.set q v
 |[],q,v,h=>by simp at h
 |c::cs,0,v,_=>by simp[splice,over]
 |c::cs,q+1,v,h=>by
  show c::splice cs q [v]=c::cs.set q v
  rw[splice_one (by simpa using h)]
theorem pv_idxZ{env:List (Nat×Value)}{e:Nat}{x i:Opd}{b o len c n:Nat}{sp:Option Nat}{j:IntKind}{z:Int}(hx:evo env x=some (.slice (some ⟨b,o,sp⟩) len c))(hi:evo env i=some (.int j z))(hz:z=Int.ofNat n)(hn:n<len):peval env (.idxL e x i)=some (.pointer (some ⟨b,o+n*e,none⟩)):=by
 subst hz
 have h:Nat.blt n len=true:=by rw[blt_iff];exact decide_eq_true hn
 simp only[peval,hx,hi,natOf,h,cond_true]
theorem upd_upd{α:Type}{s:Nat}{y z:α}:∀{l:List (Nat×α)},upd s z (upd s y l)=upd s z l
 |[]=>rfl
 |a::r=>by
  unfold upd
  cases hb:Nat.beq s a.1 with
  |true=>simp only[cond_true,upd,hb]
  |false=>simp only[cond_false,upd,hb,upd_upd]
theorem ceqs_int(k:IntKind)(z:Int):ceqs [.int k z] [.int k z]=true:=by
 show(ceq (.int k z) (.int k z)&&true)=true
 simp[ceq,ieqF_refl]
def Half(L A:List Nat)(i:Nat):Prop:=A.length=L.length∧2*i≤L.length∧∀q,q<L.length→A[q]? = if q<i∨L.length-1-i<q then L[L.length-1-q]? else L[q]?
theorem half_zero(L:List Nat):Half L L 0:=by
 refine⟨rfl,by omega,fun q hq=>?_⟩
 by_cases h:q<0∨L.length-1-0<q
 ·exfalso;omega
 ·rw[if_neg h]
theorem half_step{L A:List Nat}{i a b:Nat}(h:Half L A i)(hi:i<L.length-1-i)(ha:A[i]? = some a)(hb:A[L.length-1-i]? = some b):Half L ((A.set i b).set (L.length-1-i) a) (i+1):=by
 obtain⟨h1,h2,h3⟩:=h
 refine⟨by simp[h1],by omega,fun q hq=>?_⟩
 have ea:=h3 i (by omega)
 rw[ha,if_neg (by omega)] at ea
 have eb:=h3 (L.length-1-i) (by omega)
 rw[hb,if_neg (by omega)] at eb
 rw[List.getElem?_set,List.length_set]
 by_cases e1:L.length-1-i=q
 ·rw[if_pos e1,if_pos (by omega),if_pos (by omega),← e1,ea]
  congr 1;omega
 ·rw[if_neg e1,List.getElem?_set]
  by_cases e2:i=q
  ·rw[if_pos e2,if_pos (by omega),if_pos (by omega),← e2,eb]
  ·rw[if_neg e2,h3 q hq]
   by_cases e3:q<i∨L.length-1-i<q
   ·rw[if_pos e3,if_pos (by omega)]
   ·rw[if_neg e3,if_neg (by omega)]
theorem half_done{L A:List Nat}{i:Nat}(h:Half L A i)(hi:¬i<L.length-1-i):A=L.reverse:=by
 obtain⟨h1,h2,h3⟩:=h
 apply List.ext_getElem?
 intro q
 by_cases hq:q<L.length
 ·rw[h3 q hq,List.getElem?_reverse hq]
  by_cases e:q<i∨L.length-1-i<q
  ·rw[if_pos e]
  ·rw[if_neg e];congr 1;omega
 ·rw[List.getElem?_eq_none (by omega),List.getElem?_eq_none (by simp;omega)]
theorem row_get{A:List Nat}{q a:Nat}(h:A[q]? = some a):takeN (A.map nI) (0+q*1) 1=some [nI a]:=by
 rw[Nat.zero_add,Nat.mul_one]
 exact take_one (by rw[List.getElem?_map,h];rfl)
theorem row_setI{A:List Nat}{q a:Nat}(h:q<A.length):splice (A.map nI) (0+q*1) [nI a]=(A.set q a).map nI:=by
 rw[Nat.zero_add,Nat.mul_one,splice_one (by simpa using h),List.map_set]
theorem rev_run{hk:List (HookF Ar)}(hh:hookL hk 31=none){T k n:Nat}{L:List Nat}(hL:L.length<1000)(hn:1000≤n)(hlk:look k tbl=some (.grown 1 T (L.map nI))) :
  ∃v h',RF1 hk (n+1) 31 [.slice (some ⟨k,0,none⟩) L.length L.length] ⟨tbl,nx⟩=some (v,h')∧(v = .tuple ⟨[]⟩∧h'.tbl=upd k (.grown 1 T (L.reverse.map nI)) tbl∧nx≤h'.next):=by
 refine run_fn hh fReverse (zL rfl) ?_
 dsimp only[iReverse,argsE]
 refine WC.seq (WC.ops (WO.mv rfl (WO.len rfl (WO.sub rfl rfl (by simp only[zO];omega) (by simp only[zO];omega) (WO.mv rfl (WO.mv rfl (WO.nil (zN (WC.block ?_)))))))))
 refine WC.loop (fun j e tbl' nx'=>∃i A,i+j=999∧e 0=some (.slice (some ⟨k,0,none⟩) L.length L.length)∧e 2=some (.int .i64 (Int.ofNat i))∧e 3=some (.int .i64 (Int.ofNat L.length-1-Int.ofNat i))∧Half L A i∧tbl'=upd k (.grown 1 T (A.map nI)) tbl∧nx≤nx') (k:=999) (by omega)
  ⟨0,L,rfl,rfl,rfl,by show some (Value.int .i64 _)=_;congr 2;simp,half_zero L,(upd_self hlk).symm,Nat.le_refl _⟩ ?_
 rintro j e tbl' nx' ⟨i,A,hj,e0,e2,e3,hA,rfl,hnx⟩
 dsimp only at e0 e2 e3
 have hl':look k (upd k (AObj.grown 1 T (A.map nI)) tbl)=some (.grown 1 T (A.map nI)):=zS hlk
 refine WC.seq (WC.seq (WC.ops (WO.mv e2 (WO.mv e3 (WO.lssS rfl rfl (fun hz=>?_) (fun hz=>?_))))))
 ·have hz':i<L.length-1-i:=by simp only[zO] at hz;omega
  obtain⟨h1,h2,h3⟩:=hA
  have hji:(Int.ofNat L.length-1-Int.ofNat i:Int)=Int.ofNat (L.length-1-i):=by simp only[zO];omega
  obtain⟨a,ha⟩:∃a,A[i]? = some a:=⟨A[i]'(by omega),List.getElem?_eq_getElem _⟩
  obtain⟨b,hb⟩:∃b,A[L.length-1-i]? = some b:=⟨A[L.length-1-i]'(by omega),List.getElem?_eq_getElem _⟩
  have lb:∀n,(⟨[],upd k (AObj.grown 1 T (A.map nI)) tbl,n⟩:Mem Ar).load ⟨k,0+(L.length-1-i)*1,none⟩ 1=some [nI b]:=fun n=>mem_load hl' rfl (row_get hb)
  have la:∀n,(⟨[],upd k (AObj.grown 1 T (A.map nI)) tbl,n⟩:Mem Ar).load ⟨k,0+i*1,none⟩ 1=some [nI a]:=fun n=>mem_load hl' rfl (row_get ha)
  have s1:∀n,(⟨[],upd k (AObj.grown 1 T (A.map nI)) tbl,n⟩:Mem Ar).store ⟨k,0+i*1,none⟩ [nI b]=some ⟨[],upd k (.grown 1 T ((A.set i b).map nI)) tbl,n⟩:=fun n=>by
   have:=mem_store (nx:=n) (vs:=[nI b]) (o:=0+i*1) (ob':=.grown 1 T (splice (A.map nI) (0+i*1) [nI b])) hl' rfl (by simp only[List.length_map,List.length_singleton];omega) rfl
   rw[row_setI (by omega),upd_upd] at this
   exact this
  have hl2:look k (upd k (AObj.grown 1 T ((A.set i b).map nI)) tbl)=some (.grown 1 T ((A.set i b).map nI)):=zS hlk
  have s2:∀n,(⟨[],upd k (AObj.grown 1 T ((A.set i b).map nI)) tbl,n⟩:Mem Ar).store ⟨k,0+(L.length-1-i)*1,none⟩ [nI a]=some ⟨[],upd k (.grown 1 T (((A.set i b).set (L.length-1-i) a).map nI)) tbl,n⟩:=fun n=>by
   have:=mem_store (nx:=n) (vs:=[nI a]) (o:=0+(L.length-1-i)*1) (ob':=.grown 1 T (splice ((A.set i b).map nI) (0+(L.length-1-i)*1) [nI a])) hl2 rfl (by simp only[List.length_map,List.length_singleton,List.length_set];omega) rfl
   rw[row_setI (by rw[List.length_set];omega),upd_upd] at this
   exact this
  refine WO.nil (zN (WC.cond_true rfl (WC.skip (zN (WC.seq (WC.block (WC.drawnW ?_)))))))
  refine WD.pure (ev_out e0 rfl rfl) (WD.pure (ev_out e2 rfl rfl) (WD.pure (ev_out e0 rfl rfl) (WD.pure (ev_out e3 rfl rfl) (WD.pure (ev_out e0 rfl rfl) (WD.pure (ev_out e3 rfl rfl) (WD.pure (pv_idxZ rfl rfl hji (by omega)) (WD.load rfl (lb _) rfl ?_)))))))
  refine WD.pure (ev_out e0 rfl rfl) (WD.pure (ev_out e2 rfl rfl) (WD.pure (pv_idxZ rfl rfl rfl (by omega)) (WD.load rfl (la _) rfl ?_)))
  refine WD.pure (pv_idxZ rfl rfl rfl (by omega)) (WD.chn rfl rfl rfl (estep_store rfl rfl rfl rfl (s1 _)) ?_)
  refine WD.pure (pv_idxZ rfl rfl hji (by omega)) (WD.chn rfl rfl rfl (estep_store rfl rfl rfl rfl (s2 _)) (WD.nil ⟨?_,_,_,rfl,?_⟩))
  ·simp only[heldAll,loadsIn,la,lb,ceqs_int]
   rfl
  ·refine zB (zN (WC.ops ?_))
   refine WO.mv e2 (WO.add rfl rfl (by simp only[zO];omega) (by simp only[zO];omega) (WO.mv e3 (WO.sub rfl rfl (by simp only[zO];omega) (by simp only[zO];omega) (WO.mv rfl (WO.mv rfl (WO.nil ?_))))))
   exact⟨j-1,by omega,rfl,i+1,_,by omega,e0,rfl,by show some (Value.int .i64 _)=_;congr 2;simp only[zO];omega,half_step ⟨h1,h2,h3⟩ hz' ha hb,rfl,Nat.le_trans hnx (Nat.le_add_right _ _)⟩
 ·have hz':¬i<L.length-1-i:=by simp only[zO] at hz;omega
  refine WO.nil (zN (WC.cond_false rfl (WC.exit (thenC_exit (blockC_exit ?_)))))
  exact⟨_,_,rfl,rfl,rfl,by rw[half_done hA hz'];rfl,hnx⟩
end Go.AI
/- A subtree told the other way round: the walk. -/
namespace Go.AI
open Go.Proofs
open Go.Fo (Wd Un Pre)
variable {W0:World}{Cls:Nat→Int→Prop}{x:Ar}{S:List Nat}{rr rb:List Value}{tbl:List (Nat×AObj Ar)}{nx:Nat}
open Classical in
def spTUp(S:List Nat):SpecL
 |x,[.agg ⟨[.pointer (some ⟨2,0,none⟩)]⟩,.int .i64 (.ofNat a)]=>if TW x S∧a∈S then some (Pre S (kidsX x S) a).reverse else none
 |_,_=>none
theorem TW.down(h:TW x S){a:Nat}(ha:a∈S):spTDown S x [trC,vI a]=some (Pre S (kidsX x S) a):=by
 have hc:TW x S∧a∈S:=⟨h,ha⟩
 simp only[spTDown,if_pos hc]
theorem TW.up(h:TW x S){a:Nat}(ha:a∈S):spTUp S x [trC,vI a]=some (Pre S (kidsX x S) a).reverse:=by
 have hc:TW x S∧a∈S:=⟨h,ha⟩
 simp only[spTUp,if_pos hc]
theorem lift_row{T:Nat}{spec:SpecL}{vs:List Value}{l:List Nat}(H:Hs tbl x rr rb)(C:Can rr rb)(hx:x.refuse<9223372036854775808)(h1:firstV vs=some 2)(h2:can3L ⟨0,1,2⟩ vs=some vs)(hs:spec x vs=some l):liftL T spec vs ⟨tbl,nx⟩=some (rowOut T ⟨tbl,nx⟩ l) :=
 liftL_at (q:=⟨0,1,2⟩) (find3_at h1 H.l2 H.l1 H.l0 (by decide)) hx h2 C.r C.b hs
section
variable {F:Nat→Option IFn}{cl:Nat→Bool}{hk:Hook Ar}{n:Nat}{K:List (Nat×Value)→Mem Ar→Prop}{env:List (Nat×Value)}{l:List (Option (Nat×Bool)×IOp)}
theorem WO.row{d:Option Nat}{f:Opd}{xs:List Opd}{kf T:Nat}{vs:List Value}{spec:SpecL}{y:Nat}{ys:List Nat}(H:Hs tbl x rr rb)(C:Can rr rb)(hx:x.refuse<9223372036854775808)
  (hs:spec x vs=some (y::ys)) (hf:evo env f=some (.func (.func kf) #[] #[])) (hxs:evs env xs=some vs) (hh:hk kf=some (liftL T spec)) (h1:firstV vs=some 2) (h2:can3L ⟨0,1,2⟩ vs=some vs)
  (k:WO (run F cl hk (n+1)) l (putEnv d (.slice (some ⟨nx,0,none⟩) (y::ys).length (y::ys).length) env) ⟨[],(nx,.grown 1 T ((y::ys).map nI))::tbl,nx+1⟩ K):WO (run F cl hk (n+1)) ((none,.call d f xs)::l) env ⟨[],tbl,nx⟩ K:=by
 refine .fcall (v:=.slice (some ⟨nx,0,none⟩) (y::ys).length (y::ys).length) (h:=⟨(nx,.grown 1 T ((y::ys).map nI))::tbl,nx+1⟩) hf hxs ?_ k
 have he:vs++(#[]:Array Value).toList=vs:=List.append_nil vs
 rw[he,run_hook hh,lift_row H C hx h1 h2 hs]
 rfl
end
theorem upd_head{α:Type}{k:Nat}{y z:α}{l:List (Nat×α)}:upd k z ((k,y)::l)=(k,z)::l:=by
 unfold upd
 rw[Nat.beq_refl];rfl
theorem up_run(hS:S.length<900)(h:TW x S)(C:Can rr rb){a:Nat}(ha:a∈S) :
  ∃v h',RF1 (hT4 S) 1003 12 [trC,vI a] ⟨sm3 x rr rb,3⟩=some (v,h')∧(RowIs 3 h'.tbl v (Pre S (kidsX x S) a).reverse∧Hs h'.tbl x rr rb):=by
 have I:=depX_inv h
 have hlen:=h.pre_len ha
 have hd:=h.down ha
 have H0:Hs ((3,AObj.cells [pR])::sm3 x rr rb) x rr rb:=Hs.sm.cons (by decide)
 have hb3:look 3 ((3,AObj.cells [pR])::sm3 x rr rb)=some (.cells [pR]):=rfl
 obtain⟨y,ys,hp⟩:∃y ys,Pre S (kidsX x S) a=y::ys:=⟨_,_,I.pre_eq ha⟩
 rw[hp] at hd hlen ⊢
 refine run_fn rfl fUp (zL rfl) ?_
 dsimp only[iUp,argsE]
 refine WC.seq (WC.ops (WO.box rfl rfl (WO.mv rfl (WO.nil (zN (WC.seq (WC.ops ?_)))))))
 refine WO.load rfl hb3 rfl rfl rfl (WO.mv rfl (WO.row H0 C h.ref hd rfl rfl rfl rfl rfl (WO.mv rfl (WO.nil (zN (WC.seq (WC.ops (WO.mv rfl ?_))))))))
 have hlk:look 4 ((4,AObj.grown 1 3 ((y::ys).map nI))::(3,AObj.cells [pR])::sm3 x rr rb)=some (.grown 1 3 ((y::ys).map nI)):=rfl
 refine WO.fcall_ex (vs:=[.slice (some ⟨4,0,none⟩) (y::ys).length (y::ys).length]) rfl rfl (rev_run (hk:=hT4 S) rfl (nx:=5) (n:=1001) (by omega) (by decide) hlk) ?_
 rintro v h' ⟨rfl,ht,_⟩
 rw[upd_head] at ht
 rw[ht]
 refine WO.nil (zN (WC.seq (WC.ops (WO.mv rfl (WO.mv rfl (WO.nil (zN (WC.ret ?_))))))))
 refine⟨_,_,rfl,rfl,?_,H0.cons (by decide)⟩
 cases hr:(y::ys).reverse with
 |nil=>simp at hr
 |cons z zs =>
  have hl:(y::ys).length=(z::zs).length:=by rw[← hr,List.length_reverse]
  refine⟨4,by decide,by rw[← hl],rfl⟩
theorem rTUp(hS:S.length<900){vs:List Value}{l:List Nat}(C:Can rr rb)(hs:spTUp S x vs=some l):∃t n v,RF1 (hT4 S) 1003 12 vs ⟨sm3 x rr rb,3⟩=some (v,⟨t,n⟩)∧look 0 t=some (.ext x)∧look 1 t=some (.cells (pA::rb))∧look 2 t=some (.cells (pB::rr))∧RowIs 3 t v l:=by
 unfold spTUp at hs
 split at hs
 ·rename_i a
  split at hs
  ·rename_i hc
   injection hs with hs;subst hs
   obtain⟨v,h',h1,h2,H⟩:=up_run (rr:=rr) (rb:=rb) hS hc.1 C hc.2
   exact⟨h'.tbl,h'.next,v,h1,H.l0,H.l1,H.l2,h2⟩
  ·cases hs
 ·cases hs
def hT5(S:List Nat):List (HookF Ar):=(12,liftL 3 (spTUp S))::hT4 S
theorem hT5_ok(hS:S.length<900):∀y∈hT5 S,HookOk (Ext1 Cls) PZ W0 y.1 y.2 :=
 more_ok (E:=(Ext1 Cls)) (hT4_ok hS) (liftL_ok (RF_ok (hT4_ok hS) 1003) (fun _ _ _ _ _ _ h1 h2 hs=>rTUp hS ⟨h1,h2⟩ hs))
end Go.AI
/- The children of a node;where a number stands in a row: the walks. -/
namespace Go.AI
open Go.Proofs
open Go.Fo (Wd Un Pre later Links)
variable {W0:World}{Cls:Nat→Int→Prop}{x:Ar}{S:List Nat}{rr rb:List Value}{tbl:List (Nat×AObj Ar)}{nx:Nat}
open Classical in
def spTKids(S:List Nat):SpecL
 |x,[.agg ⟨[.pointer (some ⟨2,0,none⟩)]⟩,.int .i64 (.ofNat a)]=>if TW x S∧a∈S then some (kidsX x S a) else none
 |_,_=>none
theorem TW.kids(h:TW x S){a:Nat}(ha:a∈S):spTKids S x [trC,vI a]=some (kidsX x S a):=by
 have hc:TW x S∧a∈S:=⟨h,ha⟩
 simp only[spTKids,if_pos hc]
theorem later_at{P R:List Nat}{b:Nat}(h:(P++b::R).Nodup):later b (P++b::R)=R:=by
 induction P with
 |nil=>simp[later]
 |cons c P ih =>
  have h':=List.nodup_cons.1 h
  have hne:c≠b:=fun e=>h'.1 (by simp[e])
  show(if c=b then P++b::R else later b (P++b::R))=R
  rw[if_neg hne]
  exact ih h'.2
theorem kids_run(hS:S.length<900)(h:TW x S)(C:Can rr rb){a:Nat}(ha:a∈S) :
  ∃v h',RF1 (hT5 S) 1003 15 [trC,vI a] ⟨sm3 x rr rb,3⟩=some (v,h')∧(Rowed 3 h'.tbl h'.next v (kidsX x S a)∧Hs h'.tbl x rr rb):=by
 have I:=depX_inv h
 have hnd:=I.nd a ha
 have hlen:(kidsX x S a).length≤S.length:=Go.Fo.nodup_len _ _ hnd fun y hy=>(I.kid ha hy).1
 have H0:Hs ((3,AObj.cells [pR])::sm3 x rr rb) x rr rb:=Hs.sm.cons (by decide)
 have hb3:look 3 ((3,AObj.cells [pR])::sm3 x rr rb)=some (.cells [pR]):=rfl
 refine run_fn rfl fChildren (zL rfl) ?_
 dsimp only[iChildren,argsE]
 refine WC.seq (WC.ops (WO.box rfl rfl (WO.mv rfl (WO.nil (zN (WC.seq (WC.ops (WO.mv rfl (WO.nil (zN (WC.seq (WC.seq (WC.ops ?_)))))))))))))
 refine WO.load rfl hb3 rfl rfl rfl (WO.mv rfl (WO.rd H0 C h.ref (h.fst ha) rfl rfl rfl rfl rfl rfl (WO.mv rfl (WO.nil (zN (WC.block ?_))))))
 refine WC.loop (fun j e tbl nx=>∃P R,P.length+j=950∧e 1=some (vI a)∧e 2=some (.pointer (some ⟨3,0,none⟩))∧(∃v,e 5=some v∧Rowed 3 tbl nx v P)∧e 6=some (vI (R.headD 0))∧kidsX x S a=P++R∧look 3 tbl=some (.cells [pR])∧4≤nx∧Hs tbl x rr rb) (k:=950) (by decide)
  ⟨[],kidsX x S a,rfl,rfl,rfl,⟨_,rfl,.inl ⟨rfl,rfl⟩⟩,rfl,rfl,hb3,by decide,H0⟩ ?_
 rintro j e tbl nx ⟨P,R,hj,e1,e2,⟨v,e5,hv⟩,e6,hPR,l3,hn,H⟩
 cases R with
 |nil =>
  refine WC.seq (WC.seq (WC.ops (WO.mv e6 (WO.neqS rfl rfl (fun hz=>absurd rfl hz) (fun _=>?_)))))
  refine WO.nil (zN (WC.cond_false rfl (WC.exit (thenC_exit (blockC_exit ?_)))))
  refine zN (WC.seq (WC.ops (WO.mv e5 (WO.mv rfl (WO.nil (zN (WC.ret ?_)))))))
  exact⟨_,_,rfl,rfl,by rw[hPR,List.append_nil];exact hv,H⟩
 |cons b R =>
  have hbk:b∈kidsX x S a:=by rw[hPR];simp
  obtain⟨hbS,hbp,hb0,_⟩:=I.kid ha hbk
  have hPl:P.length<900:=by rw[hPR,List.length_append] at hlen;omega
  refine WC.seq (WC.seq (WC.ops (WO.mv e6 (WO.neqS rfl rfl (fun _=>?_) (fun hz=>absurd (Int.ofNat.inj hz) (h.pos hbS))))))
  refine WO.nil (zN (WC.cond_true rfl (WC.skip (zN (WC.seq (WC.block (WC.ops ?_)))))))
  refine WO.mv e5 (WO.mv e6 ?_)
  refine WO.step (i:=.bslice 17 1 1 [.int .i64 (.ofNat 0)] [(0,.t 16)]) (v:=.slice (some ⟨nx,0,none⟩) 1 1) (m':=⟨[],(nx,.cells [vI b])::tbl,nx+1⟩) rfl ?_
  obtain⟨w,tbl',q1,q2,q3,q4⟩:=row_more (b:=b) (by omega) l3 H hn hv
  refine WO.append rfl rfl q1 (WO.mv rfl (WO.nil (zB (zN (WC.ops ?_)))))
  have hnx:=h.nxt hbS hb0
  rw[hbp,hPR,later_at (hPR▸hnd)] at hnx
  refine WO.load e2 q3 rfl rfl rfl (WO.mv e6 (WO.rd q4 C h.ref hnx rfl rfl rfl rfl rfl rfl (WO.mv rfl (WO.nil ?_))))
  refine⟨j-1,by omega,rfl,P++[b],R,by rw[List.length_append];show P.length+1+(j-1)=950;omega,e1,e2,⟨w,rfl,q2⟩,rfl,by rw[hPR,List.append_assoc];rfl,q3,by show 4≤nx+2;omega,q4⟩
theorem rTKids(hS:S.length<900){vs:List Value}{l:List Nat}(C:Can rr rb)(hs:spTKids S x vs=some l):∃t n v,RF1 (hT5 S) 1003 15 vs ⟨sm3 x rr rb,3⟩=some (v,⟨t,n⟩)∧look 0 t=some (.ext x)∧look 1 t=some (.cells (pA::rb))∧look 2 t=some (.cells (pB::rr))∧RowIs 3 t v l:=by
 unfold spTKids at hs
 split at hs
 ·rename_i a
  split at hs
  ·rename_i hc
   injection hs with hs;subst hs
   obtain⟨v,h',h1,h2,H⟩:=kids_run (rr:=rr) (rb:=rb) hS hc.1 C hc.2
   refine⟨h'.tbl,h'.next,v,h1,H.l0,H.l1,H.l2,?_⟩
   rcases h2 with⟨q,rfl⟩|⟨k,k1,_,hne,rfl,hk⟩
   ·rw[q];rfl
   ·cases hp:kidsX x S a with
    |nil=>exact absurd hp hne
    |cons y ys=>rw[hp] at hk;exact⟨k,by omega,rfl,hk⟩
  ·cases hs
 ·cases hs
def hT6(S:List Nat):List (HookF Ar):=(15,liftL 3 (spTKids S))::hT5 S
theorem hT6_ok(hS:S.length<900):∀y∈hT6 S,HookOk (Ext1 Cls) PZ W0 y.1 y.2 :=
 more_ok (E:=(Ext1 Cls)) (hT5_ok hS) (liftL_ok (RF_ok (hT5_ok hS) 1003) (fun _ _ _ _ _ _ h1 h2 hs=>rTKids hS ⟨h1,h2⟩ hs))
end Go.AI
