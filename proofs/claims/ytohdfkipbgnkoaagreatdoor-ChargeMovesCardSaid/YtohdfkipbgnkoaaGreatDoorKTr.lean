/- Is a node in a subtree: the walk. -/
import Derived.Test.YtohdfkipbgnkoaaGreatDoorKSp
import Derived.Test.YtohdfkipbgnkoaaGreatDoorTw
import Derived.Test.YtohdfkipbgnkoaaGreatDoorIfn3
import Derived.Test.YtohdfkipbgnkoaaGreatDoorKFo
set_option maxHeartbeats 1600000
set_option maxRecDepth 100000
noncomputable section
namespace Go.AI
open Go.Proofs
open Go.Fo (Wd Un Pre)
variable {W0:World}{Cls:Nat→Int→Prop}{x:Ar}{S:List Nat}{rr rb:List Value}{tbl:LO}{nx:Nat}
theorem iV{α:Type}{s:Nat}{y:α}:∀{l:List (Nat×α)},aa s l=some y→upd s y l=l
 |[],h=>by simp[aa] at h
 |a::r,h=>by
  unfold upd;unfold aa at h;cases hb:Nat.beq s a.1 with
  |true =>
   rw[hb,cond_true] at h;injection h with h;subst h;rfl
  |false =>
   rw[hb,cond_false] at h;rw[cond_false,iV h]
structure Hs(tbl:LO)(x:Ar)(rr rb:List Value):Prop where
 l0:aa 0 tbl=some (.ext x)
 l1:aa 1 tbl=some (.cells (pA::rb))
 l2:aa 2 tbl=some (.cells (pB::rr))
structure Can(rr rb:List Value):Prop where
 r:aj ⟨0,1,2⟩ rr=some rr
 b:aj ⟨0,1,2⟩ rb=some rb
theorem Hs.sm:Hs (sm3 x rr rb) x rr rb:=⟨rfl,rfl,rfl⟩
theorem Hs.cons{k:Nat}{o:AObj Ar}(H:Hs tbl x rr rb)(hk:2<k):Hs ((k,o)::tbl) x rr rb:=by
 refine⟨?_,?_,?_⟩
 ·rw[zC,if_neg (by show¬0=k;omega)];exact H.l0
 ·rw[zC,if_neg (by show¬1=k;omega)];exact H.l1
 ·rw[zC,if_neg (by show¬2=k;omega)];exact H.l2
section
variable {F:Nat→Option IFn}{cl:Nat→Bool}{hk:dS Ar}{n:Nat}{K:LV→Mem Ar→Prop}{env:LV}{l:List (Option (Nat×Bool)×IOp)}
theorem Hx{spec:Spec}{spec0:List Value→Option Value}{vs:List Value}{v:Value}{x':Ar}(H:Hs tbl x rr rb)(C:Can rr rb)(hx:x.refuse<9223372036854775808)(h1:eq vs=some 2)(h2:fZ ⟨0,1,2⟩ vs=some vs)(hs:spec x vs=some (v,x'))(hb:gR ⟨0,1,2⟩ v=some v):cH spec spec0 vs ⟨tbl,nx⟩=some (v,⟨upd 0 (.ext x') tbl,nx⟩) :=
 vh (q:=⟨0,1,2⟩) h1 (qP h1 H.l2 H.l1 H.l0 (by decide)) hx h2 C.r C.b hs hb
theorem WO.rd{d:Option Nat}{f:Opd}{xs:List Opd}{kf:Nat}{vs:List Value}{v:Value}{spec:Spec}{spec0:List Value→Option Value}(H:Hs tbl x rr rb)(C:Can rr rb)(hx:x.refuse<9223372036854775808)
  (hs:spec x vs=some (v,x)) (hf:evo env f=some (.func (.func kf) #[] #[])) (hxs:evs env xs=some vs) (hh:hk kf=some (cH spec spec0)) (h1:eq vs=some 2) (h2:fZ ⟨0,1,2⟩ vs=some vs)
  (hb:gR ⟨0,1,2⟩ v=some v) (k:WO (run F cl hk (n+1)) l (bD d v env) ⟨[],tbl,nx⟩ K):WO (run F cl hk (n+1)) ((none,.call d f xs)::l) env ⟨[],tbl,nx⟩ K:=by
 refine .BY (v:=v) (h:=⟨tbl,nx⟩) hf hxs ?_ k;have he:vs++(#[]:Array Value).toList=vs:=List.append_nil vs;rw[he,fQ hh,Hx H C hx h1 h2 hs hb,iV H.l0]
end
theorem TW.e0(h:TW x S){a:Nat}(ha:a∈S):dX x (.ofNat a)=some 0:=(h.node a ha).ok
theorem TW.has(h:TW x S){a:Nat}(ha:a∈S):dR x [trC,vI a]=some (ah 0,x):=by
 simp only[dR,dT,h.e0 ha]
theorem AQ{a f:Nat}(h:wd x (a+32+8*f)<4611686018427387904):BF x a f = .ofNat (wd x (a+32+8*f)):=by
 unfold BF;exact gA (by simp only[zO];omega) (by simp only[zO];omega)
theorem TW.get(h:TW x S){a f:Nat}(ha:a∈S)(hf:tW f=true)(hl:InS S (wd x (a+32+8*f))):dj x [trC,vI a,vI f]=some (vI (wd x (a+32+8*f)),x):=by
 simp only[dj,hf,cond_true,dT,h.e0 ha,AQ (hl.lt h.small)]
theorem TW.par(h:TW x S){a:Nat}(ha:a∈S):cq x [trC,vI a]=some (vI ((wds x S).par a),x):=by
 obtain⟨d,I⟩:=h.inv;have hp:(wds x S).par a=wd x (a+40):=cf ha;have hl:=xH I ha;rw[hp] at hl ⊢;simp only[cq,dT,h.e0 ha];rw[AQ (f:=1) (hl.lt h.small)]
open Classical in
def dL(S:List Nat):Spec
 |x,[.agg ⟨[.pointer (some ⟨2,0,none⟩)]⟩,.int .i64 (.ofNat a),.int .i64 (.ofNat top)]=>if TW x S∧a∈S∧top∈S then some (.bool (decide (Un (wds x S) top a)),x) else none
 |_,_=>none
abbrev RF1(hk:List (aK Ar))(n:Nat):aP Ar:=run FA (fun _=>false) (ab hk) n
theorem wU{hk:List (aK Ar)}(h:∀y∈hk,aQ (a8 Cls) PZ W0 y.1 y.2)(n:Nat):bR (a8 Cls) PZ W0 (RF1 hk n):=eE (esc:=KD) j6 (f7 h) n
open Classical in
theorem B9(hS:S.length<900)(h:TW x S)(C:Can rr rb){a top:Nat}(ha:a∈S)(ht:top∈S) :
  ∃v h',RF1 hV8 1002 29 [trC,vI a,vI top] ⟨sm3 x rr rb,3⟩=some (v,h')∧(v = .bool (decide (Un (wds x S) top a))∧Hs h'.tbl x rr rb):=by
 obtain⟨d,I⟩:=h.inv;have H0:Hs ((3,AObj.cells [pR])::sm3 x rr rb) x rr rb:=Hs.sm.cons (by decide);have hb3:aa 3 ((3,AObj.cells [pR])::sm3 x rr rb)=some (.cells [pR]):=rfl;refine aG rfl MH (zL rfl) ?_;dsimp only[FZ,aM];refine sQ (WO.box rfl rfl (WO.mv rfl (nZ (WC.seq (sQ ?_)))));refine WO.load rfl hb3 rfl rfl rfl (WO.mv rfl (WO.rd H0 C h.ref (h.has ha) rfl rfl rfl rfl rfl rfl ?_));refine WO.pure rfl (WO.mv rfl (WO.take rfl rfl (WO.load rfl hb3 rfl rfl rfl (WO.take rfl rfl (WO.mv rfl (WO.take rfl rfl ?_))))));refine WO.rd H0 C h.ref (h.has ht) rfl rfl rfl rfl rfl rfl (WO.take rfl rfl (WO.pure rfl (WO.pure rfl (nZ (cF rfl (WC.seq (WC.block ?_)))))));refine WC.loop (fun j e tbl nx=>∃b,e 1=some (vI b)∧e 2=some (vI top)∧e 3=some (.pointer (some ⟨3,0,none⟩))∧(b=0∨b∈S∧d b<j)∧(Un (wds x S) top a↔b≠0∧Un (wds x S) top b)∧tbl=(3,AObj.cells [pR])::sm3 x rr rb∧nx=4) (k:=901) (by decide)
  ⟨a,rfl,rfl,rfl,.inr ⟨ha,by have:=I.lt ha;omega⟩,⟨fun q=>⟨h.pos ha,q⟩,fun q=>q.2⟩,rfl,rfl⟩ ?_
 rintro j e tbl nx ⟨b,e1,e2,e3,hb,hu,rfl,rfl⟩;have hout:∀b,(b=0∨b=top)→(Un (wds x S) top a↔b≠0∧Un (wds x S) top b)→decide (Un (wds x S) top a)=decide (Int.ofNat b=Int.ofNat top):=by
  intro b hb hu;have h0:=h.pos ht;rcases hb with rfl|rfl
  ·have:¬Int.ofNat 0=Int.ofNat top:=fun e=>h0 (Zx e).symm
   rw[Zs this,Zs (fun q=>(hu.1 q).1 rfl)]
  ·rw[Zh (rfl:Int.ofNat b=Int.ofNat b),Zh (hu.2 ⟨h0,.refl⟩)]
 refine WC.seq (sQ (WO.mv e1 (WO.e rfl rfl (fun hz=>?_) (fun hz=>?_))))
 ·refine WO.mv rfl (WO.take rfl rfl (WO.mv e1 (WO.take rfl rfl (WO.mv e2 (WO.take rfl rfl (WO.e rfl rfl (fun hn=>?_) (fun hn=>?_)))))))
  ·refine WO.pure rfl (nZ (WC.cond_true rfl (WC.skip (zN (WC.block (WC.ops ?_))))));have hb0:b≠0:=fun e=>hz (by rw[e])
   have hbt:b≠top:=fun e=>hn (by rw[e])
   obtain⟨hbS,hj⟩:=hb.resolve_left hb0;refine WO.load e3 hb3 rfl rfl rfl (WO.mv e1 (WO.rd H0 C h.ref (h.par hbS) rfl rfl rfl rfl rfl rfl (WO.mv rfl (WO.nil (zB ?_)))));refine⟨j-1,by omega,rfl,(wds x S).par b,rfl,e2,e3,?_,?_,rfl,rfl⟩
   ·by_cases hp:(wds x S).par b=0
    ·exact .inl hp
    ·have:=I.dep b hbS hp;exact .inr ⟨(I.par b hbS hp).1,by omega⟩
   ·rw[hu];constructor
    ·rintro⟨_,q⟩;exact q.QB hbt
    ·rintro⟨q1,q2⟩;exact⟨hb0,.up q1 q2⟩
  ·have hbt:b=top:=Zx hn;refine WO.pure rfl (nZ (WC.cond_false rfl (WC.exit (aR (aI ?_)))));refine zN (sQ (WO.mv e1 (WO.mv e2 (WO.eql rfl rfl (WO.mv rfl (nZ (WC.ret ?_)))))));exact⟨_,_,rfl,rfl,by rw[hout b (.inr hbt) hu],H0⟩
 ·have hb0:b=0:=Zx hz;refine WO.mv rfl (WO.skip rfl rfl (WO.skip rfl rfl (WO.skip rfl rfl (WO.pure rfl (nZ (WC.cond_false rfl (WC.exit (aR (aI ?_)))))))));refine zN (sQ (WO.mv e1 (WO.mv e2 (WO.eql rfl rfl (WO.mv rfl (nZ (WC.ret ?_)))))));exact⟨_,_,rfl,rfl,by rw[hout b (.inl hb0) hu],H0⟩
theorem H4(hS:S.length<900){x':Ar}{vs:List Value}{v:Value}(C:Can rr rb)(hs:dL S x vs=some (v,x')):∃t n,RF1 hV8 1002 29 vs ⟨sm3 x rr rb,3⟩=some (v,⟨t,n⟩)∧aa 0 t=some (.ext x')∧aa 1 t=some (.cells (pA::rb))∧aa 2 t=some (.cells (pB::rr)):=by
 unfold dL at hs;split at hs
 ·rename_i a top;split at hs
  ·rename_i hc;injection hs with hs;injection hs with h1 h2;subst h1;subst h2;obtain⟨v,h',h1,rfl,H⟩:=B9 (rr:=rr) (rb:=rb) hS hc.1 C hc.2.1 hc.2.2;exact⟨h'.tbl,h'.next,h1,H.l0,H.l1,H.l2⟩
  ·cases hs
 ·cases hs
def hT1(S:List Nat):List (aK Ar):=(29,cH (dL S) (fun _=>none))::hV8
theorem xM(hS:S.length<900):∀y∈hT1 S,aQ (a8 Cls) PZ W0 y.1 y.2 :=
 bk (E:=(a8 Cls)) yt (ew (wU yt 1002) (fun _ _ _ _ _ _ _ h1 h2 hs=>H4 hS ⟨h1,h2⟩ hs) fun _ _ _ hs=>by cases hs)
end Go.AI
namespace Go.AI
open Go.Proofs
open Go.Fo (Wd Un Pre Fol later)
variable {W0:World}{Cls:Nat→Int→Prop}{x:Ar}{S:List Nat}{rr rb:List Value}{tbl:LO}{nx:Nat}
def vj(h:TW x S):Nat→Nat:=h.inv.choose
theorem ft(h:TW x S):Go.Fo.Inv (wds x S) S (dx x S) (vj h):=h.inv.choose_spec
def j9(h:TW x S)(top a:Nat):List Nat:=Go.Fo.Rest (wds x S) S (dx x S) (vj h) top a
open Classical in
def nm(S:List Nat):Spec
 |x,[.agg ⟨[.pointer (some ⟨2,0,none⟩)]⟩,.int .i64 (.ofNat a),.int .i64 (.ofNat top)]=>if h:TW x S∧a∈S∧top∈S∧Un (wds x S) top a then some (vI ((j9 h.1 top a).headD 0),x) else none
 |_,_=>none
theorem TW.fst(h:TW x S){a:Nat}(ha:a∈S):dj x [trC,vI a,vI 2]=some (vI ((dx x S a).headD 0),x):=by
 obtain⟨d,I⟩:=h.inv;have hp:(wds x S).fst a=wd x (a+48):=cf ha;have hl:=yj I ha;rw[← I.fst a ha,hp];rw[hp] at hl;exact h.get ha rfl hl
theorem TW.nxt(h:TW x S){a:Nat}(ha:a∈S)(h0:(wds x S).par a≠0):dj x [trC,vI a,vI 4]=some (vI ((later a (dx x S ((wds x S).par a))).headD 0),x):=by
 obtain⟨d,I⟩:=h.inv;have hp:(wds x S).nxt a=wd x (a+64):=cf ha;have hl:=(ju I ha h0).1;rw[← I.Q1 ha h0,hp];rw[hp] at hl;exact h.get ha rfl hl
theorem Ga(hS:S.length<900)(h:TW x S)(C:Can rr rb){a top:Nat}(ha:a∈S)(ht:top∈S)(hu:Un (wds x S) top a) :
  ∃v h',RF1 (hT1 S) 1002 98 [trC,vI a,vI top] ⟨sm3 x rr rb,3⟩=some (v,h')∧(v=vI ((j9 h top a).headD 0)∧Hs h'.tbl x rr rb):=by
 have I:=ft h;have H0:Hs ((3,AObj.cells [pR])::sm3 x rr rb) x rr rb:=Hs.sm.cons (by decide);have hb3:aa 3 ((3,AObj.cells [pR])::sm3 x rr rb)=some (.cells [pR]):=rfl;refine aG rfl OT (zL rfl) ?_;dsimp only[Kn,aM];refine sQ (WO.box rfl rfl (WO.mv rfl (nZ (WC.seq (sQ ?_)))));refine WO.load rfl hb3 rfl rfl rfl (WO.mv rfl (WO.rd H0 C h.ref (h.fst ha) rfl rfl rfl rfl rfl rfl (WO.mv rfl (nZ (sQ (WO.mv rfl ?_))))));cases hk:dx x S a with
 |cons y ys =>
  obtain⟨y1,y2,y3⟩:=I.QW ha hu hk;refine WO.e rfl rfl (fun _=>?_) (fun hz=>absurd (Zx hz) (h.pos y1));refine nZ (WC.cond_true rfl (sQ (WO.mv rfl (WO.mv rfl (nZ (WC.ret (aB ?_)))))));refine⟨_,_,rfl,rfl,?_,H0⟩;have e:j9 h top a=y::Go.Fo.Rest (wds x S) S (dx x S) (vj h) top y:=y3.trans (I.QD y1);rw[e];rfl
 |nil =>
  have e:j9 h top a=Fol (wds x S) S (dx x S) (vj h) top a:=by unfold j9 Go.Fo.Rest;rw[hk];rfl
  rw[e];refine WO.e rfl rfl (fun hz=>absurd rfl hz) (fun _=>?_);refine nZ (cF rfl (WC.seq (WC.block ?_)));refine WC.loop (fun j e tbl nx=>∃b,e 1=some (vI b)∧e 2=some (vI top)∧e 3=some (.pointer (some ⟨3,0,none⟩))∧b∈S∧Un (wds x S) top b∧vj h b<j∧Fol (wds x S) S (dx x S) (vj h) top a=Fol (wds x S) S (dx x S) (vj h) top b∧tbl=(3,AObj.cells [pR])::sm3 x rr rb∧nx=4) (k:=901) (by decide)
   ⟨a,rfl,rfl,rfl,ha,hu,by have:=I.lt ha;omega,rfl,rfl,rfl⟩ ?_
  rintro j e tbl nx ⟨b,e1,e2,e3,hb,hub,hj,hf,rfl,rfl⟩;rw[hf];refine WC.seq (sQ (WO.mv e1 (WO.mv e2 (WO.e rfl rfl (fun hn=>?_) (fun hn=>?_)))))
  ·have hbt:b≠top:=fun e=>hn (by rw[e])
   obtain⟨hp0,hup⟩:=hub.QB hbt;refine nZ (WC.cond_true rfl (WC.skip (zN (WC.block (WC.seq (sQ ?_))))));refine WO.load e3 hb3 rfl rfl rfl (WO.mv e1 (WO.rd H0 C h.ref (h.nxt hb hp0) rfl rfl rfl rfl rfl rfl (WO.mv rfl (nZ (sQ (WO.mv rfl ?_))))));cases hl:later b (dx x S ((wds x S).par b)) with
   |cons y ys =>
    obtain⟨y1,y2,y3⟩:=I.QM hb hub hbt hl;refine WO.e rfl rfl (fun _=>?_) (fun hz=>absurd (Zx hz) (h.pos y1));refine nZ (WC.cond_true rfl (sQ (WO.mv rfl (WO.mv rfl (nZ (WC.ret (aB ?_)))))));refine a9 (a9 (aB ⟨_,_,rfl,rfl,?_,H0⟩));rw[y3,I.QD y1];rfl
   |nil =>
    obtain⟨y1,y2,y3,y4⟩:=I.down_up hb hub hbt hl;refine WO.e rfl rfl (fun hz=>absurd rfl hz) (fun _=>?_);refine nZ (cF rfl (WC.ops ?_));refine WO.load e3 hb3 rfl rfl rfl (WO.mv e1 (WO.rd H0 C h.ref (h.par hb) rfl rfl rfl rfl rfl rfl (WO.mv rfl (WO.nil (zB ?_)))));exact⟨j-1,by omega,rfl,(wds x S).par b,rfl,e2,e3,y1,y2,by omega,y4,rfl,rfl⟩
  ·have hbt:b=top:=Zx hn;refine nZ (WC.cond_false rfl (WC.exit (aR (aI ?_))));refine zN (sQ (WO.mv rfl (nZ (WC.ret ?_))));refine⟨_,_,rfl,rfl,?_,H0⟩;rw[hbt,Go.Fo.fol_top];rfl
theorem Lc(hS:S.length<900){x':Ar}{vs:List Value}{v:Value}(C:Can rr rb)(hs:nm S x vs=some (v,x')):∃t n,RF1 (hT1 S) 1002 98 vs ⟨sm3 x rr rb,3⟩=some (v,⟨t,n⟩)∧aa 0 t=some (.ext x')∧aa 1 t=some (.cells (pA::rb))∧aa 2 t=some (.cells (pB::rr)):=by
 unfold nm at hs;split at hs
 ·rename_i a top;split at hs
  ·rename_i hc;injection hs with hs;injection hs with h1 h2;subst h1;subst h2;obtain⟨v,h',h1,rfl,H⟩:=Ga (rr:=rr) (rb:=rb) hS hc.1 C hc.2.1 hc.2.2.1 hc.2.2.2;exact⟨h'.tbl,h'.next,h1,H.l0,H.l1,H.l2⟩
  ·cases hs
 ·cases hs
def hT2(S:List Nat):List (aK Ar):=(98,cH (nm S) (fun _=>none))::hT1 S
theorem Ec(hS:S.length<900):∀y∈hT2 S,aQ (a8 Cls) PZ W0 y.1 y.2 :=
 bk (E:=(a8 Cls)) (xM hS) (ew (wU (xM hS) 1002) (fun _ _ _ _ _ _ _ h1 h2 hs=>Lc hS ⟨h1,h2⟩ hs) fun _ _ _ hs=>by cases hs)
end Go.AI
namespace Go.AI
open Go.Proofs
open Go.Fo (Wd Un Pre Fol later)
variable {W0:World}{Cls:Nat→Int→Prop}{x:Ar}{S:List Nat}{rr rb:List Value}{tbl:LO}{nx:Nat}
theorem TW.next(h:TW x S){a top:Nat}(ha:a∈S)(ht:top∈S)(hu:Un (wds x S) top a):nm S x [trC,vI a,vI top]=some (vI ((j9 h top a).headD 0),x):=by
 have hc:TW x S∧a∈S∧top∈S∧Un (wds x S) top a:=⟨h,ha,ht,hu⟩;simp only[nm,dif_pos hc]
open Classical in
def nE(S:List Nat):qx
 |x,[.agg ⟨[.pointer (some ⟨2,0,none⟩)]⟩,.int .i64 (.ofNat a)]=>if TW x S∧a∈S then some (Pre S (dx x S) a) else none
 |_,_=>none
theorem TW.QY(h:TW x S){a:Nat}(ha:a∈S):(Pre S (dx x S) a).length≤S.length :=
 Go.Fo.nodup_len _ _ ((ft h).QU a ha) fun y hy=>(((ft h).Qx a ha y).1 hy).1
def zJ(T:Nat)(tbl:LO)(nx:Nat)(v:Value)(P:List Nat):Prop :=
 (P=[]∧v = .slice none 0 0)∨∃k,4≤k∧k<nx∧P≠[]∧v = .slice (some ⟨k,0,none⟩) P.length P.length∧aa k tbl=some (.grown 1 T (P.map nI))
theorem Hs.del{k:Nat}(H:Hs tbl x rr rb)(hk:2<k):Hs (AI.del k tbl) x rr rb:=by
 refine⟨?_,?_,?_⟩
 ·rw[eu (by omega)];exact H.l0
 ·rw[eu (by omega)];exact H.l1
 ·rw[eu (by omega)];exact H.l2
theorem EH{T:Nat}{v:Value}{P:List Nat}{b:Nat}(hP:P.length<1000)(h3:aa 3 tbl=some (.cells [pR]))(H:Hs tbl x rr rb)(hn:4≤nx)(h:zJ T tbl nx v P) :
  ∃w tbl',dJ ⟨[],(nx,.cells [vI b])::tbl,nx+1⟩ 1 8 T v (.slice (some ⟨nx,0,none⟩) 1 1)=some (w,⟨[],tbl',nx+2⟩)∧zJ T tbl' (nx+2) w (P++[b])∧aa 3 tbl'=some (.cells [pR])∧Hs tbl' x rr rb:=by
 have hsrc:source (⟨[],(nx,.cells [vI b])::tbl,nx+1⟩:Mem Ar) 1 (.slice (some ⟨nx,0,none⟩) 1 1)=some (1,[vI b]):=by
  have hl:(⟨[],(nx,.cells [vI b])::tbl,nx+1⟩:Mem Ar).loads (some ⟨nx,0,none⟩) 1=some [vI b] :=
   cJ (by rw[zC,if_pos rfl]) rfl rfl (by decide)
  simp only[source,Nat.mul_one,hl,Option.map]
 have h31:aa 3 ((nx,AObj.cells [vI b])::tbl)=some (.cells [pR]):=by rw[zC,if_neg (by show¬3=nx;omega)];exact h3
 have H1:Hs ((nx,AObj.cells [vI b])::tbl) x rr rb:=H.cons (by omega);rcases h with⟨rfl,rfl⟩|⟨k,k1,k2,_,rfl,hk⟩
 ·refine⟨_,_,fW hsrc (by decide) (by decide),.inr ⟨nx+1,by omega,by omega,by simp,rfl,?_⟩,?_,H1.cons (by show 2<nx+1;omega)⟩
  ·rw[zC,if_pos rfl];rfl
  ·rw[zC,if_neg (by show¬3=nx+1;omega)];exact h31
 ·have hlk:aa k ((nx,AObj.cells [vI b])::tbl)=some (.grown 1 T (P.map nI)):=by rw[zC,if_neg (by show¬k=nx;omega)];exact hk
  have hlen:(P.map nI).length=P.length*1:=by simp
  have hld:(⟨[],(nx,.cells [vI b])::tbl,nx+1⟩:Mem Ar).loads (some ⟨k,0,none⟩) (P.length*1)=some (P.map nI):=by
   rcases Nat.eq_zero_or_pos P.length with e|e
   ·have:P=[]:=List.length_eq_zero_iff.1 e;subst this;rfl
   ·refine cJ hlk rfl ?_ (by omega);have h1:(P.map nI).drop 0=P.map nI:=rfl;have h2:(P.map nI).take (P.length*1)=P.map nI:=by rw[← hlen,List.take_length]
    have h3:Nat.beq (P.map nI).length (P.length*1)=true:=by rw[Zg];exact hlen
    simp only[bg,h1,h2,h3,cond_true]
  refine⟨_,_,fd (b:=8) hsrc rfl (by decide) (by exact hlk) hlen hld (by omega),.inr ⟨nx+1,by omega,by omega,by simp,?_,?_⟩,?_,?_⟩
  ·rw[Zw];rfl
  ·show aa (nx+1) ((nx+1,AObj.grown 1 T (P.map nI++[vI b]))::AI.del k ((nx,AObj.cells [vI b])::tbl))=_;rw[zC,if_pos rfl,List.map_append];rfl
  ·show aa 3 ((nx+1,AObj.grown 1 T (P.map nI++[vI b]))::AI.del k ((nx,AObj.cells [vI b])::tbl))=_;rw[zC,if_neg (by show¬3=nx+1;omega),eu (by omega)];exact h31
  ·exact(H1.del (by omega)).cons (by show 2<nx+1;omega)
theorem GM(hS:S.length<900)(h:TW x S)(C:Can rr rb){a:Nat}(ha:a∈S) :
  ∃v h',RF1 (hT2 S) 1002 62 [trC,vI a] ⟨sm3 x rr rb,3⟩=some (v,h')∧(zJ 3 h'.tbl h'.next v (Pre S (dx x S) a)∧Hs h'.tbl x rr rb):=by
 have I:=ft h;have hlen:=h.QY ha;have H0:Hs ((3,AObj.cells [pR])::sm3 x rr rb) x rr rb:=Hs.sm.cons (by decide);have hb3:aa 3 ((3,AObj.cells [pR])::sm3 x rr rb)=some (.cells [pR]):=rfl;refine aG rfl Pb (zL rfl) ?_;dsimp only[Kg,aM];refine sQ (WO.box rfl rfl (WO.mv rfl (nZ (WC.seq (sQ ?_)))));refine WO.load rfl hb3 rfl rfl rfl (WO.mv rfl (WO.rd H0 C h.ref (h.has ha) rfl rfl rfl rfl rfl rfl (WO.pure rfl (nZ (cF rfl (sQ ?_))))));refine WO.mv rfl (nZ (WC.seq (sQ (WO.mv rfl (WO.mv rfl (nZ (WC.block ?_)))))));refine WC.loop (fun j e tbl nx=>∃P b,P.length+j=950∧e 1=some (vI a)∧e 2=some (.pointer (some ⟨3,0,none⟩))∧(∃v,e 5=some v∧zJ 3 tbl nx v P)∧e 6=some (vI b)∧(b=0∧Pre S (dx x S) a=P∨b∈S∧Un (wds x S) a b∧Pre S (dx x S) a=P++b::j9 h a b)∧aa 3 tbl=some (.cells [pR])∧4≤nx∧Hs tbl x rr rb) (k:=950) (by decide)
  ⟨[],a,rfl,rfl,rfl,⟨_,rfl,.inl ⟨rfl,rfl⟩⟩,rfl,.inr ⟨ha,.refl,I.Q4 ha⟩,hb3,by decide,H0⟩ ?_
 rintro j e tbl nx ⟨P,b,hj,e1,e2,⟨v,e5,hv⟩,e6,hb,l3,hn,H⟩;refine WC.seq (sQ (WO.mv e6 (WO.e rfl rfl (fun hz=>?_) (fun hz=>?_))))
 ·have hb0:b≠0:=fun e=>hz (by rw[e])
  obtain⟨hbS,hub,hpre⟩:=hb.resolve_left fun q=>hb0 q.1
  have hPl:P.length<900:=by rw[hpre,Zw] at hlen;omega
  refine nZ (WC.cond_true rfl (WC.skip (zN (WC.seq (WC.block (WC.ops ?_))))));refine WO.mv e5 (WO.mv e6 ?_);refine WO.step (i:=.bslice 20 1 1 [i0 0] [(0,.t 19)]) (v:=.slice (some ⟨nx,0,none⟩) 1 1) (m':=⟨[],(nx,.cells [vI b])::tbl,nx+1⟩) rfl ?_;obtain⟨w,tbl',q1,q2,q3,q4⟩:=EH (b:=b) (by omega) l3 H hn hv;refine WO.append rfl rfl q1 (WO.mv rfl (WO.nil (zB (zN (WC.ops ?_)))));refine WO.load e2 q3 rfl rfl rfl (WO.mv e6 (WO.mv e1 (WO.rd q4 C h.ref (h.next hbS ha hub) rfl rfl rfl rfl rfl rfl (WO.mv rfl (WO.nil ?_)))));refine⟨j-1,by omega,rfl,P++[b],(j9 h a b).headD 0,by rw[Zw];show P.length+1+(j-1)=950;omega,e1,e2,⟨w,rfl,q2⟩,rfl,?_,q3,by show 4≤nx+2;omega,q4⟩;rcases I.Q3 hbS hub with hr|⟨y,y1,y2,y3⟩
  ·have hr:j9 h a b=[]:=hr;exact .inl ⟨by rw[hr];rfl,by rw[hpre,hr]⟩
  ·have y3:j9 h a b=y::j9 h a y:=y3;refine .inr ⟨by rw[y3];exact y1,by rw[y3];exact y2,?_⟩;rw[hpre,y3,List.append_assoc];rfl
 ·have hb0:b=0:=Zx hz;have hpre:Pre S (dx x S) a=P:=by
   rcases hb with q|q
   ·exact q.2
   ·exact absurd hb0 (h.pos q.1)
  refine nZ (WC.cond_false rfl (WC.exit (aR (aI ?_))));refine zN (sQ (WO.mv e5 (WO.mv rfl (nZ (WC.ret ?_)))));exact⟨_,_,rfl,rfl,by rw[hpre];exact hv,H⟩
theorem Kv(hS:S.length<900){vs:List Value}{l:List Nat}(C:Can rr rb)(hs:nE S x vs=some l):∃t n v,RF1 (hT2 S) 1002 62 vs ⟨sm3 x rr rb,3⟩=some (v,⟨t,n⟩)∧aa 0 t=some (.ext x)∧aa 1 t=some (.cells (pA::rb))∧aa 2 t=some (.cells (pB::rr))∧za 3 t v l:=by
 unfold nE at hs;split at hs
 ·rename_i a;split at hs
  ·rename_i hc;injection hs with hs;subst hs;obtain⟨v,h',h1,h2,H⟩:=GM (rr:=rr) (rb:=rb) hS hc.1 C hc.2;refine⟨h'.tbl,h'.next,v,h1,H.l0,H.l1,H.l2,?_⟩;rcases h2 with⟨q,rfl⟩|⟨k,k1,_,_,rfl,hk⟩
   ·rw[q];rfl
   ·cases hp:Pre S (dx x S) a with
    |nil =>
     have:=(ft hc.1).OF hc.2;rw[hp] at this;cases this
    |cons y ys=>rw[hp] at hk;exact⟨k,by omega,rfl,hk⟩
  ·cases hs
 ·cases hs
def hT3(S:List Nat):List (aK Ar):=(62,pg 3 (nE S))::hT2 S
theorem Mg(hS:S.length<900):∀y∈hT3 S,aQ (a8 Cls) PZ W0 y.1 y.2 :=
 bk (E:=(a8 Cls)) (Ec hS) (xj (wU (Ec hS) 1002) (fun _ _ _ _ _ _ h1 h2 hs=>Kv hS ⟨h1,h2⟩ hs))
end Go.AI
namespace Go.AI
open Go.Proofs
open Go.Fo (Wd Un Pre)
variable {W0:World}{Cls:Nat→Int→Prop}
theorem wo{x:Ar}{rr rb:List Value}{S:List Nat}{pp cc q1:Nat}:aU F1 ac (ab (hT1 S))
 [.run 9,.callR (vI 0) x,.run 12,.callR (vI 0) x,.run 12,.callR (vI (q1+1)) x,.run 16]
 1000 31 [trC,vI pp,vI cc] x rr rb=some ((vI 9),x,pA::rb,pB::rr,[.callR 10 x rr rb [trC,vI cc] (vI (q1+1)) x,.callR 57 x rr rb [trC,vI cc] (vI 0) x,.callR 57 x rr rb [trC,vI pp] (vI 0) x]):=by kernel_rfl
theorem Cz{x:Ar}{rr rb:List Value}{S:List Nat}{pp cc q1:Nat}(hx:x.refuse<9223372036854775808)(hrr:aj ⟨0,1,2⟩ rr=some rr)(hrb:aj ⟨0,1,2⟩ rb=some rb)(a1:dR x [trC,vI pp]=some (ah 0,x))(a2:dR x [trC,vI cc]=some (ah 0,x))(a3:cq x [trC,vI cc]=some (vI (q1+1),x)):RQ (hT1 S) 31 [trC,vI pp,vI cc] x rr rb (ah 9) x:=by
 refine aX (av (wo (x:=x) (rr:=rr) (rb:=rb) (S:=S) (pp:=pp) (cc:=cc) (q1:=q1)) ?_) ?_ ?_
 ·repeat' first|exact trivial|assumption|exact aA rfl (by assumption)|exact⟨_,_,rfl,by first|assumption|rfl⟩|apply And.intro|rfl
 all_goals first|rfl|(simp only[cond_true, *,zT,cond_false]<;>rfl)
theorem vx{x:Ar}{rr rb:List Value}{S:List Nat}{pp cc:Nat}:aU F1 ac (ab (hT1 S))
 [.run 9,.callR (vI 0) x,.run 12,.callR (vI 0) x,.run 12,.callR (vI 0) x,.run 8,.callR (.bool true) x,.run 16]
 1000 31 [trC,vI pp,vI cc] x rr rb=some ((vI 12),x,pA::rb,pB::rr,[.callR 29 x rr rb [trC,vI pp,vI cc] (.bool true) x,.callR 10 x rr rb [trC,vI cc] (vI 0) x,.callR 57 x rr rb [trC,vI cc] (vI 0) x,.callR 57 x rr rb [trC,vI pp] (vI 0) x]):=by kernel_rfl
theorem BL{x:Ar}{rr rb:List Value}{S:List Nat}{pp cc:Nat}(hx:x.refuse<9223372036854775808)(hrr:aj ⟨0,1,2⟩ rr=some rr)(hrb:aj ⟨0,1,2⟩ rb=some rb)(a1:dR x [trC,vI pp]=some (ah 0,x))(a2:dR x [trC,vI cc]=some (ah 0,x))(a3:cq x [trC,vI cc]=some (vI 0,x))(a4:(dL S) x [trC,vI pp,vI cc]=some (.bool true,x)):RQ (hT1 S) 31 [trC,vI pp,vI cc] x rr rb (ah 12) x:=by
 refine aX (av (vx (x:=x) (rr:=rr) (rb:=rb) (S:=S) (pp:=pp) (cc:=cc)) ?_) ?_ ?_
 ·repeat' first|exact trivial|assumption|exact aA rfl (by assumption)|exact⟨_,_,rfl,by first|assumption|rfl⟩|apply And.intro|rfl
 all_goals first|rfl|(simp only[cond_true, *,zT,cond_false]<;>rfl)
theorem Ip{x X1 X2 X3 X4 X5:Ar}{rr rb:List Value}{S:List Nat}{pp cc:Nat}:aU F1 ac (ab (hT1 S))
 [.run 9,.callR (vI 0) x,.run 12,.callR (vI 0) x,.run 12,.callR (vI 0) x,.run 8,.callR (.bool false) x,.run 8,.callR (vI 0) x,.run 6,.callR (vT []) X1,.run 5,.callR (vT []) X2,.run 4,.callR (vT []) X3,.run 5,.callR (vT []) X4,.run 10,.callR (vT []) X5,.run 16]
 1000 31 [trC,vI pp,vI cc] x rr rb=some ((vI 0),X5,pA::rb,pB::rr,[.callR 59 X4 rr rb [trC,vI pp,vI 2,vI cc] (vT []) X5,.callR 59 X3 rr rb [trC,vI pp,vI 3,vI cc] (vT []) X4,.callR 59 X2 rr rb [trC,vI cc,vI 4,vI 0] (vT []) X3,.callR 59 X1 rr rb [trC,vI cc,vI 5,vI 0] (vT []) X2,.callR 59 x rr rb [trC,vI cc,vI 1,vI pp] (vT []) X1,.callR 26 x rr rb [trC,vI pp,vI 3] (vI 0) x,.callR 29 x rr rb [trC,vI pp,vI cc] (.bool false) x,.callR 10 x rr rb [trC,vI cc] (vI 0) x,.callR 57 x rr rb [trC,vI cc] (vI 0) x,.callR 57 x rr rb [trC,vI pp] (vI 0) x]):=by kernel_rfl
theorem OS{x X1 X2 X3 X4 X5:Ar}{rr rb:List Value}{S:List Nat}{pp cc:Nat}(hx:x.refuse<9223372036854775808)(hrr:aj ⟨0,1,2⟩ rr=some rr)(hrb:aj ⟨0,1,2⟩ rb=some rb)(a1:dR x [trC,vI pp]=some (ah 0,x))(a2:dR x [trC,vI cc]=some (ah 0,x))(a3:cq x [trC,vI cc]=some (vI 0,x))(a4:(dL S) x [trC,vI pp,vI cc]=some (.bool false,x))(a5:dj x [trC,vI pp,vI 3]=some (vI 0,x))(s1:bN x [trC,vI cc,vI 1,vI pp]=some (.tuple ⟨[]⟩,X1))(r1:X1.refuse<9223372036854775808)(s2:bN X1 [trC,vI cc,vI 5,vI 0]=some (.tuple ⟨[]⟩,X2))(r2:X2.refuse<9223372036854775808)(s3:bN X2 [trC,vI cc,vI 4,vI 0]=some (.tuple ⟨[]⟩,X3))(r3:X3.refuse<9223372036854775808)(s4:bN X3 [trC,vI pp,vI 3,vI cc]=some (.tuple ⟨[]⟩,X4))(r4:X4.refuse<9223372036854775808)(s5:bN X4 [trC,vI pp,vI 2,vI cc]=some (.tuple ⟨[]⟩,X5)):RQ (hT1 S) 31 [trC,vI pp,vI cc] x rr rb (ah 0) X5:=by
 refine aX (av (Ip (x:=x) (X1:=X1) (X2:=X2) (X3:=X3) (X4:=X4) (X5:=X5) (rr:=rr) (rb:=rb) (S:=S) (pp:=pp) (cc:=cc)) ?_) ?_ ?_
 ·repeat' first|exact trivial|assumption|exact aA rfl (by assumption)|exact⟨_,_,rfl,by first|assumption|rfl⟩|apply And.intro|rfl
 all_goals first|rfl|(simp only[cond_true, *,zT,cond_false]<;>rfl)
theorem It{x X1 X2 X3 X4 X5:Ar}{rr rb:List Value}{S:List Nat}{pp cc l1:Nat}:aU F1 ac (ab (hT1 S))
 [.run 9,.callR (vI 0) x,.run 12,.callR (vI 0) x,.run 12,.callR (vI 0) x,.run 8,.callR (.bool false) x,.run 8,.callR (vI (l1+1)) x,.run 6,.callR (vT []) X1,.run 5,.callR (vT []) X2,.run 4,.callR (vT []) X3,.run 5,.callR (vT []) X4,.run 10,.callR (vT []) X5,.run 16]
 1000 31 [trC,vI pp,vI cc] x rr rb=some ((vI 0),X5,pA::rb,pB::rr,[.callR 59 X4 rr rb [trC,vI (l1+1),vI 4,vI cc] (vT []) X5,.callR 59 X3 rr rb [trC,vI pp,vI 3,vI cc] (vT []) X4,.callR 59 X2 rr rb [trC,vI cc,vI 4,vI 0] (vT []) X3,.callR 59 X1 rr rb [trC,vI cc,vI 5,vI (l1+1)] (vT []) X2,.callR 59 x rr rb [trC,vI cc,vI 1,vI pp] (vT []) X1,.callR 26 x rr rb [trC,vI pp,vI 3] (vI (l1+1)) x,.callR 29 x rr rb [trC,vI pp,vI cc] (.bool false) x,.callR 10 x rr rb [trC,vI cc] (vI 0) x,.callR 57 x rr rb [trC,vI cc] (vI 0) x,.callR 57 x rr rb [trC,vI pp] (vI 0) x]):=by kernel_rfl
theorem OY{x X1 X2 X3 X4 X5:Ar}{rr rb:List Value}{S:List Nat}{pp cc l1:Nat}(hx:x.refuse<9223372036854775808)(hrr:aj ⟨0,1,2⟩ rr=some rr)(hrb:aj ⟨0,1,2⟩ rb=some rb)(a1:dR x [trC,vI pp]=some (ah 0,x))(a2:dR x [trC,vI cc]=some (ah 0,x))(a3:cq x [trC,vI cc]=some (vI 0,x))(a4:(dL S) x [trC,vI pp,vI cc]=some (.bool false,x))(a5:dj x [trC,vI pp,vI 3]=some (vI (l1+1),x))(s1:bN x [trC,vI cc,vI 1,vI pp]=some (.tuple ⟨[]⟩,X1))(r1:X1.refuse<9223372036854775808)(s2:bN X1 [trC,vI cc,vI 5,vI (l1+1)]=some (.tuple ⟨[]⟩,X2))(r2:X2.refuse<9223372036854775808)(s3:bN X2 [trC,vI cc,vI 4,vI 0]=some (.tuple ⟨[]⟩,X3))(r3:X3.refuse<9223372036854775808)(s4:bN X3 [trC,vI pp,vI 3,vI cc]=some (.tuple ⟨[]⟩,X4))(r4:X4.refuse<9223372036854775808)(s5:bN X4 [trC,vI (l1+1),vI 4,vI cc]=some (.tuple ⟨[]⟩,X5)):RQ (hT1 S) 31 [trC,vI pp,vI cc] x rr rb (ah 0) X5:=by
 refine aX (av (It (x:=x) (X1:=X1) (X2:=X2) (X3:=X3) (X4:=X4) (X5:=X5) (rr:=rr) (rb:=rb) (S:=S) (pp:=pp) (cc:=cc) (l1:=l1)) ?_) ?_ ?_
 ·repeat' first|exact trivial|assumption|exact aA rfl (by assumption)|exact⟨_,_,rfl,by first|assumption|rfl⟩|apply And.intro|rfl
 all_goals first|rfl|(simp only[cond_true, *,zT,cond_false]<;>rfl)
theorem xK{x:Ar}{rr rb:List Value}{cc:Nat}:aU F1 ac (ab hV8)
 [.run 9,.callR (vI 0) x,.run 11,.callR (vI 0) x,.run 16]
 1000 34 [trC,vI cc] x rr rb=some ((vI 8),x,pA::rb,pB::rr,[.callR 10 x rr rb [trC,vI cc] (vI 0) x,.callR 57 x rr rb [trC,vI cc] (vI 0) x]):=by kernel_rfl
theorem EA{x:Ar}{rr rb:List Value}{cc:Nat}(hx:x.refuse<9223372036854775808)(hrr:aj ⟨0,1,2⟩ rr=some rr)(hrb:aj ⟨0,1,2⟩ rb=some rb)(a2:dR x [trC,vI cc]=some (ah 0,x))(a3:cq x [trC,vI cc]=some (vI 0,x)):RQ hV8 34 [trC,vI cc] x rr rb (ah 8) x:=by
 refine aX (av (xK (x:=x) (rr:=rr) (rb:=rb) (cc:=cc)) ?_) ?_ ?_
 ·repeat' first|exact trivial|assumption|exact aA rfl (by assumption)|exact⟨_,_,rfl,by first|assumption|rfl⟩|apply And.intro|rfl
 all_goals first|rfl|(simp only[cond_true, *,zT,cond_false]<;>rfl)
theorem FJ{x X1 X2 X3 X4 X5:Ar}{rr rb:List Value}{pp cc:Nat}:aU F1 ac (ab hV8)
 [.run 9,.callR (vI 0) x,.run 11,.callR (vI (pp+1)) x,.run 13,.callR (vI 0) x,.run 2,.callR (vI 0) x,.run 12,.callR (vT []) X1,.run 10,.callR (vT []) X2,.run 25,.callR (vT []) X3,.run 22,.callR (vT []) X4,.run 22,.callR (vT []) X5,.run 48]
 1000 34 [trC,vI cc] x rr rb=some ((vI 0),X5,pA::rb,pB::rr,[.callR 59 X4 rr rb [trC,vI cc,vI 4,vI 0] (vT []) X5,.callR 59 X3 rr rb [trC,vI cc,vI 5,vI 0] (vT []) X4,.callR 59 X2 rr rb [trC,vI cc,vI 1,vI 0] (vT []) X3,.callR 59 X1 rr rb [trC,vI (pp+1),vI 3,vI 0] (vT []) X2,.callR 59 x rr rb [trC,vI (pp+1),vI 2,vI 0] (vT []) X1,.callR 26 x rr rb [trC,vI cc,vI 4] (vI 0) x,.callR 26 x rr rb [trC,vI cc,vI 5] (vI 0) x,.callR 10 x rr rb [trC,vI cc] (vI (pp+1)) x,.callR 57 x rr rb [trC,vI cc] (vI 0) x]):=by kernel_rfl
theorem LS{x X1 X2 X3 X4 X5:Ar}{rr rb:List Value}{pp cc:Nat}(hx:x.refuse<9223372036854775808)(hrr:aj ⟨0,1,2⟩ rr=some rr)(hrb:aj ⟨0,1,2⟩ rb=some rb)(a2:dR x [trC,vI cc]=some (ah 0,x))(a3:cq x [trC,vI cc]=some (vI (pp+1),x))(a5:dj x [trC,vI cc,vI 5]=some (vI 0,x))(a6:dj x [trC,vI cc,vI 4]=some (vI 0,x))(s1:bN x [trC,vI (pp+1),vI 2,vI 0]=some (.tuple ⟨[]⟩,X1))(r1:X1.refuse<9223372036854775808)(s2:bN X1 [trC,vI (pp+1),vI 3,vI 0]=some (.tuple ⟨[]⟩,X2))(r2:X2.refuse<9223372036854775808)(s3:bN X2 [trC,vI cc,vI 1,vI 0]=some (.tuple ⟨[]⟩,X3))(r3:X3.refuse<9223372036854775808)(s4:bN X3 [trC,vI cc,vI 5,vI 0]=some (.tuple ⟨[]⟩,X4))(r4:X4.refuse<9223372036854775808)(s5:bN X4 [trC,vI cc,vI 4,vI 0]=some (.tuple ⟨[]⟩,X5)):RQ hV8 34 [trC,vI cc] x rr rb (ah 0) X5:=by
 refine aX (av (FJ (x:=x) (X1:=X1) (X2:=X2) (X3:=X3) (X4:=X4) (X5:=X5) (rr:=rr) (rb:=rb) (pp:=pp) (cc:=cc)) ?_) ?_ ?_
 ·repeat' first|exact trivial|assumption|exact aA rfl (by assumption)|exact⟨_,_,rfl,by first|assumption|rfl⟩|apply And.intro|rfl
 all_goals first|rfl|(simp only[cond_true, *,zT,cond_false]<;>rfl)
theorem Em{x X1 X2 X3 X4 X5:Ar}{rr rb:List Value}{pp cc q1:Nat}:aU F1 ac (ab hV8)
 [.run 9,.callR (vI 0) x,.run 11,.callR (vI (pp+1)) x,.run 13,.callR (vI 0) x,.run 2,.callR (vI (q1+1)) x,.run 12,.callR (vT []) X1,.run 10,.callR (vT []) X2,.run 25,.callR (vT []) X3,.run 22,.callR (vT []) X4,.run 22,.callR (vT []) X5,.run 48]
 1000 34 [trC,vI cc] x rr rb=some ((vI 0),X5,pA::rb,pB::rr,[.callR 59 X4 rr rb [trC,vI cc,vI 4,vI 0] (vT []) X5,.callR 59 X3 rr rb [trC,vI cc,vI 5,vI 0] (vT []) X4,.callR 59 X2 rr rb [trC,vI cc,vI 1,vI 0] (vT []) X3,.callR 59 X1 rr rb [trC,vI (q1+1),vI 5,vI 0] (vT []) X2,.callR 59 x rr rb [trC,vI (pp+1),vI 2,vI (q1+1)] (vT []) X1,.callR 26 x rr rb [trC,vI cc,vI 4] (vI (q1+1)) x,.callR 26 x rr rb [trC,vI cc,vI 5] (vI 0) x,.callR 10 x rr rb [trC,vI cc] (vI (pp+1)) x,.callR 57 x rr rb [trC,vI cc] (vI 0) x]):=by kernel_rfl
theorem Ly{x X1 X2 X3 X4 X5:Ar}{rr rb:List Value}{pp cc q1:Nat}(hx:x.refuse<9223372036854775808)(hrr:aj ⟨0,1,2⟩ rr=some rr)(hrb:aj ⟨0,1,2⟩ rb=some rb)(a2:dR x [trC,vI cc]=some (ah 0,x))(a3:cq x [trC,vI cc]=some (vI (pp+1),x))(a5:dj x [trC,vI cc,vI 5]=some (vI 0,x))(a6:dj x [trC,vI cc,vI 4]=some (vI (q1+1),x))(s1:bN x [trC,vI (pp+1),vI 2,vI (q1+1)]=some (.tuple ⟨[]⟩,X1))(r1:X1.refuse<9223372036854775808)(s2:bN X1 [trC,vI (q1+1),vI 5,vI 0]=some (.tuple ⟨[]⟩,X2))(r2:X2.refuse<9223372036854775808)(s3:bN X2 [trC,vI cc,vI 1,vI 0]=some (.tuple ⟨[]⟩,X3))(r3:X3.refuse<9223372036854775808)(s4:bN X3 [trC,vI cc,vI 5,vI 0]=some (.tuple ⟨[]⟩,X4))(r4:X4.refuse<9223372036854775808)(s5:bN X4 [trC,vI cc,vI 4,vI 0]=some (.tuple ⟨[]⟩,X5)):RQ hV8 34 [trC,vI cc] x rr rb (ah 0) X5:=by
 refine aX (av (Em (x:=x) (X1:=X1) (X2:=X2) (X3:=X3) (X4:=X4) (X5:=X5) (rr:=rr) (rb:=rb) (pp:=pp) (cc:=cc) (q1:=q1)) ?_) ?_ ?_
 ·repeat' first|exact trivial|assumption|exact aA rfl (by assumption)|exact⟨_,_,rfl,by first|assumption|rfl⟩|apply And.intro|rfl
 all_goals first|rfl|(simp only[cond_true, *,zT,cond_false]<;>rfl)
theorem G5{x X1 X2 X3 X4 X5:Ar}{rr rb:List Value}{pp cc l1:Nat}:aU F1 ac (ab hV8)
 [.run 9,.callR (vI 0) x,.run 11,.callR (vI (pp+1)) x,.run 13,.callR (vI (l1+1)) x,.run 2,.callR (vI 0) x,.run 12,.callR (vT []) X1,.run 10,.callR (vT []) X2,.run 25,.callR (vT []) X3,.run 22,.callR (vT []) X4,.run 22,.callR (vT []) X5,.run 48]
 1000 34 [trC,vI cc] x rr rb=some ((vI 0),X5,pA::rb,pB::rr,[.callR 59 X4 rr rb [trC,vI cc,vI 4,vI 0] (vT []) X5,.callR 59 X3 rr rb [trC,vI cc,vI 5,vI 0] (vT []) X4,.callR 59 X2 rr rb [trC,vI cc,vI 1,vI 0] (vT []) X3,.callR 59 X1 rr rb [trC,vI (pp+1),vI 3,vI (l1+1)] (vT []) X2,.callR 59 x rr rb [trC,vI (l1+1),vI 4,vI 0] (vT []) X1,.callR 26 x rr rb [trC,vI cc,vI 4] (vI 0) x,.callR 26 x rr rb [trC,vI cc,vI 5] (vI (l1+1)) x,.callR 10 x rr rb [trC,vI cc] (vI (pp+1)) x,.callR 57 x rr rb [trC,vI cc] (vI 0) x]):=by kernel_rfl
theorem LU{x X1 X2 X3 X4 X5:Ar}{rr rb:List Value}{pp cc l1:Nat}(hx:x.refuse<9223372036854775808)(hrr:aj ⟨0,1,2⟩ rr=some rr)(hrb:aj ⟨0,1,2⟩ rb=some rb)(a2:dR x [trC,vI cc]=some (ah 0,x))(a3:cq x [trC,vI cc]=some (vI (pp+1),x))(a5:dj x [trC,vI cc,vI 5]=some (vI (l1+1),x))(a6:dj x [trC,vI cc,vI 4]=some (vI 0,x))(s1:bN x [trC,vI (l1+1),vI 4,vI 0]=some (.tuple ⟨[]⟩,X1))(r1:X1.refuse<9223372036854775808)(s2:bN X1 [trC,vI (pp+1),vI 3,vI (l1+1)]=some (.tuple ⟨[]⟩,X2))(r2:X2.refuse<9223372036854775808)(s3:bN X2 [trC,vI cc,vI 1,vI 0]=some (.tuple ⟨[]⟩,X3))(r3:X3.refuse<9223372036854775808)(s4:bN X3 [trC,vI cc,vI 5,vI 0]=some (.tuple ⟨[]⟩,X4))(r4:X4.refuse<9223372036854775808)(s5:bN X4 [trC,vI cc,vI 4,vI 0]=some (.tuple ⟨[]⟩,X5)):RQ hV8 34 [trC,vI cc] x rr rb (ah 0) X5:=by
 refine aX (av (G5 (x:=x) (X1:=X1) (X2:=X2) (X3:=X3) (X4:=X4) (X5:=X5) (rr:=rr) (rb:=rb) (pp:=pp) (cc:=cc) (l1:=l1)) ?_) ?_ ?_
 ·repeat' first|exact trivial|assumption|exact aA rfl (by assumption)|exact⟨_,_,rfl,by first|assumption|rfl⟩|apply And.intro|rfl
 all_goals first|rfl|(simp only[cond_true, *,zT,cond_false]<;>rfl)
theorem Fg{x X1 X2 X3 X4 X5:Ar}{rr rb:List Value}{pp cc l1 q1:Nat}:aU F1 ac (ab hV8)
 [.run 9,.callR (vI 0) x,.run 11,.callR (vI (pp+1)) x,.run 13,.callR (vI (l1+1)) x,.run 2,.callR (vI (q1+1)) x,.run 12,.callR (vT []) X1,.run 10,.callR (vT []) X2,.run 25,.callR (vT []) X3,.run 22,.callR (vT []) X4,.run 22,.callR (vT []) X5,.run 48]
 1000 34 [trC,vI cc] x rr rb=some ((vI 0),X5,pA::rb,pB::rr,[.callR 59 X4 rr rb [trC,vI cc,vI 4,vI 0] (vT []) X5,.callR 59 X3 rr rb [trC,vI cc,vI 5,vI 0] (vT []) X4,.callR 59 X2 rr rb [trC,vI cc,vI 1,vI 0] (vT []) X3,.callR 59 X1 rr rb [trC,vI (q1+1),vI 5,vI (l1+1)] (vT []) X2,.callR 59 x rr rb [trC,vI (l1+1),vI 4,vI (q1+1)] (vT []) X1,.callR 26 x rr rb [trC,vI cc,vI 4] (vI (q1+1)) x,.callR 26 x rr rb [trC,vI cc,vI 5] (vI (l1+1)) x,.callR 10 x rr rb [trC,vI cc] (vI (pp+1)) x,.callR 57 x rr rb [trC,vI cc] (vI 0) x]):=by kernel_rfl
theorem LG{x X1 X2 X3 X4 X5:Ar}{rr rb:List Value}{pp cc l1 q1:Nat}(hx:x.refuse<9223372036854775808)(hrr:aj ⟨0,1,2⟩ rr=some rr)(hrb:aj ⟨0,1,2⟩ rb=some rb)(a2:dR x [trC,vI cc]=some (ah 0,x))(a3:cq x [trC,vI cc]=some (vI (pp+1),x))(a5:dj x [trC,vI cc,vI 5]=some (vI (l1+1),x))(a6:dj x [trC,vI cc,vI 4]=some (vI (q1+1),x))(s1:bN x [trC,vI (l1+1),vI 4,vI (q1+1)]=some (.tuple ⟨[]⟩,X1))(r1:X1.refuse<9223372036854775808)(s2:bN X1 [trC,vI (q1+1),vI 5,vI (l1+1)]=some (.tuple ⟨[]⟩,X2))(r2:X2.refuse<9223372036854775808)(s3:bN X2 [trC,vI cc,vI 1,vI 0]=some (.tuple ⟨[]⟩,X3))(r3:X3.refuse<9223372036854775808)(s4:bN X3 [trC,vI cc,vI 5,vI 0]=some (.tuple ⟨[]⟩,X4))(r4:X4.refuse<9223372036854775808)(s5:bN X4 [trC,vI cc,vI 4,vI 0]=some (.tuple ⟨[]⟩,X5)):RQ hV8 34 [trC,vI cc] x rr rb (ah 0) X5:=by
 refine aX (av (Fg (x:=x) (X1:=X1) (X2:=X2) (X3:=X3) (X4:=X4) (X5:=X5) (rr:=rr) (rb:=rb) (pp:=pp) (cc:=cc) (l1:=l1) (q1:=q1)) ?_) ?_ ?_
 ·repeat' first|exact trivial|assumption|exact aA rfl (by assumption)|exact⟨_,_,rfl,by first|assumption|rfl⟩|apply And.intro|rfl
 all_goals first|rfl|(simp only[cond_true, *,zT,cond_false]<;>rfl)
open Classical in
def gS(S:List Nat):Spec
 |x,[.agg ⟨[.pointer (some ⟨2,0,none⟩)]⟩,.int .i64 (.ofNat p),.int .i64 (.ofNat c)]=>if TW x S∧p∈S∧c∈S then(if wd x (c+40)≠0 then some (ah 9,x) else if Un (wds x S) c p then some (ah 12,x) else some (ah 0,addX x p c)) else none
 |_,_=>none
open Classical in
def kK(S:List Nat):Spec
 |x,[.agg ⟨[.pointer (some ⟨2,0,none⟩)]⟩,.int .i64 (.ofNat c)]=>if TW x S∧c∈S then(if wd x (c+40)=0 then some (ah 8,x) else some (ah 0,cutX x c)) else none
 |_,_=>none
theorem bZ{x:Ar}{a f v:Nat}(h:NodeAt x a)(hf:tW f=true)(hv:v<9223372036854775808):bN x [trC,vI a,vI f,vI v]=some (.tuple ⟨[]⟩,stw x (a+32+8*f) v):=by
 have hb:Nat.blt v 9223372036854775808=true:=by rw[aD];exact Zh hv
 simp only[bN,hf,hb,Bool.and_self,cond_true,h.ok]
theorem InS.QH{S:List Nat}(hs:∀a,a∈S→a<4611686018427387904){v:Nat}(h:InS S v):v<9223372036854775808:=Zv (h.lt hs) (by decide)
open Classical in
theorem OZ{x x':Ar}{S:List Nat}{rr rb vs:List Value}{v:Value}(hrr:aj ⟨0,1,2⟩ rr=some rr)(hrb:aj ⟨0,1,2⟩ rb=some rb)(hs:gS S x vs=some (v,x')):RQ (hT1 S) 31 vs x rr rb (v) x':=by
 unfold gS at hs;split at hs
 ·rename_i p c;split at hs
  ·rename_i hc;obtain⟨h,hp,hcS⟩:=hc;obtain⟨d,I⟩:=h.inv;have hpw:(wds x S).par c=wd x (c+40):=cf hcS;have hlw:(wds x S).lst p=wd x (p+56):=cf hp;have hl:=mj I hp;rw[hlw] at hl;have hpar:=h.par hcS;rw[hpw] at hpar;split at hs
   ·rename_i h0;injection hs with hs;injection hs with h1 h2;subst h1;subst h2;obtain⟨q,hq⟩:=Nat.exists_eq_succ_of_ne_zero h0;rw[hq] at hpar;exact Cz h.ref hrr hrb (h.has hp) (h.has hcS) hpar
   ·rename_i h0;have h0:wd x (c+40)=0:=by
     by_cases e:wd x (c+40)=0
     ·exact e
     ·exact absurd e h0
    rw[h0] at hpar;have hcu:TW x S∧p∈S∧c∈S:=⟨h,hp,hcS⟩;split at hs
    ·rename_i hu;injection hs with hs;injection hs with h1 h2;subst h1;subst h2;exact BL h.ref hrr hrb (h.has hp) (h.has hcS) hpar (by simp only[dL,if_pos hcu,Zh hu])
    ·rename_i hu;injection hs with hs;injection hs with h1 h2;subst h1;subst h2;have hun:dL S x [trC,vI p,vI c]=some (.bool false,x):=by simp only[dL,if_pos hcu,Zs hu]
     have n0:=h.nds;have n1:=n0.stw (v:=p) hcS (o:=40) (by decide) (by decide);have n2:=n1.stw (v:=wd x (p+56)) hcS (o:=72) (by decide) (by decide);have n3:=n2.stw (v:=0) hcS (o:=64) (by decide) (by decide);have n4:=n3.stw (v:=c) hp (o:=56) (by decide) (by decide);have p63:p<9223372036854775808:=InS.QH h.small (.inr hp);have c63:c<9223372036854775808:=InS.QH h.small (.inr hcS);have l63:=hl.QH h.small;have hget:=h.get hp (f:=3) rfl hl;unfold addX;dsimp only;by_cases e:wd x (p+56)=0
     ·rw[if_pos e];rw[show p+32+8*3=p+56 from rfl,e] at hget;rw[e] at n2 n3 n4 ⊢;exact OS h.ref hrr hrb (h.has hp) (h.has hcS) hpar hun hget (bZ (n0.node c hcS) rfl p63) n1.ref (bZ (n1.node c hcS) rfl (by decide)) n2.ref (bZ (n2.node c hcS) rfl (by decide)) n3.ref (bZ (n3.node p hp) rfl c63) n4.ref (bZ (n4.node p hp) rfl c63)
     ·rw[if_neg e];obtain⟨q,hq⟩:=Nat.exists_eq_succ_of_ne_zero e;have hls:wd x (p+56)∈S:=hl.resolve_left e;rw[show p+32+8*3=p+56 from rfl,hq] at hget;rw[hq] at n2 n3 n4 hls l63 ⊢;exact OY h.ref hrr hrb (h.has hp) (h.has hcS) hpar hun hget (bZ (n0.node c hcS) rfl p63) n1.ref (bZ (n1.node c hcS) rfl l63) n2.ref (bZ (n2.node c hcS) rfl (by decide)) n3.ref (bZ (n3.node p hp) rfl c63) n4.ref (bZ (n4.node _ hls) rfl c63)
  ·cases hs
 ·cases hs
theorem Nj{x x':Ar}{S:List Nat}{rr rb vs:List Value}{v:Value}(hrr:aj ⟨0,1,2⟩ rr=some rr)(hrb:aj ⟨0,1,2⟩ rb=some rb)(hs:kK S x vs=some (v,x')):RQ hV8 34 vs x rr rb (v) x':=by
 unfold kK at hs;split at hs
 ·rename_i c;split at hs
  ·rename_i hc;obtain⟨h,hcS⟩:=hc;obtain⟨d,I⟩:=h.inv;have hpw:(wds x S).par c=wd x (c+40):=cf hcS;have hpar:=h.par hcS;rw[hpw] at hpar;split at hs
   ·rename_i h0;injection hs with hs;injection hs with h1 h2;subst h1;subst h2;rw[h0] at hpar;exact EA h.ref hrr hrb (h.has hcS) hpar
   ·rename_i h0;injection hs with hs;injection hs with h1 h2;subst h1;subst h2;have h0':(wds x S).par c≠0:=by rw[hpw];exact h0
    obtain⟨i1,i2⟩:=ju I hcS h0';rw[show(wds x S).nxt c=wd x (c+64) from cf hcS] at i1;rw[show(wds x S).prv c=wd x (c+72) from cf hcS] at i2;have hpS:=(I.par c hcS h0').1;rw[hpw] at hpS;have gv:=h.get hcS (f:=5) rfl i2;have gn:=h.get hcS (f:=4) rfl i1;rw[show c+32+8*5=c+72 from rfl] at gv;rw[show c+32+8*4=c+64 from rfl] at gn;have v63:=i2.QH h.small;have n63:=i1.QH h.small;have n0:=h.nds;unfold cutX;dsimp only;obtain⟨qp,hqp⟩:=Nat.exists_eq_succ_of_ne_zero h0;rw[hqp] at hpar hpS ⊢;by_cases ev:wd x (c+72)=0
    ·by_cases en:wd x (c+64)=0
     ·rw[ev] at gv v63 ⊢;rw[en] at gn n63 ⊢;have n1:=n0.stw (v:=0) hpS (o:=48) (by decide) (by decide);have n2:=n1.stw (v:=0) hpS (o:=56) (by decide) (by decide);have n3:=n2.stw (v:=0) hcS (o:=40) (by decide) (by decide);have n4:=n3.stw (v:=0) hcS (o:=72) (by decide) (by decide);simp only[if_true];exact LS h.ref hrr hrb (h.has hcS) hpar gv gn (bZ (n0.node _ hpS) rfl n63) n1.ref (bZ (n1.node _ hpS) rfl v63) n2.ref (bZ (n2.node c hcS) rfl (by decide)) n3.ref (bZ (n3.node c hcS) rfl (by decide)) n4.ref (bZ (n4.node c hcS) rfl (by decide))
     ·obtain⟨qn,hqn⟩:=Nat.exists_eq_succ_of_ne_zero en;have hnS:wd x (c+64)∈S:=i1.resolve_left en;rw[ev] at gv v63 ⊢;rw[hqn] at gn n63 ⊢;rw[hqn] at hnS;have n1:=n0.stw (v:=(qn+1)) hpS (o:=48) (by decide) (by decide);have n2:=n1.stw (v:=0) hnS (o:=72) (by decide) (by decide);have n3:=n2.stw (v:=0) hcS (o:=40) (by decide) (by decide);have n4:=n3.stw (v:=0) hcS (o:=72) (by decide) (by decide);simp only[if_true,if_pos,if_neg (Nat.succ_ne_zero _)];exact Ly h.ref hrr hrb (h.has hcS) hpar gv gn (bZ (n0.node _ hpS) rfl n63) n1.ref (bZ (n1.node _ hnS) rfl v63) n2.ref (bZ (n2.node c hcS) rfl (by decide)) n3.ref (bZ (n3.node c hcS) rfl (by decide)) n4.ref (bZ (n4.node c hcS) rfl (by decide))
    ·obtain⟨qv,hqv⟩:=Nat.exists_eq_succ_of_ne_zero ev;have hvS:wd x (c+72)∈S:=i2.resolve_left ev;by_cases en:wd x (c+64)=0
     ·rw[hqv] at gv v63 ⊢;rw[hqv] at hvS;rw[en] at gn n63 ⊢;have n1:=n0.stw (v:=0) hvS (o:=64) (by decide) (by decide);have n2:=n1.stw (v:=(qv+1)) hpS (o:=56) (by decide) (by decide);have n3:=n2.stw (v:=0) hcS (o:=40) (by decide) (by decide);have n4:=n3.stw (v:=0) hcS (o:=72) (by decide) (by decide);simp only[if_true,if_pos,if_neg (Nat.succ_ne_zero _)];exact LU h.ref hrr hrb (h.has hcS) hpar gv gn (bZ (n0.node _ hvS) rfl n63) n1.ref (bZ (n1.node _ hpS) rfl v63) n2.ref (bZ (n2.node c hcS) rfl (by decide)) n3.ref (bZ (n3.node c hcS) rfl (by decide)) n4.ref (bZ (n4.node c hcS) rfl (by decide))
     ·obtain⟨qn,hqn⟩:=Nat.exists_eq_succ_of_ne_zero en;have hnS:wd x (c+64)∈S:=i1.resolve_left en;rw[hqv] at gv v63 ⊢;rw[hqv] at hvS;rw[hqn] at gn n63 ⊢;rw[hqn] at hnS;have n1:=n0.stw (v:=(qn+1)) hvS (o:=64) (by decide) (by decide);have n2:=n1.stw (v:=(qv+1)) hnS (o:=72) (by decide) (by decide);have n3:=n2.stw (v:=0) hcS (o:=40) (by decide) (by decide);have n4:=n3.stw (v:=0) hcS (o:=72) (by decide) (by decide);simp only[if_true,if_pos,if_neg (Nat.succ_ne_zero _)];exact LG h.ref hrr hrb (h.has hcS) hpar gv gn (bZ (n0.node _ hvS) rfl n63) n1.ref (bZ (n1.node _ hnS) rfl v63) n2.ref (bZ (n2.node c hcS) rfl (by decide)) n3.ref (bZ (n3.node c hcS) rfl (by decide)) n4.ref (bZ (n4.node c hcS) rfl (by decide))
  ·cases hs
 ·cases hs
def hT4(S:List Nat):List (aK Ar):=(31,cH (gS S) (fun _=>none))::(34,cH (kK S) (fun _=>none))::hT3 S
theorem Ef{S:List Nat}(hS:S.length<900):∀y∈hT4 S,aQ (a8 Cls) PZ W0 y.1 y.2 :=
 bk (E:=(a8 Cls)) (bk (E:=(a8 Cls)) (Mg hS) (ew (eV yt) (fun _ _ _ _ _ _ _ h1 h2 hs=>Nj h1 h2 hs) fun _ _ _ hs=>by cases hs)) (ew (eV (xM hS)) (fun _ _ _ _ _ _ _ h1 h2 hs=>OZ h1 h2 hs) fun _ _ _ hs=>by cases hs)
end Go.AI
namespace Go.AI
open Go.Proofs
open Go.Fo (Wd Un Pre)
variable {W0:World}{Cls:Nat→Int→Prop}{x:Ar}{S:List Nat}{rr rb:List Value}{tbl:LO}{nx:Nat}
theorem qf:∀{cs:List Value} {q:Nat} {v:Value},q<cs.length→aT cs q [v]=cs.set q v
 |[],q,v,h=>by simp at h
 |c::cs,0,v,_=>by simp[aT,over]
 |c::cs,q+1,v,h=>by
  show c::aT cs q [v]=c::cs.set q v;rw[qf (by simpa using h)]
theorem dF{env:LV}{e:Nat}{x i:Opd}{b o len c n:Nat}{sp:Option Nat}{j:IntKind}{z:Int}(hx:evo env x=some (.slice (some ⟨b,o,sp⟩) len c))(hi:evo env i=some (.int j z))(hz:z=Int.ofNat n)(hn:n<len):aw env (.idxL e x i)=some (.pointer (some ⟨b,o+n*e,none⟩)):=by
 subst hz;have h:Nat.blt n len=true:=by rw[aD];exact Zh hn
 simp only[aw,hx,hi,cQ,h,cond_true]
theorem mT{α:Type}{s:Nat}{y z:α}:∀{l:List (Nat×α)},upd s z (upd s y l)=upd s z l
 |[]=>rfl
 |a::r=>by
  unfold upd;cases hb:Nat.beq s a.1 with
  |true=>simp only[cond_true,upd,hb]
  |false=>simp only[cond_false,upd,hb,mT]
theorem eI(k:IntKind)(z:Int):dC [.int k z] [.int k z]=true:=by
 show(ceq (.int k z) (.int k z)&&true)=true;simp[ceq,eS]
def EP(L A:List Nat)(i:Nat):Prop:=A.length=L.length∧2*i≤L.length∧∀q,q<L.length→A[q]? = if q<i∨L.length-1-i<q then L[L.length-1-q]? else L[q]?
theorem CN(L:List Nat):EP L L 0:=by
 refine⟨rfl,by omega,fun q hq=>?_⟩;by_cases h:q<0∨L.length-1-0<q
 ·exfalso;omega
 ·rw[if_neg h]
theorem Bi{L A:List Nat}{i a b:Nat}(h:EP L A i)(hi:i<L.length-1-i)(ha:A[i]? = some a)(hb:A[L.length-1-i]? = some b):EP L ((A.set i b).set (L.length-1-i) a) (i+1):=by
 obtain⟨h1,h2,h3⟩:=h;refine⟨by simp[h1],by omega,fun q hq=>?_⟩;have ea:=h3 i (by omega);rw[ha,if_neg (by omega)] at ea;have eb:=h3 (L.length-1-i) (by omega);rw[hb,if_neg (by omega)] at eb;rw[List.getElem?_set,List.length_set];by_cases e1:L.length-1-i=q
 ·rw[if_pos e1,if_pos (by omega),if_pos (by omega),← e1,ea];congr 1;omega
 ·rw[if_neg e1,List.getElem?_set];by_cases e2:i=q
  ·rw[if_pos e2,if_pos (by omega),if_pos (by omega),← e2,eb]
  ·rw[if_neg e2,h3 q hq];by_cases e3:q<i∨L.length-1-i<q
   ·rw[if_pos e3,if_pos (by omega)]
   ·rw[if_neg e3,if_neg (by omega)]
theorem Cp{L A:List Nat}{i:Nat}(h:EP L A i)(hi:¬i<L.length-1-i):A=L.reverse:=by
 obtain⟨h1,h2,h3⟩:=h;apply List.ext_getElem?;intro q;by_cases hq:q<L.length
 ·rw[h3 q hq,List.getElem?_reverse hq];by_cases e:q<i∨L.length-1-i<q
  ·rw[if_pos e]
  ·rw[if_neg e];congr 1;omega
 ·rw[ZD (by omega),ZD (by simp;omega)]
theorem eK{A:List Nat}{q a:Nat}(h:A[q]? = some a):bg (A.map nI) (0+q*1) 1=some [nI a]:=by
 rw[ZB,Nat.mul_one];exact nk (by rw[ZK,h];rfl)
theorem xz{A:List Nat}{q a:Nat}(h:q<A.length):aT (A.map nI) (0+q*1) [nI a]=(A.set q a).map nI:=by
 rw[ZB,Nat.mul_one,qf (by simpa using h),List.map_set]
theorem IU{hk:List (aK Ar)}(hh:ab hk 99=none){T k n:Nat}{L:List Nat}(hL:L.length<1000)(hn:1000≤n)(hlk:aa k tbl=some (.grown 1 T (L.map nI))) :
  ∃v h',RF1 hk (n+1) 99 [.slice (some ⟨k,0,none⟩) L.length L.length] ⟨tbl,nx⟩=some (v,h')∧(v = .tuple ⟨[]⟩∧h'.tbl=upd k (.grown 1 T (L.reverse.map nI)) tbl∧nx≤h'.next):=by
 refine aG hh Eg (zL rfl) ?_;dsimp only[wg,aM];refine sQ (WO.mv rfl (WO.len rfl (WO.sub rfl rfl (by simp only[zO];omega) (by simp only[zO];omega) (WO.mv rfl (WO.mv rfl (nZ (WC.block ?_)))))));refine WC.loop (fun j e tbl' nx'=>∃i A,i+j=999∧e 0=some (.slice (some ⟨k,0,none⟩) L.length L.length)∧e 2=some (.int .i64 (Int.ofNat i))∧e 3=some (.int .i64 (Int.ofNat L.length-1-Int.ofNat i))∧EP L A i∧tbl'=upd k (.grown 1 T (A.map nI)) tbl∧nx≤nx') (k:=999) (by omega)
  ⟨0,L,rfl,rfl,rfl,by show some (Value.int .i64 _)=_;congr 2;simp,CN L,(iV hlk).symm,Ze _⟩ ?_
 rintro j e tbl' nx' ⟨i,A,hj,e0,e2,e3,hA,rfl,hnx⟩;dsimp only at e0 e2 e3;have hl':aa k (upd k (AObj.grown 1 T (A.map nI)) tbl)=some (.grown 1 T (A.map nI)):=zS hlk;refine WC.seq (sQ (WO.mv e2 (WO.mv e3 (WO.j rfl rfl (fun hz=>?_) (fun hz=>?_)))))
 ·have hz':i<L.length-1-i:=by simp only[zO] at hz;omega
  obtain⟨h1,h2,h3⟩:=hA;have hji:(Int.ofNat L.length-1-Int.ofNat i:Int)=Int.ofNat (L.length-1-i):=by simp only[zO];omega
  obtain⟨a,ha⟩:∃a,A[i]? = some a:=⟨A[i]'(by omega),Zm _⟩;obtain⟨b,hb⟩:∃b,A[L.length-1-i]? = some b:=⟨A[L.length-1-i]'(by omega),Zm _⟩;have lb:∀n,(⟨[],upd k (AObj.grown 1 T (A.map nI)) tbl,n⟩:Mem Ar).load ⟨k,0+(L.length-1-i)*1,none⟩ 1=some [nI b]:=fun n=>ae hl' rfl (eK hb)
  have la:∀n,(⟨[],upd k (AObj.grown 1 T (A.map nI)) tbl,n⟩:Mem Ar).load ⟨k,0+i*1,none⟩ 1=some [nI a]:=fun n=>ae hl' rfl (eK ha)
  have s1:∀n,(⟨[],upd k (AObj.grown 1 T (A.map nI)) tbl,n⟩:Mem Ar).store ⟨k,0+i*1,none⟩ [nI b]=some ⟨[],upd k (.grown 1 T ((A.set i b).map nI)) tbl,n⟩:=fun n=>by
   have:=ba (nx:=n) (vs:=[nI b]) (o:=0+i*1) (ob':=.grown 1 T (aT (A.map nI) (0+i*1) [nI b])) hl' rfl (by simp only[List.length_map,List.length_singleton];omega) rfl;rw[xz (by omega),mT] at this;exact this
  have hl2:aa k (upd k (AObj.grown 1 T ((A.set i b).map nI)) tbl)=some (.grown 1 T ((A.set i b).map nI)):=zS hlk;have s2:∀n,(⟨[],upd k (AObj.grown 1 T ((A.set i b).map nI)) tbl,n⟩:Mem Ar).store ⟨k,0+(L.length-1-i)*1,none⟩ [nI a]=some ⟨[],upd k (.grown 1 T (((A.set i b).set (L.length-1-i) a).map nI)) tbl,n⟩:=fun n=>by
   have:=ba (nx:=n) (vs:=[nI a]) (o:=0+(L.length-1-i)*1) (ob':=.grown 1 T (aT ((A.set i b).map nI) (0+(L.length-1-i)*1) [nI a])) hl2 rfl (by simp only[List.length_map,List.length_singleton,List.length_set];omega) rfl;rw[xz (by rw[List.length_set];omega),mT] at this;exact this
  refine nZ (WC.cond_true rfl (WC.skip (zN (WC.seq (WC.block (WC.a ?_))))));refine WD.pure (az e0 rfl rfl) (WD.pure (az e2 rfl rfl) (WD.pure (az e0 rfl rfl) (WD.pure (az e3 rfl rfl) (WD.pure (az e0 rfl rfl) (WD.pure (az e3 rfl rfl) (WD.pure (dF rfl rfl hji (by omega)) (WD.load rfl (lb _) rfl ?_)))))));refine WD.pure (az e0 rfl rfl) (WD.pure (az e2 rfl rfl) (WD.pure (dF rfl rfl rfl (by omega)) (WD.load rfl (la _) rfl ?_)));refine WD.pure (dF rfl rfl rfl (by omega)) (WD.chn rfl rfl rfl (aJ rfl rfl rfl rfl (s1 _)) ?_);refine WD.pure (dF rfl rfl hji (by omega)) (WD.chn rfl rfl rfl (aJ rfl rfl rfl rfl (s2 _)) (WD.nil ⟨?_,_,_,rfl,?_⟩))
  ·simp only[bi,bn,la,lb,eI];rfl
  ·refine zB (zN (WC.ops ?_));refine WO.mv e2 (WO.add rfl rfl (by simp only[zO];omega) (by simp only[zO];omega) (WO.mv e3 (WO.sub rfl rfl (by simp only[zO];omega) (by simp only[zO];omega) (WO.mv rfl (WO.mv rfl (WO.nil ?_))))));exact⟨j-1,by omega,rfl,i+1,_,by omega,e0,rfl,by show some (Value.int .i64 _)=_;congr 2;simp only[zO];omega,Bi ⟨h1,h2,h3⟩ hz' ha hb,rfl,ZE hnx (Zn _ _)⟩
 ·have hz':¬i<L.length-1-i:=by simp only[zO] at hz;omega
  refine nZ (WC.cond_false rfl (WC.exit (aR (aI ?_))));exact⟨_,_,rfl,rfl,rfl,by rw[Cp hA hz'];rfl,hnx⟩
end Go.AI
namespace Go.AI
open Go.Proofs
open Go.Fo (Wd Un Pre)
variable {W0:World}{Cls:Nat→Int→Prop}{x:Ar}{S:List Nat}{rr rb:List Value}{tbl:LO}{nx:Nat}
open Classical in
def u9(S:List Nat):qx
 |x,[.agg ⟨[.pointer (some ⟨2,0,none⟩)]⟩,.int .i64 (.ofNat a)]=>if TW x S∧a∈S then some (Pre S (dx x S) a).reverse else none
 |_,_=>none
theorem TW.down(h:TW x S){a:Nat}(ha:a∈S):nE S x [trC,vI a]=some (Pre S (dx x S) a):=by
 have hc:TW x S∧a∈S:=⟨h,ha⟩;simp only[nE,if_pos hc]
theorem TW.up(h:TW x S){a:Nat}(ha:a∈S):u9 S x [trC,vI a]=some (Pre S (dx x S) a).reverse:=by
 have hc:TW x S∧a∈S:=⟨h,ha⟩;simp only[u9,if_pos hc]
theorem DC{T:Nat}{spec:qx}{vs:List Value}{l:List Nat}(H:Hs tbl x rr rb)(C:Can rr rb)(hx:x.refuse<9223372036854775808)(h1:eq vs=some 2)(h2:fZ ⟨0,1,2⟩ vs=some vs)(hs:spec x vs=some l):pg T spec vs ⟨tbl,nx⟩=some (yz T ⟨tbl,nx⟩ l) :=
 DX (q:=⟨0,1,2⟩) (qP h1 H.l2 H.l1 H.l0 (by decide)) hx h2 C.r C.b hs
section
variable {F:Nat→Option IFn}{cl:Nat→Bool}{hk:dS Ar}{n:Nat}{K:LV→Mem Ar→Prop}{env:LV}{l:List (Option (Nat×Bool)×IOp)}
theorem WO.row{d:Option Nat}{f:Opd}{xs:List Opd}{kf T:Nat}{vs:List Value}{spec:qx}{y:Nat}{ys:List Nat}(H:Hs tbl x rr rb)(C:Can rr rb)(hx:x.refuse<9223372036854775808)
  (hs:spec x vs=some (y::ys)) (hf:evo env f=some (.func (.func kf) #[] #[])) (hxs:evs env xs=some vs) (hh:hk kf=some (pg T spec)) (h1:eq vs=some 2) (h2:fZ ⟨0,1,2⟩ vs=some vs)
  (k:WO (run F cl hk (n+1)) l (bD d (.slice (some ⟨nx,0,none⟩) (y::ys).length (y::ys).length) env) ⟨[],(nx,.grown 1 T ((y::ys).map nI))::tbl,nx+1⟩ K):WO (run F cl hk (n+1)) ((none,.call d f xs)::l) env ⟨[],tbl,nx⟩ K:=by
 refine .BY (v:=.slice (some ⟨nx,0,none⟩) (y::ys).length (y::ys).length) (h:=⟨(nx,.grown 1 T ((y::ys).map nI))::tbl,nx+1⟩) hf hxs ?_ k;have he:vs++(#[]:Array Value).toList=vs:=List.append_nil vs;rw[he,fQ hh,DC H C hx h1 h2 hs];rfl
end
theorem cw{α:Type}{k:Nat}{y z:α}{l:List (Nat×α)}:upd k z ((k,y)::l)=(k,z)::l:=by
 unfold upd;rw[Nat.beq_refl];rfl
theorem Ky(hS:S.length<900)(h:TW x S)(C:Can rr rb){a:Nat}(ha:a∈S) :
  ∃v h',RF1 (hT4 S) 1003 63 [trC,vI a] ⟨sm3 x rr rb,3⟩=some (v,h')∧(za 3 h'.tbl v (Pre S (dx x S) a).reverse∧Hs h'.tbl x rr rb):=by
 have I:=ft h;have hlen:=h.QY ha;have hd:=h.down ha;have H0:Hs ((3,AObj.cells [pR])::sm3 x rr rb) x rr rb:=Hs.sm.cons (by decide);have hb3:aa 3 ((3,AObj.cells [pR])::sm3 x rr rb)=some (.cells [pR]):=rfl;obtain⟨y,ys,hp⟩:∃y ys,Pre S (dx x S) a=y::ys:=⟨_,_,I.OF ha⟩;rw[hp] at hd hlen ⊢;refine aG rfl fUp (zL rfl) ?_;dsimp only[iUp,aM];refine sQ (WO.box rfl rfl (WO.mv rfl (nZ (sQ ?_))));refine WO.load rfl hb3 rfl rfl rfl (WO.mv rfl (WO.row H0 C h.ref hd rfl rfl rfl rfl rfl (WO.mv rfl (nZ (sQ (WO.mv rfl ?_))))));have hlk:aa 4 ((4,AObj.grown 1 3 ((y::ys).map nI))::(3,AObj.cells [pR])::sm3 x rr rb)=some (.grown 1 3 ((y::ys).map nI)):=rfl;refine WO.a (vs:=[.slice (some ⟨4,0,none⟩) (y::ys).length (y::ys).length]) rfl rfl (IU (hk:=hT4 S) rfl (nx:=5) (n:=1001) (by omega) (by decide) hlk) ?_;rintro v h' ⟨rfl,ht,_⟩;rw[cw] at ht;rw[ht];refine nZ (sQ (WO.mv rfl (WO.mv rfl (nZ (WC.ret ?_)))));refine⟨_,_,rfl,rfl,?_,H0.cons (by decide)⟩;cases hr:(y::ys).reverse with
 |nil=>simp at hr
 |cons z zs =>
  have hl:(y::ys).length=(z::zs).length:=by rw[← hr,List.length_reverse]
  refine⟨4,by decide,by rw[← hl],rfl⟩
theorem PS(hS:S.length<900){vs:List Value}{l:List Nat}(C:Can rr rb)(hs:u9 S x vs=some l):∃t n v,RF1 (hT4 S) 1003 63 vs ⟨sm3 x rr rb,3⟩=some (v,⟨t,n⟩)∧aa 0 t=some (.ext x)∧aa 1 t=some (.cells (pA::rb))∧aa 2 t=some (.cells (pB::rr))∧za 3 t v l:=by
 unfold u9 at hs;split at hs
 ·rename_i a;split at hs
  ·rename_i hc;injection hs with hs;subst hs;obtain⟨v,h',h1,h2,H⟩:=Ky (rr:=rr) (rb:=rb) hS hc.1 C hc.2;exact⟨h'.tbl,h'.next,v,h1,H.l0,H.l1,H.l2,h2⟩
  ·cases hs
 ·cases hs
def hT5(S:List Nat):List (aK Ar):=(63,pg 3 (u9 S))::hT4 S
theorem Mo(hS:S.length<900):∀y∈hT5 S,aQ (a8 Cls) PZ W0 y.1 y.2 :=
 bk (E:=(a8 Cls)) (Ef hS) (xj (wU (Ef hS) 1003) (fun _ _ _ _ _ _ h1 h2 hs=>PS hS ⟨h1,h2⟩ hs))
end Go.AI
namespace Go.AI
open Go.Proofs
open Go.Fo (Wd Un Pre up)
variable {x:Ar}{S:List Nat}{lm ow sm:Nat→Nat}
theorem Cr{a b o v:Nat}(ha:NodeAt x a)(hb:NodeAt x b)(h1:40≤o)(h2:o+8≤136):NodeAt (stw x (b+o) v) a:=by
 obtain⟨⟨p,P,rfl,hp⟩,ok⟩:=ha;obtain⟨q,Q,rfl,hq⟩:=hb.page;obtain⟨R,hR⟩:=sX (v:=v) (o:=o) hp hq (by omega);refine⟨⟨p,R,rfl,hR⟩,?_⟩;have other:∀{off k:Nat},off+k≤40∨136≤off→off+k≤4096→da k=true→0<k→de (stw x (4096*q+o) v) (.ofNat (4096*p+off)) (.ofNat k)=de x (.ofNat (4096*p+off)) (.ofNat k) :=
  fun h3 h4 hk hk0=>rk hq (by omega) hp h4 hk hk0 (.inr (by omega))
 have b0:bA x (.ofNat (4096*p)) (.ofNat 32)=0:=kS (off:=0) hp (by omega);have b1:bA (stw x (4096*q+o) v) (.ofNat (4096*p)) (.ofNat 32)=0:=kS (off:=0) hR (by omega);have l1:=other (off:=0) (k:=4) (by omega) (by omega) rfl (by omega);have l2:=other (off:=4) (k:=4) (by omega) (by omega) rfl (by omega);have l3:=other (off:=8) (k:=8) (by omega) (by omega) rfl (by omega);have l4:=other (off:=16) (k:=8) (by omega) (by omega) rfl (by omega);have l5:=other (off:=136) (k:=8) (by omega) (by omega) rfl (by omega);have l6:=other (off:=32) (k:=8) (by omega) (by omega) rfl (by omega);simp only[dX,b0,ckO,ckN,ndE,ckW] at ok;simp only[dX,b1,ckO,ckN,ndE,ckW,l1,l2,l3,l4,l5,l6];exact ok
structure Lx(x:Ar)(S:List Nat)(lm ow sm:Nat→Nat):Prop where
 nds:Nds x S
 l:∀a,a∈S→wd x (a+80)=lm a
 o:∀a,a∈S→wd x (a+88)=ow a
 s:∀a,a∈S→wd x (a+96)=sm a
theorem Lx.stw(h:Lx x S lm ow sm){b o v:Nat}(hb:b∈S)(h1:40≤o)(h2:o+8≤80):Lx (AI.stw x (b+o) v) S lm ow sm:=by
 have hn:=h.nds.node;exact⟨h.nds.stw hb h1 h2,fun a ha=>(mh (hn a ha) (hn b hb) (by omega) (by decide) (by omega)).trans (h.l a ha),fun a ha=>(mh (hn a ha) (hn b hb) (by omega) (by decide) (by omega)).trans (h.o a ha),fun a ha=>(mh (hn a ha) (hn b hb) (by omega) (by decide) (by omega)).trans (h.s a ha)⟩
theorem Lx.addX(h:Lx x S lm ow sm){p c:Nat}(hp:p∈S)(hc:c∈S)(hl:InS S (wd x (p+56))):Lx (addX x p c) S lm ow sm:=by
 have n4:=(((h.stw (v:=p) hc (o:=40) (by decide) (by decide)).stw (v:=wd x (p+56)) hc (o:=72) (by decide) (by decide)).stw (v:=0) hc (o:=64) (by decide) (by decide)).stw (v:=c) hp (o:=56) (by decide) (by decide);unfold AI.addX;dsimp only;by_cases e:wd x (p+56)=0
 ·rw[if_pos e];exact n4.stw hp (by decide) (by decide)
 ·rw[if_neg e];exact n4.stw (hl.resolve_left e) (by decide) (by decide)
theorem Lx.cutX(h:Lx x S lm ow sm){c:Nat}(hc:c∈S)(hp:wd x (c+40)∈S)(hv:InS S (wd x (c+72)))(hn:InS S (wd x (c+64))):Lx (cutX x c) S lm ow sm:=by
 have tail:∀{y:Ar},Lx y S lm ow sm→Lx (AI.stw (AI.stw (AI.stw y (c+40) 0) (c+72) 0) (c+64) 0) S lm ow sm:=fun hy=>((hy.stw hc (by decide) (by decide)).stw hc (by decide) (by decide)).stw hc (by decide) (by decide)
 unfold AI.cutX;dsimp only;refine tail ?_;have h1:Lx (if wd x (c+72)=0 then AI.stw x (wd x (c+40)+48) (wd x (c+64)) else AI.stw x (wd x (c+72)+64) (wd x (c+64))) S lm ow sm:=by
  split
  ·exact h.stw hp (by decide) (by decide)
  ·rename_i e;exact h.stw (hv.resolve_left e) (by decide) (by decide)
 split
 ·exact h1.stw hp (by decide) (by decide)
 ·rename_i e;exact h1.stw (hn.resolve_left e) (by decide) (by decide)
theorem Nds.stw2(h:Nds x S){b o v:Nat}(hb:b∈S)(h1:40≤o)(h2:o+8≤136):Nds (AI.stw x (b+o) v) S:=by
 refine⟨?_,fun a ha=>Cr (h.node a ha) (h.node b hb) h1 h2⟩;obtain⟨q,Q,e,hq⟩:=(h.node b hb).page;rw[e,qm hq (by omega)];exact h.ref
theorem Ff(h:Nds x S){b o v:Nat}(hb:b∈S)(h1:80≤o)(h2:o+8≤136):wds (AI.stw x (b+o) v) S=wds x S:=by
 have k:∀o',o'+8≤80→wdS (AI.stw x (b+o) v) S o'=wdS x S o':=fun o' h3=>bG h.node hb (by omega) (by omega) (by omega)
 simp only[wds,k 40 (by decide),k 48 (by decide),k 56 (by decide),k 64 (by decide),k 72 (by decide)]
theorem TW.stw2(h:TW x S){b o v:Nat}(hb:b∈S)(h1:80≤o)(h2:o+8≤136):TW (AI.stw x (b+o) v) S:=by
 have e:=Ff (v:=v) h.nds hb h1 h2;have n:=h.nds.stw2 (v:=v) hb (ZE (by decide) h1) h2;obtain⟨d,I⟩:=h.inv;exact TW.of n.ref h.small n.node (d:=d) (kids:=dx x S) (by rw[e];exact I)
structure LW(x:Ar)(S:List Nat)(lm ow sm:Nat→Nat):Prop where
 tw:TW x S
 lx:Lx x S lm ow sm
theorem OM{f:Nat→Nat}{b v a:Nat}:up f b v a=if a=b then v else f a:=rfl
theorem LW.set{b v o:Nat}{lm' ow' sm':Nat→Nat}(h:LW x S lm ow sm)(hb:b∈S)(hv:v<18446744073709551616)
  (hc:o=80∧lm'=up lm b v∧ow'=ow∧sm'=sm∨o=88∧lm'=lm∧ow'=up ow b v∧sm'=sm∨o=96∧lm'=lm∧ow'=ow∧sm'=up sm b v):LW (AI.stw x (b+o) v) S lm' ow' sm'∧wds (AI.stw x (b+o) v) S=wds x S:=by
 have hn:=h.lx.nds.node;have h1:80≤o∧o≤96:=by omega
 have key:∀{f:Nat→Nat} {o':Nat},(∀a,a∈S→wd x (a+o')=f a)→(o'=80∨o'=88∨o'=96)→o'=o→∀a,a∈S→wd (AI.stw x (b+o) v) (a+o')=up f b v a:=by
  intro f o' hf ho e a ha;subst e;rw[OM];by_cases e:a=b
  ·subst e;rw[if_pos rfl];exact As (hn a ha) (by omega) hv
  ·rw[if_neg e];exact(mh (hn a ha) (hn b hb) (by omega) (by omega) (.inl e)).trans (hf a ha)
 have oth:∀{f:Nat→Nat} {o':Nat},(∀a,a∈S→wd x (a+o')=f a)→(o'=80∨o'=88∨o'=96)→(o'+8≤o∨o+8≤o')→∀a,a∈S→wd (AI.stw x (b+o) v) (a+o')=f a :=
  fun hf ho hd a ha=>(mh (hn a ha) (hn b hb) (by omega) (by omega) (.inr hd)).trans (hf a ha)
 refine⟨⟨h.tw.stw2 hb h1.1 (by omega),h.lx.nds.stw2 hb (by omega) (by omega),?_,?_,?_⟩,Ff h.lx.nds hb h1.1 (by omega)⟩
 ·rcases hc with⟨rfl,rfl,_,_⟩|⟨rfl,rfl,_,_⟩|⟨rfl,rfl,_,_⟩
  ·exact key h.lx.l (by omega) rfl
  ·exact oth h.lx.l (by omega) (by omega)
  ·exact oth h.lx.l (by omega) (by omega)
 ·rcases hc with⟨rfl,_,rfl,_⟩|⟨rfl,_,rfl,_⟩|⟨rfl,_,rfl,_⟩
  ·exact oth h.lx.o (by omega) (by omega)
  ·exact key h.lx.o (by omega) rfl
  ·exact oth h.lx.o (by omega) (by omega)
 ·rcases hc with⟨rfl,_,_,rfl⟩|⟨rfl,_,_,rfl⟩|⟨rfl,_,_,rfl⟩
  ·exact oth h.lx.s (by omega) (by omega)
  ·exact oth h.lx.s (by omega) (by omega)
  ·exact key h.lx.s (by omega) rfl
theorem LW.add(h:LW x S lm ow sm){p c:Nat}(hp:p∈S)(hc:c∈S)(h0:wd x (c+40)=0)(hu:¬Un (wds x S) c p):LW (addX x p c) S lm ow sm∧wds (addX x p c) S=Go.Fo.addW (wds x S) p c:=by
 have e1:(wds x S).lst p=wd x (p+56):=cf hp;obtain⟨d,I⟩:=h.tw.inv;have hl:=mj I hp;rw[e1] at hl;obtain⟨q1,q2⟩:=h.tw.add hp hc h0 hu;exact⟨⟨q2,h.lx.addX hp hc hl⟩,q1⟩
theorem LW.cut(h:LW x S lm ow sm){c:Nat}(hc:c∈S)(h0:wd x (c+40)≠0):LW (cutX x c) S lm ow sm∧wds (cutX x c) S=Go.Fo.cutW (wds x S) c:=by
 obtain⟨d,I⟩:=h.tw.inv;have e0:(wds x S).par c=wd x (c+40):=cf hc;have e1:(wds x S).nxt c=wd x (c+64):=cf hc;have e2:(wds x S).prv c=wd x (c+72):=cf hc;have hp:=(I.par c hc (by rw[e0];exact h0)).1;obtain⟨q1,q2⟩:=ju I hc (by rw[e0];exact h0);rw[e0] at hp;rw[e1] at q1;rw[e2] at q2;obtain⟨q3,q4⟩:=h.tw.cut hc h0;exact⟨⟨q4,h.lx.cutX hc hp q2 q1⟩,q3⟩
end Go.AI
