/- The document's book of charges: where a node stands in it; a sum: the walks. What its numbers are is of no account. -/
import Derived.Test.YtohdfkipbgnkoaaGreatDoorKRf
import Derived.Test.YtohdfkipbgnkoaaGreatDoorKCa
import Derived.Test.YtohdfkipbgnkoaaGreatDoorKIf
set_option maxRecDepth 4000
namespace Go.AI
open Go.Proofs
open Go.Fo (Wd Un Pre)
variable {tbl t' t'':LO}{nx n' n'' lo:Nat}{w:Wd}{S:List Nat}{kids:Nat→List Nat}{d:Nat→Nat}
def IRow(t:LO)(n:Nat)(v:Value)(m:Nat):Prop:=∃(k:Nat) (zs:List Int),zs.length=m∧k<n∧v = .slice (some ⟨k,0,none⟩) m m∧(aa k t=some (.grown 1 3 (zs.map fun z=>.int .i64 z))∨aa k t=some (.cells (zs.map fun z=>.int .i64 z)))
theorem IRow.kp{v:Value}{m:Nat}(h:IRow tbl nx v m)(K:Kp tbl nx t' n'):IRow t' n' v m:=by
 obtain⟨k,zs,h1,h2,h3,h4⟩:=h;exact⟨k,zs,h1,Zj h2 K.1,h3,h4.imp (fun q=>(K.2 k h2).trans q) fun q=>(K.2 k h2).trans q⟩
theorem IRow.at{v:Value}{m i:Nat}(h:IRow tbl nx v m)(hi:i<m):∃k z,v = .slice (some ⟨k,0,none⟩) m m∧k<nx∧∀(t':LO) (n':Nat),Kp tbl nx t' n'→(⟨[],t',n'⟩:Mem Ar).load ⟨k,0+i*1,none⟩ 1=some [.int .i64 z]:=by
 obtain⟨k,zs,rfl,h2,h3,h4⟩:=h;obtain⟨z,hz⟩:∃z,zs[i]? = some z:=⟨zs[i],Zm hi⟩;have ht:bg (zs.map fun z=>Value.int .i64 z) (0+i*1) 1=some [.int .i64 z]:=by
  rw[ZB,Nat.mul_one];exact nk (by rw[ZK,hz];rfl)
 refine⟨k,z,h3,h2,fun t' n' K=>?_⟩;rcases h4 with q|q
 ·exact ae ((K.2 k h2).trans q) rfl ht
 ·exact ae ((K.2 k h2).trans q) rfl ht
def Bv(t:LO)(n:Nat)(l:List Value)(w:Wd)(S:List Nat)(kids:Nat→List Nat):Prop:=∃vN vO vL,l=[vN,vO,vL]∧Bk 0 t n vN (bL w S kids)∧IRow t n vO S.length∧IRow t n vL S.length
theorem Bv.kp{l:List Value}(h:Bv tbl nx l w S kids)(K:Kp tbl nx t' n'):Bv t' n' l w S kids:=by
 obtain⟨vN,vO,vL,h1,h2,h3,h4⟩:=h;exact⟨vN,vO,vL,h1,h2.kp K,h3.kp K,h4.kp K⟩
theorem nj{hk:List (aK Ar)}(hh:ab hk 48=none)(hS:S.length<800)(hnd:S.Nodup){n a:Nat}{l:List Value}(hn:1001≤n)(BV:Bv tbl nx l w S kids)(ha:a∈S) :
  ∃u h',RF1 hk (n+1) 48 [.agg ⟨l⟩,vI a] ⟨tbl,nx⟩=some (u,h')∧((∃i,i<S.length∧u=vI i)∧Kp tbl nx h'.tbl h'.next):=by
 obtain⟨vN,vO,vL,rfl,B,_,_⟩:=BV;obtain⟨i,hi,hf⟩:=iw (w:=w) (kids:=kids) hnd ha;obtain⟨k,M,_,hk1,rfl,hk2,hM⟩:=B;have hil:i<(bL w S kids).length:=(List.getElem?_eq_some_iff.1 hi).1;have hNl:(bL w S kids).length=S.length:=dv;refine aG hh P5 (zL rfl) ?_;dsimp only[NI,aM];have hb0:aa nx ((nx,AObj.cells [.slice (some ⟨k,0,none⟩) (bL w S kids).length (bL w S kids).length,vO,vL])::tbl)=some (.cells [.slice (some ⟨k,0,none⟩) (bL w S kids).length (bL w S kids).length,vO,vL]):=by rw[zC,if_pos rfl]
 have Kb:Kp tbl nx ((nx,AObj.cells [.slice (some ⟨k,0,none⟩) (bL w S kids).length (bL w S kids).length,vO,vL])::tbl) (nx+1):=Kp.refl.cons (Ze _) (Zo _);refine sQ (WO.box rfl rfl (WO.mv rfl (nZ (WC.seq (sQ ?_)))));generalize ht0:((nx,AObj.cells [.slice (some ⟨k,0,none⟩) (bL w S kids).length (bL w S kids).length,vO,vL])::tbl)=t0 at hb0 Kb ⊢;refine WO.fadd rfl (WO.load (v:=.slice (some ⟨k,0,none⟩) (bL w S kids).length (bL w S kids).length) rfl hb0 rfl rfl rfl (WO.len rfl (WO.mv rfl (nZ (WC.block ?_)))));refine WC.loop (fun j e tbl' nx'=>∃q,q+j=i∧e 1=some (vI a)∧e 8=some (.slice (some ⟨k,0,none⟩) (bL w S kids).length (bL w S kids).length)∧e 9=some (.int .i64 (Int.ofNat (bL w S kids).length))∧e 10=some (.int .i64 (Int.ofNat q))∧Kp t0 (nx+1) tbl' nx') (k:=i) (by omega)
  ⟨0,by omega,rfl,rfl,rfl,rfl,Kp.refl⟩ ?_
 rintro j e tbl' nx' ⟨q,hj,e1,e7,e8,e9,hK⟩;dsimp only at e1 e7 e8 e9;have hq:q<(bL w S kids).length:=by omega
 refine sQ (WO.j e9 e8 (fun hz=>?_) (fun hz=>absurd (by simp only[zO];omega) hz));obtain⟨z,hz'⟩:∃z,(bL w S kids)[q]? = some z:=⟨(bL w S kids)[q],Zm hq⟩;obtain⟨m,hm,r1,r2,r3⟩:=gh hM hz';have hlk:aa k tbl'=some (.grown 3 78 (bE M)):=(hK.2 k (by omega)).trans ((Kb.2 k hk1).trans hk2);have htk:bg (bE M) (0+q*3) 3=some (ak m):=by rw[ZB];exact dQ hm
 refine nZ (WC.seq (WC.cond_true rfl (WC.skip (zN (WC.seq (WC.block (sQ (WO.mv e9 (WO.idxL e7 e9 rfl hq ?_)))))))));refine WO.load (v:=.agg ⟨ak m⟩) rfl hlk rfl htk rfl (WO.new (WO.mv rfl (WO.step (i:=.store 3 (.t 6) (.t 14)) (v:=undef) (m':=⟨[],(nx',.cells (ak m))::tbl',nx'+1⟩) ?_ ?_)))
 ·have hs:=ba (nx:=nx'+1) (vs:=ak m) (o:=0) (ob':=.cells (aT [i0 0,i0 0,.slice none 0 0] 0 (ak m))) (tbl:=(nx',.cells [i0 0,i0 0,.slice none 0 0])::tbl') (i:=nx') (by rw[zC,if_pos rfl]) rfl (zL rfl) rfl;rw[cw] at hs;exact aJ rfl rfl rfl rfl hs
 have hln:aa nx' ((nx',AObj.cells (ak m))::tbl')=some (.cells (ak m)):=by rw[zC,if_pos rfl]
 have hK':Kp t0 (nx+1) ((nx',AObj.cells (ak m))::tbl') (nx'+1):=hK.cons hK.1 (Zo _);refine nZ (sQ (WO.fadd rfl (WO.load (v:=nI m.1) rfl hln rfl rfl rfl (WO.mv e1 (WO.p rfl rfl (fun he=>?_) (fun he=>?_))))))
 ·refine nZ (WC.cond_true rfl (sQ (WO.mv rfl (WO.mv rfl (nZ (WC.ret ?_))))));exact a9 (aB (a9 (aB ⟨_,_,rfl,rfl,⟨q,by omega,rfl⟩,Kb.trans hK'⟩)))
 ·have hqi:q≠i:=fun h=>by
   subst h;rw[hi] at hz';injection hz' with hz';subst hz';exact he (by rw[r1])
  refine nZ (WC.cond_false rfl (WC.skip (zB (zN (WC.ops ?_)))));refine WO.add e9 rfl (by simp only[zO];omega) (by simp only[zO];omega) (WO.mv rfl (WO.nil ?_));exact⟨j-1,by omega,rfl,q+1,by omega,e1,e7,e8,rfl,hK'⟩
end Go.AI
namespace Go.AI
open Go.Proofs
open Go.Fo (Wd Un Pre)
variable {tbl t' t'':LO}{nx n' n'' lo:Nat}{w:Wd}{S:List Nat}{kids:Nat→List Nat}{d:Nat→Nat}
structure DHk(hk:List (aK Ar)):Prop where
 r19:NoHk hk
 gat:ab hk 48=none
 gsum:ab hk 46=none
 gfits:ab hk 50=none
 gwith:ab hk 47=none
 gadd:ab hk 21=none
 gcut:ab hk 23=none
 gmove:ab hk 24=none
 gsetl:ab hk 20=none
 gchg:ab hk 25=none
theorem ud{env:LV}{e:EqK}{x y:Opd}{a b:Int}(hx:evo env x=some (.int .i64 a))(hy:evo env y=some (.int .i64 b)):aw env (.bin .add e x y)=some (.int .i64 (ai .i64 (a+b))):=by
 simp only[aw,hx,hy,bu,bF,if_true]
theorem xi{k m m':Nat}:ceq (.slice (some ⟨k,0,none⟩) m m') (.slice (some ⟨k,0,none⟩) m m')=true:=by simp[ceq]
theorem Bv.ceq{l:List Value}(h:Bv tbl nx l w S kids):dC l l=true:=by
 obtain⟨vN,vO,vL,rfl,⟨k,M,_,_,rfl,_⟩,⟨_,_,_,_,rfl,_⟩,⟨_,_,_,_,rfl,_⟩⟩:=h;simp only[dC,xi,Bool.and_self]
theorem IRow.ceq{v:Value}{m:Nat}(h:IRow tbl nx v m):dC [v] [v]=true:=by
 obtain⟨_,_,_,_,rfl,_⟩:=h;simp only[dC,xi,Bool.and_self]
theorem mF{hk:List (aK Ar)}(hh:DHk hk)(I:Go.Fo.Inv w S kids d)(hS:S.length<800)(hnd:S.Nodup){n a:Nat}{l:List Value}(hn:2001≤n)(BV:Bv tbl nx l w S kids)(ha:a∈S) :
  ∃u h',RF1 hk (n+2) 46 [.agg ⟨l⟩,vI a] ⟨tbl,nx⟩=some (u,h')∧((∃z,u = .int .i64 z)∧Kp tbl nx h'.tbl h'.next):=by
 obtain⟨vN,vO,vL,rfl,B,hO,hL⟩:=id BV;refine aG hh.gsum Nx (zL rfl) ?_;dsimp only[JE,aM];have hb0:aa nx ((nx,AObj.cells [vN,vO,vL])::tbl)=some (.cells [vN,vO,vL]):=by rw[zC,if_pos rfl]
 have Kb:Kp tbl nx ((nx,AObj.cells [vN,vO,vL])::tbl) (nx+1):=Kp.refl.cons (Ze _) (Zo _);refine sQ (WO.box rfl rfl (WO.mv rfl (nZ (sQ (WO.mv rfl (nZ (WC.seq (sQ ?_))))))));have B0:=B.kp Kb;have BV0:=BV.kp Kb;have hO0:=hO.kp Kb;generalize ht0:((nx,AObj.cells [vN,vO,vL])::tbl)=t0 at hb0 Kb B0 BV0 hO0 ⊢;refine WO.fadd rfl (WO.load (v:=vN) rfl hb0 rfl rfl rfl (WO.mv rfl ?_));refine WO.a (vs:=[vN,vI a]) rfl rfl (tn hh.r19 I hS hnd S.length n a t0 (nx+1) (by omega) (by omega) ha B0) ?_;rintro v3 ⟨t3,n3⟩ ⟨kv3,k3⟩;dsimp only at kv3 k3;have hpa:a∈Pre S kids a:=(I.Qx a ha a).2 ⟨ha,.refl⟩;obtain⟨q,q0,q1,_,rfl,hq⟩:=kv3.resolve_left fun z=>by rw[z.1] at hpa;cases hpa
 have hpl:=jx I ha;refine WO.len rfl (WO.mv rfl (nZ (WC.block ?_)));refine WC.loop (fun j e tb nb=>∃i z,i+j=(Pre S kids a).length∧e 2=some (.pointer (some ⟨nx,0,none⟩))∧e 5=some (.int .i64 z)∧e 11=some (.slice (some ⟨q,0,none⟩) (Pre S kids a).length (Pre S kids a).length)∧e 12=some (vI (Pre S kids a).length)∧e 13=some (vI i)∧Kp t3 n3 tb nb) (k:=(Pre S kids a).length) (by omega)
  ⟨0,0,by omega,rfl,rfl,rfl,rfl,rfl,Kp.refl⟩ ?_
 rintro j e tb nb ⟨i,z,hj,e2,e5,e11,e12,e13,hK⟩;dsimp only at e2 e5 e11 e12 e13;have K1:=k3.trans hK;have BV1:=BV0.kp K1;have hbx:aa nx tb=some (.cells [vN,vO,vL]):=(K1.2 nx (ZF _)).trans hb0;have hlq:aa q tb=some (.grown 1 3 ((Pre S kids a).map nI)):=(hK.2 q q1).trans hq;have g1:=K1.1;refine sQ (WO.j e13 e12 (fun hz=>?_) (fun hz=>?_))
 ·have hi:i<(Pre S kids a).length:=by simp only[zO] at hz;omega
  obtain⟨y,hy⟩:∃y,(Pre S kids a)[i]? = some y:=⟨(Pre S kids a)[i],Zm hi⟩;have hyS:y∈S:=((I.Qx a ha y).1 (ZJ hy)).1;refine nZ (WC.seq (WC.cond_true rfl (WC.skip (zN (WC.seq (WC.block (sQ ?_)))))));refine WO.idxL e11 e13 rfl hi (WO.load rfl hlq rfl (eK hy) rfl (WO.mv rfl (nZ (WC.a ?_))));have BV1':=BV1.kp (Kp.refl.up (Zn nb 10));obtain⟨u,⟨t4,n4⟩,hd1,⟨i4,hi4,rfl⟩,k4⟩:=nj (n:=n) hh.gat hS hnd (by omega) BV1' hyS;dsimp only at k4;have hO1:=hO0.kp (K1.trans ((Kp.refl.up (Zn nb 10)).trans k4));obtain⟨ko,zo,hvo,hko,hld⟩:=hO1.at hi4;have hbx4:aa nx t4=some (.cells [vN,vO,vL]):=(k4.2 nx (by omega)).trans hbx;have y1:∀m,(⟨[],tb,m⟩:Mem Ar).load ⟨nx,0+1,none⟩ 1=some [vO]:=fun m=>ae hbx rfl rfl
  have y2:(⟨[],t4,n4⟩:Mem Ar).load ⟨nx,0+1,none⟩ 1=some [vO]:=ae hbx4 rfl rfl;have y3:∀m,(⟨[],tb,m⟩:Mem Ar).load ⟨nx,0,none⟩ 3=some [vN,vO,vL]:=fun m=>ae hbx rfl rfl
  have y4:(⟨[],t4,n4⟩:Mem Ar).load ⟨nx,0,none⟩ 3=some [vN,vO,vL]:=ae hbx4 rfl rfl;have y5:=hld t4 n4 Kp.refl;have c1:=BV1.ceq;have c2:=hO1.ceq;have c3:dC [Value.int .i64 zo] [.int .i64 zo]=true:=eI _ _;refine WD.pure (az e5 rfl rfl) (WD.pure (ct (az e2 rfl rfl)) (WD.load (m:=⟨[],tb,nb+10⟩) (ms:=[]) (v:=vO) rfl (y1 _) rfl (WD.load (m:=⟨[],tb,nb+10⟩) (ms:=[]) (v:=.agg ⟨[vN,vO,vL]⟩) (az e2 rfl rfl) (y3 _) rfl (WD.pure rfl ?_))));refine WD.chn (m:=⟨[],tb,nb+10⟩) (m':=⟨[],t4,n4⟩) (v:=vI i4) rfl rfl rfl (aW (m:=⟨[],tb,nb+10⟩) (h:=⟨t4,n4⟩) (vs:=[.agg ⟨[vN,vO,vL]⟩,vI y]) rfl rfl hd1) ?_;subst hvo;refine WD.pure (dF rfl rfl rfl hi4) (WD.load (m:=⟨[],t4,n4⟩) (v:=.int .i64 zo) rfl y5 rfl (WD.pure (ud rfl rfl) (WD.pure rfl (WD.nil ⟨?_,_,_,rfl,?_⟩))))
  ·simp only[bi,bn,y1,y2,y3,y4,y5,c1,c2,c3];rfl
  refine zB (zN (WC.ops ?_));refine WO.add (m:=⟨[],t4,n4⟩) e13 rfl (by simp only[zO];omega) (by simp only[zO];omega) (WO.mv rfl (WO.nil ?_));exact⟨j-1,by omega,rfl,i+1,_,by omega,e2,rfl,e11,e12,rfl,hK.trans ((Kp.refl.up (Zn nb 10)).trans k4)⟩
 ·refine nZ (WC.seq (WC.cond_false rfl (WC.exit (aR (aI ?_)))));exact zN (sQ (WO.mv e5 (WO.mv rfl (nZ (WC.ret ⟨_,_,rfl,rfl,⟨z,rfl⟩,Kb.trans K1⟩)))))
end Go.AI
namespace Go.AI
open Go.Proofs
open Go.Fo (Wd Un Pre)
variable {tbl t' t'':LO}{nx n' n'' lo:Nat}{w:Wd}{S:List Nat}{kids:Nat→List Nat}{d:Nat→Nat}
theorem tm{hk:List (aK Ar)}(hh:DHk hk)(I:Go.Fo.Inv w S kids d)(hS:S.length<800)(hnd:S.Nodup){n a:Nat}{k:Int}{l:List Value}(hn:2001≤n)(BV:Bv tbl nx l w S kids)(ha:a∈S) :
  ∃u h',RF1 hk (n+3) 50 [.agg ⟨l⟩,vI a,.int .i64 k] ⟨tbl,nx⟩=some (u,h')∧((∃b,u = .bool b)∧Kp tbl nx h'.tbl h'.next):=by
 obtain⟨vN,vO,vL,rfl,B,hO,hL⟩:=id BV;refine aG hh.gfits Me (zL rfl) ?_;dsimp only[D4,aM];have hb0:aa nx ((nx,AObj.cells [vN,vO,vL])::tbl)=some (.cells [vN,vO,vL]):=by rw[zC,if_pos rfl]
 have Kb:Kp tbl nx ((nx,AObj.cells [vN,vO,vL])::tbl) (nx+1):=Kp.refl.cons (Ze _) (Zo _);refine sQ (WO.box rfl rfl (WO.mv rfl (nZ (WC.seq (sQ (WO.mv rfl ?_))))));have B0:=B.kp Kb;have BV0:=BV.kp Kb;have hL0:=hL.kp Kb;generalize ht0:((nx,AObj.cells [vN,vO,vL])::tbl)=t0 at hb0 Kb B0 BV0 hL0 ⊢;refine WO.j rfl rfl (fun _=>?_) (fun _=>?_)
 ·refine WO.mv rfl (WO.skip rfl rfl (WO.skip rfl rfl (WO.pure (v:=.bool true) rfl (nZ (WC.cond_true rfl (sQ (WO.mv rfl (nZ (WC.ret (aB ⟨_,_,rfl,rfl,⟨_,rfl⟩,Kb⟩))))))))))
 refine WO.mv rfl (WO.take rfl rfl (WO.mv rfl (WO.take rfl rfl (WO.k rfl rfl (fun _=>?_) (fun _=>?_)))))
 ·refine WO.pure (v:=.bool true) rfl (nZ (WC.cond_true rfl (sQ (WO.mv rfl (nZ (WC.ret (aB ⟨_,_,rfl,rfl,⟨_,rfl⟩,Kb⟩)))))))
 refine WO.pure (v:=.bool false) rfl (nZ (cF rfl (WC.seq (WC.block ?_))));refine WC.loop (fun j e tb nb=>∃cur,(cur≠0→cur∈S)∧j=(if cur=0 then 0 else d cur+1)∧e 1=some (vI cur)∧e 2=some (.int .i64 k)∧e 3=some (.pointer (some ⟨nx,0,none⟩))∧Kp t0 (nx+1) tb nb) (k:=d a+1) (by have:=I.lt ha;omega)
  ⟨a,fun _=>ha,by rw[if_neg (I.ne0 ha)],rfl,rfl,rfl,Kp.refl⟩ ?_
 rintro j e tb nb ⟨cur,hc,hj,e1,e2,e3,hK⟩;dsimp only at e1 e2 e3;have hbx:aa nx tb=some (.cells [vN,vO,vL]):=(hK.2 nx (ZF _)).trans hb0;have g0:=hK.1;refine WC.seq (sQ (WO.mv e1 (WO.e rfl rfl (fun hz=>?_) (fun hz=>?_))))
 ·have h0:cur≠0:=fun q=>hz (by rw[q])
  have hcS:=hc h0;rw[if_neg h0] at hj;obtain⟨ic,hic,hfc⟩:=iw (w:=w) (kids:=kids) hnd hcS;have next:∀(Q:Ex→LV→Mem Ar→Prop) (e':LV) (tb':LO) (nb':Nat),aa 1 e'=some (vI cur)→aa 2 e'=some (.int .i64 k)→aa 3 e'=some (.pointer (some ⟨nx,0,none⟩))→Kp tb nb tb' nb' →
    (∀e'' tb'' nb'' j' cur',j'<j→(cur'≠0→cur'∈S)→j'=(if cur'=0 then 0 else d cur'+1)→aa 1 e''=some (vI cur')→aa 2 e''=some (.int .i64 k)→aa 3 e''=some (.pointer (some ⟨nx,0,none⟩))→Kp t0 (nx+1) tb'' nb''→Q .norm e'' ⟨[],tb'',nb''⟩) →
    WC (RF1 hk (n+2)) (n+2) (.ops [(none,.pure 34 (.fadd 0 (.t 3))),(none,.load 35 1 false (.t 34)),(none,.pure 36 (.mv (.t 1))),(none,.call (some 37) (.c (.func (.func 52) (.mk []) (.mk []))) [.t 35,.t 36]),(none,.pure 1 (.mv (.t 37)))]) e' ⟨[],tb',nb'⟩ Q:=by
   intro Q e' tb' nb' f1 f2 f3 hK' hQ;have hbx':aa nx tb'=some (.cells [vN,vO,vL]):=(hK'.2 nx (by omega)).trans hbx;refine WC.ops (WO.fadd f3 (WO.load (v:=vN) rfl hbx' rfl rfl rfl (WO.mv f1 ?_)));refine WO.a (vs:=[vN,vI cur]) rfl rfl (lZ hh.r19.find hh.r19.par (n:=n) (y:=(cur,w.par cur,kids cur)) (by rw[dv];omega) (by omega) (B0.kp (hK.trans hK')) hic hfc) ?_;rintro u ⟨t2,n2⟩ ⟨rfl,k2⟩;refine WO.mv rfl (WO.nil ?_);refine hQ _ _ _ (if w.par cur=0 then 0 else d (w.par cur)+1) (w.par cur) ?_ (fun q=>(I.par cur hcS q).1) rfl rfl f2 f3 ((hK.trans hK').trans k2);rw[hj];by_cases q:w.par cur=0
   ·rw[if_pos q];omega
   ·rw[if_neg q,I.dep cur hcS q];omega
  refine nZ (WC.cond_true rfl (WC.skip (zN (WC.block (WC.seq (WC.a ?_))))));have K1:Kp tb nb tb (nb+8):=Kp.refl.up (Zn _ _);have BV1:=BV0.kp (hK.trans K1);obtain⟨u,⟨t4,n4⟩,hd1,⟨i4,hi4,rfl⟩,k4⟩:=nj (n:=n+1) hh.gat hS hnd (by omega) BV1 hcS;dsimp only at k4;have K4:=K1.trans k4;have hL1:=hL0.kp (hK.trans K4);obtain⟨ko,zo,hvo,hko,hld⟩:=hL1.at hi4;have hbx4:aa nx t4=some (.cells [vN,vO,vL]):=(k4.2 nx (by omega)).trans hbx;have y1:∀m,(⟨[],tb,m⟩:Mem Ar).load ⟨nx,0+2,none⟩ 1=some [vL]:=fun m=>ae hbx rfl rfl
  have y2:(⟨[],t4,n4⟩:Mem Ar).load ⟨nx,0+2,none⟩ 1=some [vL]:=ae hbx4 rfl rfl;have y3:∀m,(⟨[],tb,m⟩:Mem Ar).load ⟨nx,0,none⟩ 3=some [vN,vO,vL]:=fun m=>ae hbx rfl rfl
  have y4:(⟨[],t4,n4⟩:Mem Ar).load ⟨nx,0,none⟩ 3=some [vN,vO,vL]:=ae hbx4 rfl rfl;have y5:=hld t4 n4 Kp.refl;have c1:=BV1.ceq;have c2:=hL1.ceq;have c3:dC [Value.int .i64 zo] [.int .i64 zo]=true:=eI _ _;refine WD.pure (ct (az e3 rfl rfl)) (WD.load (m:=⟨[],tb,nb+8⟩) (ms:=[]) (v:=vL) rfl (y1 _) rfl (WD.load (m:=⟨[],tb,nb+8⟩) (ms:=[]) (v:=.agg ⟨[vN,vO,vL]⟩) (az e3 rfl rfl) (y3 _) rfl (WD.pure (az e1 rfl rfl) ?_)));refine WD.chn (m:=⟨[],tb,nb+8⟩) (m':=⟨[],t4,n4⟩) (v:=vI i4) rfl rfl rfl (aW (m:=⟨[],tb,nb+8⟩) (h:=⟨t4,n4⟩) (vs:=[.agg ⟨[vN,vO,vL]⟩,vI cur]) rfl rfl hd1) ?_;have BV4:=BV0.kp (hK.trans K4);subst hvo;refine WD.pure (dF rfl rfl rfl hi4) (WD.load (m:=⟨[],t4,n4⟩) (v:=.int .i64 zo) rfl y5 rfl (WD.pure rfl (WD.nil ⟨?_,_,_,rfl,?_⟩)))
  ·simp only[bi,bn,y1,y2,y3,y4,y5,c1,c2,c3];rfl
  refine zN (WC.seq (sQ (WO.mv (m:=⟨[],t4,n4⟩) rfl (WO.q rfl rfl (fun _=>?_) (fun _=>?_)))))
  ·refine WO.mv rfl (WO.take rfl rfl (WO.load (v:=.agg ⟨[vN,vO,.slice (some ⟨ko,0,none⟩) S.length S.length]⟩) e3 hbx4 rfl rfl rfl (WO.take rfl rfl (WO.mv e1 (WO.take rfl rfl ?_)))));refine WO.a (vs:=[.agg ⟨[vN,vO,.slice (some ⟨ko,0,none⟩) S.length S.length]⟩,vI cur]) rfl rfl (mF (n:=n) hh I hS hnd hn BV4 hcS) ?_;rintro u ⟨t5,n5⟩ ⟨⟨z5,rfl⟩,k5⟩;refine WO.take rfl rfl (WO.mv e2 (WO.take rfl rfl (WO.pure (ud rfl rfl) (WO.take rfl rfl (WO.mv rfl (WO.take rfl rfl (WO.k rfl rfl (fun _=>?_) (fun _=>?_))))))))
   ·refine WO.pure (v:=.bool true) rfl (nZ (WC.cond_true rfl (sQ (WO.mv rfl (nZ (WC.ret ?_))))));exact aB (a9 (a9 (aB ⟨_,_,rfl,rfl,⟨_,rfl⟩,Kb.trans (hK.trans (K4.trans k5))⟩)))
   ·refine WO.pure (v:=.bool false) rfl (nZ (cF rfl ?_));exact next _ _ _ _ e1 e2 e3 (K4.trans k5) fun e'' tb'' nb'' j' cur' p1 p2 p3 p4 p5 p6 p7=>zB ⟨j',p1,rfl,cur',p2,p3,p4,p5,p6,p7⟩
  ·refine WO.mv rfl (WO.skip rfl rfl (WO.skip rfl rfl (WO.skip rfl rfl (WO.skip rfl rfl (WO.skip rfl rfl (WO.skip rfl rfl (WO.skip rfl rfl (WO.pure (v:=.bool false) rfl (nZ (cF rfl ?_))))))))));exact next _ _ _ _ e1 e2 e3 K4 fun e'' tb'' nb'' j' cur' p1 p2 p3 p4 p5 p6 p7=>zB ⟨j',p1,rfl,cur',p2,p3,p4,p5,p6,p7⟩
 ·refine nZ (WC.cond_false rfl (WC.exit (aR (aI ?_))));exact zN (sQ (WO.mv rfl (nZ (WC.ret ⟨_,_,rfl,rfl,⟨_,rfl⟩,Kb.trans hK⟩))))
end Go.AI
namespace Go.AI
open Go.Proofs
open Go.Fo (Wd Un Pre)
variable {tbl t' t'':LO}{nx n' n'' lo:Nat}
theorem GW:∀{l:List Value},over l []=l
 |[]=>rfl
 |_::_=>rfl
theorem rF:∀{l s:List Value},l.length=s.length→over l s=s
 |[],[],_=>rfl
 |_::r,_::t,h=>by
  show _::over r t=_;rw[rF (by simpa using h)]
theorem oM{s:List Value}:∀{l:List Value},aT l 0 s=over l s
 |[]=>rfl
 |_::_=>rfl
theorem rf{z:Int}:∀{zs:List Int} {i:Nat},i<zs.length→∃ys:List Int,ys.length=zs.length∧aT (zs.map fun z=>Value.int .i64 z) i [.int .i64 z]=ys.map fun z=>Value.int .i64 z
 |[],i,h=>by simp at h
 |y::r,0,_=>⟨z::r,rfl,by
  show Value.int .i64 z::over (r.map fun z=>Value.int .i64 z) []=_;rw[GW];rfl⟩
 |y::r,i+1,h=>by
  obtain⟨ys,h1,h2⟩:=rf (z:=z) (zs:=r) (i:=i) (by simpa using h);refine⟨y::ys,by simp[h1],?_⟩;show Value.int .i64 y::aT (r.map fun z=>Value.int .i64 z) i [.int .i64 z]=_;rw[h2];rfl
theorem ji{cs:List Value}:bg cs 0 cs.length=some cs:=by
 unfold bg;simp
theorem v9{m:Nat}{z:Value}:(rows m [z]).length=m:=by
 unfold rows;simp
theorem Cc{call:aP Ar}{env:LV}{m:Mem Ar}{d e b a:Nat}{z:List Value}{x:Opd}(hx:evo env x=some (i0 a))(h2:a*b≤281474976710656)(h3:a≤281474976710656) :
  bh call env m (.mslice d e b z x x)=some (.slice (some ⟨m.next,0,none⟩) a a,m.new true (.cells (rows a z))):=by
 have q1:Nat.ble a a=true:=by rw[Zk];exact Ze _
 have q2:Nat.ble (a*b) 281474976710656=true:=by rw[Zk];exact h2
 have q3:Nat.ble a 281474976710656=true:=by rw[Zk];exact h3
 simp only[bh,bM,hx,cQ,q1,q2,q3,Bool.and_self,cond_true]
theorem CG{call:aP Ar}{env:LV}{m m':Mem Ar}{d i k a c c':Nat}{x y:Opd}{src:List Value}(hx:evo env x=some (.slice (some ⟨i,0,none⟩) a c))(hy:evo env y=some (.slice (some ⟨k,0,none⟩) a c'))(h0:a≠0)(hl:m.loads (some ⟨k,0,none⟩) (a*1)=some src)(hs:m.store ⟨i,0,none⟩ src=some m') :
  bh call env m (.copy d 1 x y)=some (.int .i64 (Int.ofNat a),m'):=by
 have q:Nat.ble a a=true:=by rw[Zk];exact Ze _
 have q0:Nat.beq a 0=false:=oc h0;simp only[bh,bM,hx,hy,q,cond_true,q0,cond_false,hl,hs,Option.map]
theorem sf{hk:List (aK Ar)}(hh:ab hk 47=none){n m i:Nat}{z:Int}{v:Value}(hm:m<800)(hi:i<m)(h:IRow tbl nx v m) :
  ∃u h',RF1 hk (n+1) 47 [v,vI i,.int .i64 z] ⟨tbl,nx⟩=some (u,h')∧(IRow h'.tbl h'.next u m∧Kp tbl nx h'.tbl h'.next):=by
 obtain⟨k,zs,hzl,hk1,rfl,hk2⟩:=h;refine aG hh MK (zL rfl) ?_;dsimp only[DN,aM];refine sQ (WO.mv rfl (nZ (sQ (WO.mv rfl (WO.len rfl ?_)))));refine WO.step (i:=.mslice 10 1 8 [i0 0] (.t 9) (.t 9)) (Cc (a:=m) rfl (by omega) (by omega)) ?_;have Kb:Kp tbl nx ((nx,AObj.cells (rows m [i0 0]))::tbl) (nx+1):=Kp.refl.cons (Ze _) (Zo _);refine WO.mv rfl (nZ (sQ (WO.mv rfl (WO.mv rfl ?_))));have hld:(⟨[],(nx,AObj.cells (rows m [.int .i64 (.ofNat 0)]))::tbl,nx+1⟩:Mem Ar).loads (some ⟨k,0,none⟩) (m*1)=some (zs.map fun z=>.int .i64 z):=by
  have ht:bg (zs.map fun z=>Value.int .i64 z) 0 (m*1)=some (zs.map fun z=>.int .i64 z):=by
   have:=ji (cs:=zs.map fun z=>Value.int .i64 z);rwa [List.length_map,hzl,← Nat.mul_one m] at this
  unfold Mem.loads;rw[oc (by omega),cond_false];rcases hk2 with q|q
  ·exact ae ((Kb.2 k hk1).trans q) rfl ht
  ·exact ae ((Kb.2 k hk1).trans q) rfl ht
 have hst:(⟨[],(nx,AObj.cells (rows m [.int .i64 (.ofNat 0)]))::tbl,nx+1⟩:Mem Ar).store ⟨nx,0,none⟩ (zs.map fun z=>.int .i64 z)=some ⟨[],(nx,.cells (zs.map fun z=>.int .i64 z))::tbl,nx+1⟩:=by
  have hs:=ba (nx:=nx+1) (vs:=zs.map fun z=>Value.int .i64 z) (o:=0) (ob':=.cells (zs.map fun z=>.int .i64 z)) (tbl:=(nx,.cells (rows m [.int .i64 (.ofNat 0)]))::tbl) (i:=nx) (by rw[zC,if_pos rfl]) rfl (by rw[v9,List.length_map,hzl];omega) (by
   rw[oM,rF (by rw[v9,List.length_map,hzl])];rfl)
  rw[cw] at hs;exact hs
 refine WO.step (i:=.copy 13 1 (.t 11) (.t 12)) (m':=⟨[],(nx,.cells (zs.map fun z=>.int .i64 z))::tbl,nx+1⟩) (CG (a:=m) rfl rfl (by omega) hld hst) ?_;refine nZ (sQ (WO.mv rfl (WO.mv rfl (WO.mv rfl ?_))));refine WO.idxL (b:=nx) (o:=0) (len:=m) (c:=m) (sp:=none) (j:=.i64) (z:=Int.ofNat i) (n:=i) rfl rfl rfl hi ?_;obtain⟨ys,hy1,hy2⟩:=rf (z:=z) (zs:=zs) (i:=i) (by omega);refine WO.step (i:=.store 1 (.t 17) (.t 16)) (v:=undef) (m':=⟨[],(nx,.cells (ys.map fun z=>.int .i64 z))::tbl,nx+1⟩) ?_ ?_
 ·have hs:=ba (nx:=nx+1) (vs:=[Value.int .i64 z]) (o:=0+i*1) (ob':=.cells (ys.map fun z=>.int .i64 z)) (tbl:=(nx,.cells (zs.map fun z=>.int .i64 z))::tbl) (i:=nx) (by rw[zC,if_pos rfl]) rfl (by rw[List.length_map,hzl];show 0+i*1+1≤m;omega) (by
   rw[ZB,Nat.mul_one,hy2];rfl)
  rw[cw] at hs;exact aJ rfl rfl rfl rfl hs
 refine nZ (sQ (WO.mv rfl (WO.mv rfl (nZ (WC.ret ⟨_,_,rfl,rfl,?_,Kp.refl.cons (Ze _) (Zo _)⟩)))));have hl:aa nx ((nx,AObj.cells (ys.map fun z=>Value.int .i64 z))::tbl)=some (.cells (ys.map fun z=>.int .i64 z)):=by rw[zC,if_pos rfl]
 exact⟨nx,ys,hy1.trans hzl,ZF _,rfl,.inr hl⟩
end Go.AI
namespace Go.AI
open Go.Proofs
open Go.Fo (Wd Un Pre)
variable {tbl t' t'':LO}{nx n' n'' lo:Nat}{w:Wd}{S:List Nat}{kids:Nat→List Nat}{d:Nat→Nat}
def SlC(o:AObj Ar):Prop:=∃ad a c vs,o = .cells (.slice ad a c::vs)
section
variable {j:Nat}{o o':AObj Ar}
theorem KidV.upd{c:Value}{L:List Nat}(h:KidV lo tbl nx c L)(hk:aa j tbl=some o)(ho:SlC o):KidV lo (AI.upd j o' tbl) nx c L:=by
 rcases h with h|⟨i,h0,h1,h2,h3,h4⟩
 ·exact .inl h
 ·refine .inr ⟨i,h0,h1,h2,h3,(zU fun e=>?_).trans h4⟩;subst e;obtain⟨_,_,_,_,rfl⟩:=ho;rw[hk] at h4;cases h4
theorem Bk.upd{v:Value}{N:List eR}(h:Bk lo tbl nx v N)(hk:aa j tbl=some o)(ho:SlC o):Bk lo (AI.upd j o' tbl) nx v N:=by
 obtain⟨k,M,h0,h1,h2,h3,h4⟩:=h;refine⟨k,M,h0,h1,h2,(zU fun e=>?_).trans h3,h4.mono fun _ _ h=>⟨h.1,h.2.1,h.2.2.upd hk ho⟩⟩;subst e;obtain⟨_,_,_,_,rfl⟩:=ho;rw[hk] at h3;cases h3
theorem IRow.upd{v:Value}{m:Nat}(h:IRow tbl nx v m)(hk:aa j tbl=some o)(ho:SlC o):IRow (AI.upd j o' tbl) nx v m:=by
 obtain⟨k,zs,h1,h2,h3,h4⟩:=h;obtain⟨_,_,_,_,rfl⟩:=ho;have hne:k≠j:=fun e=>by
  subst e;rw[hk] at h4;rcases h4 with q|q
  ·cases q
  ·cases zs with
   |nil=>cases q
   |cons z r=>cases q
 exact⟨k,zs,h1,h2,h3,h4.imp (fun q=>(zU hne).trans q) fun q=>(zU hne).trans q⟩
theorem Bv.upd{l:List Value}(h:Bv tbl nx l w S kids)(hk:aa j tbl=some o)(ho:SlC o):Bv (AI.upd j o' tbl) nx l w S kids:=by
 obtain⟨vN,vO,vL,h1,h2,h3,h4⟩:=h;exact⟨vN,vO,vL,h1,h2.upd hk ho,h3.upd hk ho,h4.upd hk ho⟩
theorem Kp.Qz(K:Kp tbl nx t' n')(h:nx≤j):Kp tbl nx (AI.upd j o' t') n':=⟨K.1,fun i hi=>(zU (by omega)).trans (K.2 i hi)⟩
end
theorem Bv.slC{l:List Value}(h:Bv tbl nx l w S kids):SlC (.cells l):=by
 obtain⟨vN,vO,vL,rfl,⟨k,M,_,_,rfl,_⟩,_⟩:=h;exact⟨_,_,_,_,rfl⟩
theorem Bv.len{l:List Value}(h:Bv tbl nx l w S kids):l.length=3:=by
 obtain⟨vN,vO,vL,rfl,_⟩:=h;rfl
def GB(t:LO)(n:Nat)(l:List Value)(S:List Nat):Prop:=∃w kids d,Go.Fo.Inv w S kids d∧Bv t n l w S kids
def ma(S:List Nat)(u:Value)(t:LO)(n:Nat):Prop:=∃l f,u = .tuple ⟨[.agg ⟨l⟩,.int .i64 f]⟩∧GB t n l S
abbrev bX:List Value:=[.slice none 0 0,.slice none 0 0,.slice none 0 0]
theorem pD:SlC (.cells bX):=⟨_,_,_,_,rfl⟩
theorem dt{call:aP Ar}{env:LV}{tb:LO}{nb k:Nat}{a x:Opd}{l q:List Value}(ha:evo env a=some (.pointer (some ⟨k,0,none⟩)))(hx:evo env x=some (.agg ⟨l⟩))(hl:l.length=3)(hk:aa k tb=some (.cells q))(hq:q.length=3) :
  bh call env ⟨[],tb,nb⟩ (.store 3 a x)=some (undef,⟨[],upd k (.cells l) tb,nb⟩):=by
 refine aJ (vs:=l) ha hx rfl hl (ba hk rfl (by omega) ?_);rw[oM,rF (by omega)];rfl
theorem iS{l:List Value}(h:l.length=3):bg l 0 3=some l:=by
 have:=ji (cs:=l);rwa [h] at this
theorem kh{call:aP Ar}{fuel t3 t6 t7 d b r f:Nat}{env:LV}{tb:LO}{nb:Nat}{l q:List Value}{Q:Ex→LV→Mem Ar→Prop}
  (e3:aa t3 env=some (.pointer (some ⟨b,0,none⟩))) (e6:aa t6 env=some (.pointer (some ⟨r,0,none⟩))) (hd:t6≠d) (h67:t6≠t7)
  (hb:aa b tb=some (.cells l)) (hl:l.length=3) (hq:aa r tb=some (.cells q)) (hql:q.length=3)
  (hQ:∀e',db e' ⟨[],upd r (.cells l) tb,nb⟩ [.cell t6 3 true,.tmp t7]=some [.agg ⟨l⟩,vI f]→Q .ret e' ⟨[],upd r (.cells l) tb,nb⟩) :
  WC call fuel (.seq (.ops [(none,.load d 3 true (.t t3)),(none,.store 3 (.t t6) (.t d)),(none,.pure t7 (.mv (.c (vI f))))]) .ret) env ⟨[],tb,nb⟩ Q:=by
 have htk:=iS hl;refine sQ (WO.load (v:=.agg ⟨l⟩) e3 hb rfl htk rfl ?_);have e6':aa t6 ((d,Value.agg ⟨l⟩)::env)=some (.pointer (some ⟨r,0,none⟩)):=by rw[zC,if_neg hd];exact e6
 have ed:aa d ((d,Value.agg ⟨l⟩)::env)=some (.agg ⟨l⟩):=by rw[zC,if_pos rfl]
 refine WO.step (i:=.store 3 (.t t6) (.t d)) (dt e6' ed hl hq hql) (WO.mv rfl (nZ (WC.ret ?_)));refine hQ _ ?_;have e7:aa t7 ((t7,vI f)::(d,Value.agg ⟨l⟩)::env)=some (vI f):=by rw[zC,if_pos rfl]
 have e8:aa t6 ((t7,vI f)::(d,Value.agg ⟨l⟩)::env)=some (.pointer (some ⟨r,0,none⟩)):=by rw[zC,if_neg h67];exact e6'
 have hld:(⟨[],upd r (.cells l) tb,nb⟩:Mem Ar).load ⟨r,0,none⟩ 3=some l:=ae (zS hq) rfl htk;show db ((t7,vI f)::(d,Value.agg ⟨l⟩)::env) _ _=_;simp only[db,e7,e8,hld];rfl
theorem I6{env:LV}{x:Opd}{z:Int}(hx:evo env x=some (.int .i64 z)):∃y,aw env (.max [x,.c (.int .i64 (.negSucc 0))])=some (.int .i64 y):=by
 have e1:evo env (.c (.int .i64 (.negSucc 0)))=some (.int .i64 (.negSucc 0)):=rfl;simp only[aw,evs,e1,hx,nD,if_true];exact⟨_,rfl⟩
theorem CL{hk:List (aK Ar)}(hh:DHk hk)(I:Go.Fo.Inv w S kids d)(hS:S.length<800)(hnd:S.Nodup){n a:Nat}{k:Int}{l:List Value}(hn:2001≤n)(BV:Bv tbl nx l w S kids)(ha:a∈S) :
  ∃u h',RF1 hk (n+3) 20 [.agg ⟨l⟩,vI a,.int .i64 k] ⟨tbl,nx⟩=some (u,h')∧(ma S u h'.tbl h'.next∧Kp tbl nx h'.tbl h'.next):=by
 refine aG hh.gsetl yu (zL rfl) ?_;dsimp only[qt,aM];refine sQ (WO.box rfl rfl (WO.new (WO.mv rfl (nZ (WC.seq (sQ (WO.mv rfl ?_)))))));have hb0:aa nx ((nx+1,AObj.cells bX)::(nx,.cells l)::tbl)=some (.cells l):=by rw[zC,if_neg (by show¬nx=nx+1;omega),zC,if_pos rfl]
 have hq0:aa (nx+1) ((nx+1,AObj.cells bX)::(nx,.cells l)::tbl)=some (.cells bX):=by rw[zC,if_pos rfl]
 have Kb:Kp tbl nx ((nx+1,AObj.cells bX)::(nx,.cells l)::tbl) (nx+1+1):=(Kp.refl.cons (Ze _) (Zo _)).cons (Zo _) (Zo _);have BV0:=BV.kp Kb;generalize ht0:((nx+1,AObj.cells bX)::(nx,.cells l)::tbl)=t0 at hb0 hq0 Kb BV0 ⊢;have fin:∀{tb:LO} {nb f:Nat} {l2:List Value} {e':LV},aa (nx+1) tb=some (.cells bX)→Bv tb nb l2 w S kids→Kp tbl nx tb nb→db e' ⟨[],upd (nx+1) (.cells l2) tb,nb⟩ [.cell 6 3 true,.tmp 7]=some [.agg ⟨l2⟩,vI f] →
   mC [.cell 6 3 true,.tmp 7] false nx (fun u h'=>ma S u h'.tbl h'.next∧Kp tbl nx h'.tbl h'.next) .ret e' ⟨[],upd (nx+1) (.cells l2) tb,nb⟩:=by
  intro tb nb f l2 e' h1 h2 h3 h4;exact⟨_,_,h4,rfl,⟨l2,_,rfl,w,kids,d,I,h2.upd h1 pD⟩,h3.Qz (Zo _)⟩
 refine WO.k rfl rfl (fun _=>?_) (fun _=>?_)
 ·exact nZ (WC.cond_true rfl (kh rfl rfl (by decide) (by decide) hb0 BV.len hq0 rfl fun e' he=>aB (fin hq0 BV0 Kb he)))
 refine nZ (cF rfl (WC.seq (sQ (WO.mv rfl ?_))))
 -- the limit is laid
 have lay:∀(e:LV) (tb:LO) (nb:Nat),aa 1 e=some (vI a)→aa 2 e=some (.int .i64 k)→aa 3 e=some (.pointer (some ⟨nx,0,none⟩))→aa 6 e=some (.pointer (some ⟨nx+1,0,none⟩))→Kp t0 (nx+1+1) tb nb→WC (RF1 hk (n+2)) (n+2) (.seq (.drawn [(none,.pure 21 (.fadd 2 (.t 3))),(none,.load 22 1 false (.t 21)),(none,.load 23 3 true (.t 3)),(none,.pure 24 (.mv (.t 1))),(none,.call (some 25) (.c (.func (.func 48) (.mk []) (.mk []))) [.t 23,.t 24]),(none,.pure 26 (.mv (.t 2))),(none,.pure 27 (.max [.t 26,.c (.int .i64 (.negSucc 0))])),(none,.call (some 28) (.c (.func (.func 47) (.mk []) (.mk []))) [.t 22,.t 25,.t 27]),(none,.pure 29 (.fadd 2 (.t 3))),(none,.store 1 (.t 29) (.t 28))] [[],[0],[],[],[2,3],[],[5],[1,4,6,0,2,3,5],[0,1,2,3,4,5,6,7],[8,7,0,1,2,3,4,5,6]]) (.seq (.ops [(none,.load 30 3 true (.t 3)),(none,.store 3 (.t 6) (.t 30)),(none,.pure 7 (.mv (.c (.int .i64 (.ofNat 0)))))]) .ret)) e ⟨[],tb,nb⟩ (mC [.cell 6 3 true,.tmp 7] false nx fun u h'=>ma S u h'.tbl h'.next∧Kp tbl nx h'.tbl h'.next):=by
  intro e tb nb e1 e2 e3 e6 hK;obtain⟨vN,vO,vL,rfl,B,hO,hL⟩:=id BV0;have g0:=hK.1;have hbx:aa nx tb=some (.cells [vN,vO,vL]):=(hK.2 nx (by omega)).trans hb0;refine WC.seq (WC.a ?_);have K1:Kp tb nb tb (nb+10):=Kp.refl.up (Zn _ _);have BV1:=BV0.kp (hK.trans K1);obtain⟨u,⟨t4,n4⟩,hd1,⟨i4,hi4,rfl⟩,k4⟩:=nj (n:=n+1) hh.gat hS hnd (by omega) BV1 ha;dsimp only at k4;have K4:=K1.trans k4;obtain⟨y,hy⟩:=I6 (env:=[(26,Value.int .i64 k)]) (x:=.t 26) (z:=k) rfl;obtain⟨u5,⟨t5,n5⟩,hd2,hu5,k5⟩:=sf (n:=n+1) (z:=y) hh.gwith hS hi4 (hL.kp (hK.trans K4));dsimp only at k5 hu5;have K5:=K4.trans k5;have g4:=k4.1;have g5:=k5.1;have hbx4:aa nx t4=some (.cells [vN,vO,vL]):=(k4.2 nx (by omega)).trans hbx;have hbx5:aa nx t5=some (.cells [vN,vO,vL]):=(k5.2 nx (by omega)).trans hbx4;have hq5:aa (nx+1) t5=some (.cells bX):=(K5.2 _ (by omega)).trans ((hK.2 _ (ZF _)).trans hq0);have hst:(⟨[],t5,n5⟩:Mem Ar).store ⟨nx,0+2,none⟩ [u5]=some ⟨[],upd nx (.cells [vN,vO,u5]) t5,n5⟩:=ba hbx5 rfl (zL rfl) rfl;have y1:∀m,(⟨[],tb,m⟩:Mem Ar).load ⟨nx,0+2,none⟩ 1=some [vL]:=fun m=>ae hbx rfl rfl
  have y2:(⟨[],t4,n4⟩:Mem Ar).load ⟨nx,0+2,none⟩ 1=some [vL]:=ae hbx4 rfl rfl;have y5:(⟨[],t5,n5⟩:Mem Ar).load ⟨nx,0+2,none⟩ 1=some [vL]:=ae hbx5 rfl rfl;have y3:∀m,(⟨[],tb,m⟩:Mem Ar).load ⟨nx,0,none⟩ 3=some [vN,vO,vL]:=fun m=>ae hbx rfl rfl
  have y4:(⟨[],t4,n4⟩:Mem Ar).load ⟨nx,0,none⟩ 3=some [vN,vO,vL]:=ae hbx4 rfl rfl;have y6:(⟨[],t5,n5⟩:Mem Ar).load ⟨nx,0,none⟩ 3=some [vN,vO,vL]:=ae hbx5 rfl rfl;have c1:=BV1.ceq;have c2:=hL.ceq;obtain⟨kL,zLm,_,_,rfl,_⟩:=id hL;obtain⟨k5',z5,_,_,rfl,_⟩:=id hu5;refine WD.pure (ct (az e3 rfl rfl)) (WD.load (m:=⟨[],tb,nb+10⟩) (ms:=[]) (v:=.slice (some ⟨kL,0,none⟩) S.length S.length) rfl (y1 _) rfl (WD.load (m:=⟨[],tb,nb+10⟩) (ms:=[]) (v:=.agg ⟨[vN,vO,.slice (some ⟨kL,0,none⟩) S.length S.length]⟩) (az e3 rfl rfl) (y3 _) rfl (WD.pure (az e1 rfl rfl) ?_)));refine WD.chn (m:=⟨[],tb,nb+10⟩) (m':=⟨[],t4,n4⟩) (v:=vI i4) rfl rfl rfl (aW (m:=⟨[],tb,nb+10⟩) (h:=⟨t4,n4⟩) (vs:=[.agg ⟨[vN,vO,.slice (some ⟨kL,0,none⟩) S.length S.length]⟩,vI a]) rfl rfl hd1) ?_;refine WD.pure (az e2 rfl rfl) (WD.pure (v:=.int .i64 y) ?_ ?_)
  ·exact hy
  refine WD.chn (m:=⟨[],t4,n4⟩) (m':=⟨[],t5,n5⟩) (v:=.slice (some ⟨k5',0,none⟩) S.length S.length) rfl rfl rfl (aW (m:=⟨[],t4,n4⟩) (h:=⟨t5,n5⟩) (vs:=[.slice (some ⟨kL,0,none⟩) S.length S.length,vI i4,.int .i64 y]) rfl rfl hd2) ?_;refine WD.pure (ct (az e3 rfl rfl)) ?_;refine WD.chn (m:=⟨[],t5,n5⟩) (m':=⟨[],upd nx (.cells [vN,vO,.slice (some ⟨k5',0,none⟩) S.length S.length]) t5,n5⟩) (v:=undef) rfl rfl rfl (aJ (m:=⟨[],t5,n5⟩) rfl rfl rfl rfl hst) (WD.nil ⟨?_,_,_,rfl,?_⟩)
  ·simp only[bi,bn,y1,y2,y3,y4,y5,y6,c1,c2];rfl
  have BV5:Bv t5 n5 [vN,vO,.slice (some ⟨k5',0,none⟩) S.length S.length] w S kids:=⟨vN,vO,_,rfl,B.kp (hK.trans K5),hO.kp (hK.trans K5),hu5⟩;have BV6:=BV5.upd (o':=.cells [vN,vO,.slice (some ⟨k5',0,none⟩) S.length S.length]) hbx5 BV0.slC;have hq6:aa (nx+1) (upd nx (.cells [vN,vO,.slice (some ⟨k5',0,none⟩) S.length S.length]) t5)=some (.cells bX):=(zU (by omega)).trans hq5;refine zN (kh (b:=nx) (tb:=upd nx (.cells [vN,vO,.slice (some ⟨k5',0,none⟩) S.length S.length]) t5) (nb:=n5) e3 e6 (by decide) (by decide) (zS hbx5) rfl hq6 rfl fun e' he=>fin hq6 BV6 ((Kb.trans (hK.trans K5)).Qz (Ze _)) he)
 refine WO.q rfl rfl (fun _=>?_) (fun _=>?_)
 ·refine WO.mv rfl (WO.take rfl rfl (WO.load (v:=.agg ⟨l⟩) rfl hb0 rfl (iS BV.len) rfl (WO.take rfl rfl (WO.mv rfl (WO.take rfl rfl ?_)))));refine WO.a (vs:=[.agg ⟨l⟩,vI a]) rfl rfl (mF (n:=n) hh I hS hnd hn BV0 ha) ?_;rintro u ⟨t5,n5⟩ ⟨⟨z5,rfl⟩,k5⟩;dsimp only at k5;refine WO.take rfl rfl (WO.mv rfl (WO.take rfl rfl (WO.k rfl rfl (fun _=>?_) (fun _=>?_))))
  ·have hb5:=(k5.2 nx (by omega)).trans hb0;have hq5:=(k5.2 (nx+1) (by omega)).trans hq0;exact WO.pure (v:=.bool true) rfl (nZ (WC.cond_true rfl (kh rfl rfl (by decide) (by decide) hb5 BV.len hq5 rfl fun e' he=>aB (fin hq5 (BV0.kp k5) (Kb.trans k5) he))))
  ·exact WO.pure (v:=.bool false) rfl (nZ (cF rfl (lay _ _ _ rfl rfl rfl rfl k5)))
 ·refine WO.mv rfl (WO.skip rfl rfl (WO.skip rfl rfl (WO.skip rfl rfl (WO.skip rfl rfl (WO.skip rfl rfl (WO.pure (v:=.bool false) rfl (nZ (cF rfl ?_))))))));exact lay _ _ _ rfl rfl rfl rfl Kp.refl
end Go.AI
namespace Go.AI
open Go.Proofs
open Go.Fo (Wd Un Pre)
variable {tbl t' t'':LO}{nx n' n'' lo:Nat}{w:Wd}{S:List Nat}{kids:Nat→List Nat}{d:Nat→Nat}
theorem IG{env:LV}{e:EqK}{x y:Opd}{a b:Int}(hx:evo env x=some (.int .i64 a))(hy:evo env y=some (.int .i64 b)):aw env (.bin .sub e x y)=some (.int .i64 (ai .i64 (a-b))):=by
 simp only[aw,hx,hy,bu,bF,if_true]
theorem xe{call:aP Ar}{env:LV}{m:Mem Ar}{d n:Nat}{g:Bool}{a:Opd}{ad:Addr}{cs:List Value}{v:Value}(ha:evo env a=some (.pointer (some ad)))(hl:m.load ad n=some cs)(hv:dy g cs=some v):bh call env m (.load d n g a)=some (v,m):=by
 simp only[bh,bM,ha,hl,hv,Option.map]
theorem DK{hk:List (aK Ar)}(hh:DHk hk)(I:Go.Fo.Inv w S kids d)(hS:S.length<800)(hnd:S.Nodup){n a:Nat}{k:Int}{l:List Value}(hn:2001≤n)(BV:Bv tbl nx l w S kids)(ha:a∈S) :
  ∃u h',RF1 hk (n+4) 25 [.agg ⟨l⟩,vI a,.int .i64 k] ⟨tbl,nx⟩=some (u,h')∧(ma S u h'.tbl h'.next∧Kp tbl nx h'.tbl h'.next):=by
 refine aG hh.gchg DH (zL rfl) ?_;dsimp only[wK,aM];refine sQ (WO.box rfl rfl (WO.new (WO.mv rfl (nZ (sQ ?_)))));have hb0:aa nx ((nx+1,AObj.cells bX)::(nx,.cells l)::tbl)=some (.cells l):=by rw[zC,if_neg (by show¬nx=nx+1;omega),zC,if_pos rfl]
 have hq0:aa (nx+1) ((nx+1,AObj.cells bX)::(nx,.cells l)::tbl)=some (.cells bX):=by rw[zC,if_pos rfl]
 have Kb:Kp tbl nx ((nx+1,AObj.cells bX)::(nx,.cells l)::tbl) (nx+1+1):=(Kp.refl.cons (Ze _) (Zo _)).cons (Zo _) (Zo _);have BV0:=BV.kp Kb;generalize ht0:((nx+1,AObj.cells bX)::(nx,.cells l)::tbl)=t0 at hb0 hq0 Kb BV0 ⊢;have fin:∀{tb:LO} {nb f:Nat} {l2:List Value} {e':LV},aa (nx+1) tb=some (.cells bX)→Bv tb nb l2 w S kids→Kp tbl nx tb nb→db e' ⟨[],upd (nx+1) (.cells l2) tb,nb⟩ [.cell 6 3 true,.tmp 7]=some [.agg ⟨l2⟩,vI f] →
   mC [.cell 6 3 true,.tmp 7] false nx (fun u h'=>ma S u h'.tbl h'.next∧Kp tbl nx h'.tbl h'.next) .ret e' ⟨[],upd (nx+1) (.cells l2) tb,nb⟩:=by
  intro tb nb f l2 e' h1 h2 h3 h4;exact⟨_,_,h4,rfl,⟨l2,_,rfl,w,kids,d,I,h2.upd h1 pD⟩,h3.Qz (Zo _)⟩
 refine WO.load (v:=.agg ⟨l⟩) rfl hb0 rfl (iS BV.len) rfl (WO.mv rfl ?_);refine WO.a (vs:=[.agg ⟨l⟩,vI a]) rfl rfl (nj (n:=n+2) hh.gat hS hnd (by omega) BV0 ha) ?_;rintro u ⟨t1,n1⟩ ⟨⟨i,hi,rfl⟩,k1⟩;dsimp only at k1;have g1:=k1.1;have hb1:=(k1.2 nx (by omega)).trans hb0;have hq1:=(k1.2 (nx+1) (by omega)).trans hq0;have BV1:=BV0.kp k1;have Kb1:=Kb.trans k1;obtain⟨vN,vO,vL,rfl,B,hO,hL⟩:=id BV1;refine WO.mv rfl (nZ (WC.seq (sQ (WO.mv rfl ?_))));have bad:∀{fuel dd f:Nat} {e:LV} {b:ICode} {tb:LO} {nb:Nat},aa 3 e=some (.pointer (some ⟨nx,0,none⟩))→aa 6 e=some (.pointer (some ⟨nx+1,0,none⟩))→6≠dd→Kp t1 n1 tb nb→WC (RF1 hk (n+3)) fuel (.seq (.ops [(none,.load dd 3 true (.t 3)),(none,.store 3 (.t 6) (.t dd)),(none,.pure 7 (.mv (.c (vI f))))]) .ret) e ⟨[],tb,nb⟩ (mr (RF1 hk (n+3)) (n+3) b (mC [.cell 6 3 true,.tmp 7] false nx fun u h'=>ma S u h'.tbl h'.next∧Kp tbl nx h'.tbl h'.next)):=by
  intro fuel dd f e b tb nb e3 e6 hd kk;have hbb:=(kk.2 nx (by omega)).trans hb1;have hqq:=(kk.2 (nx+1) (by omega)).trans hq1;exact kh e3 e6 hd (by decide) hbb rfl hqq rfl fun e' he=>aB (fin hqq (BV1.kp kk) (Kb1.trans kk) he)
 -- the charge is laid
 have lay:∀(e:LV) (tb:LO) (nb:Nat),aa 2 e=some (.int .i64 k)→aa 3 e=some (.pointer (some ⟨nx,0,none⟩))→aa 6 e=some (.pointer (some ⟨nx+1,0,none⟩))→aa 8 e=some (vI i)→Kp t1 n1 tb nb→WC (RF1 hk (n+3)) (n+3) (.seq (.drawn [(none,.pure 35 (.fadd 1 (.t 3))),(none,.load 36 1 false (.t 35)),(none,.pure 37 (.mv (.t 8))),(none,.pure 38 (.fadd 1 (.t 3))),(none,.load 39 1 false (.t 38)),(none,.pure 40 (.mv (.t 8))),(none,.pure 41 (.idxL 1 (.t 39) (.t 40))),(none,.load 42 1 false (.t 41)),(none,.pure 43 (.mv (.t 2))),(none,.pure 44 (.bin .add .no (.t 42) (.t 43))),(none,.call (some 45) (.c (.func (.func 47) (.mk []) (.mk []))) [.t 36,.t 37,.t 44]),(none,.pure 46 (.fadd 1 (.t 3))),(none,.store 1 (.t 46) (.t 45))] [[],[0],[],[],[3],[],[4,5,3],[6,4,5,3],[],[7,8,6,4,5,3],[1,2,9,0,7,8,6,4,5,3],[0,1,2,3,4,5,6,7,8,9,10],[11,10,0,1,2,3,4,5,6,7,8,9]]) (.seq (.ops [(none,.load 47 3 true (.t 3)),(none,.store 3 (.t 6) (.t 47)),(none,.pure 7 (.mv (.c (.int .i64 (.ofNat 0)))))]) .ret)) e ⟨[],tb,nb⟩ (mC [.cell 6 3 true,.tmp 7] false nx fun u h'=>ma S u h'.tbl h'.next∧Kp tbl nx h'.tbl h'.next):=by
  intro e tb nb e2 e3 e6 e8 hK;have g0:=hK.1;have hbx:aa nx tb=some (.cells [vN,vO,vL]):=(hK.2 nx (by omega)).trans hb1;refine WC.seq (WC.a ?_);have K1:Kp tb nb tb (nb+13):=Kp.refl.up (Zn _ _);have hO1:=hO.kp (hK.trans K1);obtain⟨kO,zOw,rfl,_,hld⟩:=hO1.at hi;obtain⟨u5,⟨t5,n5⟩,hd2,hu5,k5⟩:=sf (n:=n+2) (z:=ai .i64 (zOw+k)) hh.gwith hS hi hO1;dsimp only at k5 hu5;have K5:=K1.trans k5;have g5:=k5.1;have hbx5:aa nx t5=some (.cells [vN,.slice (some ⟨kO,0,none⟩) S.length S.length,vL]):=(k5.2 nx (by omega)).trans hbx;have hq5:aa (nx+1) t5=some (.cells bX):=(K5.2 _ (by omega)).trans ((hK.2 _ (by omega)).trans hq1);have hst:(⟨[],t5,n5⟩:Mem Ar).store ⟨nx,0+1,none⟩ [u5]=some ⟨[],upd nx (.cells [vN,u5,vL]) t5,n5⟩:=ba hbx5 rfl (zL rfl) rfl;have y1:∀m,(⟨[],tb,m⟩:Mem Ar).load ⟨nx,0+1,none⟩ 1=some [.slice (some ⟨kO,0,none⟩) S.length S.length]:=fun m=>ae hbx rfl rfl
  have y5:(⟨[],t5,n5⟩:Mem Ar).load ⟨nx,0+1,none⟩ 1=some [.slice (some ⟨kO,0,none⟩) S.length S.length]:=ae hbx5 rfl rfl;have y2:=hld tb (nb+13) Kp.refl;have y3:=hld t5 n5 k5;have c1:=hO1.ceq;have c3:dC [Value.int .i64 zOw] [.int .i64 zOw]=true:=eI _ _;obtain⟨k5',z5,_,_,rfl,_⟩:=id hu5;refine WD.pure (ct (az e3 rfl rfl)) (WD.load (m:=⟨[],tb,nb+13⟩) (ms:=[]) (v:=.slice (some ⟨kO,0,none⟩) S.length S.length) rfl (y1 _) rfl (WD.pure (az e8 rfl rfl) ?_));refine WD.pure (ct (az e3 rfl rfl)) (WD.load (m:=⟨[],tb,nb+13⟩) (ms:=[]) (v:=.slice (some ⟨kO,0,none⟩) S.length S.length) rfl (y1 _) rfl (WD.pure (az e8 rfl rfl) ?_));refine WD.pure (dF rfl rfl rfl hi) (WD.load (m:=⟨[],tb,nb+13⟩) (v:=.int .i64 zOw) rfl y2 rfl (WD.pure (az e2 rfl rfl) (WD.pure (ud rfl rfl) ?_)));refine WD.chn (m:=⟨[],tb,nb+13⟩) (m':=⟨[],t5,n5⟩) (v:=.slice (some ⟨k5',0,none⟩) S.length S.length) rfl rfl rfl (aW (m:=⟨[],tb,nb+13⟩) (h:=⟨t5,n5⟩) (vs:=[.slice (some ⟨kO,0,none⟩) S.length S.length,vI i,.int .i64 (ai .i64 (zOw+k))]) rfl rfl hd2) ?_;refine WD.pure (ct (az e3 rfl rfl)) ?_;refine WD.chn (m:=⟨[],t5,n5⟩) (m':=⟨[],upd nx (.cells [vN,.slice (some ⟨k5',0,none⟩) S.length S.length,vL]) t5,n5⟩) (v:=undef) rfl rfl rfl (aJ (m:=⟨[],t5,n5⟩) rfl rfl rfl rfl hst) (WD.nil ⟨?_,_,_,rfl,?_⟩)
  ·simp only[bi,bn,y1,y2,y3,y5,c1,c3];rfl
  have BV5:Bv t5 n5 [vN,.slice (some ⟨k5',0,none⟩) S.length S.length,vL] w S kids:=⟨vN,_,vL,rfl,B.kp (hK.trans K5),hu5,hL.kp (hK.trans K5)⟩;have BV6:=BV5.upd (o':=.cells [vN,.slice (some ⟨k5',0,none⟩) S.length S.length,vL]) hbx5 BV1.slC;have hq6:aa (nx+1) (upd nx (.cells [vN,.slice (some ⟨k5',0,none⟩) S.length S.length,vL]) t5)=some (.cells bX):=(zU (by omega)).trans hq5;refine zN (kh (b:=nx) (tb:=upd nx (.cells [vN,.slice (some ⟨k5',0,none⟩) S.length S.length,vL]) t5) (nb:=n5) e3 e6 (by decide) (by decide) (zS hbx5) rfl hq6 rfl fun e' he=>fin hq6 BV6 ((Kb1.trans (hK.trans K5)).Qz (Ze _)) he)
 -- behind the first two tests
 have go:∀(e:LV),aa 1 e=some (vI a)→aa 2 e=some (.int .i64 k)→aa 3 e=some (.pointer (some ⟨nx,0,none⟩))→aa 6 e=some (.pointer (some ⟨nx+1,0,none⟩))→aa 8 e=some (vI i)→WC (RF1 hk (n+3)) (n+3) (.seq (.seq (.ops [(none,.pure 25 (.mv (.t 2))),(none,.pure 26 (.bin .gtr .no (.t 25) (.c (.int .i64 (.ofNat 0))))),(none,.pure 27 (.mv (.t 26))),(some (27,true),.load 28 3 true (.t 3)),(some (27,true),.pure 29 (.mv (.t 1))),(some (27,true),.pure 30 (.mv (.t 2))),(some (27,true),.call (some 31) (.c (.func (.func 50) (.mk []) (.mk []))) [.t 28,.t 29,.t 30]),(some (27,true),.pure 32 (.not (.t 31))),(none,.pure 33 (.pick (.t 27) (.t 32) (.c (.bool false))))]) (.cond (.t 33) (.seq (.ops [(none,.load 34 3 true (.t 3)),(none,.store 3 (.t 6) (.t 34)),(none,.pure 7 (.mv (.c (.int .i64 (.ofNat 5)))))]) .ret) .skip)) (.seq (.drawn [(none,.pure 35 (.fadd 1 (.t 3))),(none,.load 36 1 false (.t 35)),(none,.pure 37 (.mv (.t 8))),(none,.pure 38 (.fadd 1 (.t 3))),(none,.load 39 1 false (.t 38)),(none,.pure 40 (.mv (.t 8))),(none,.pure 41 (.idxL 1 (.t 39) (.t 40))),(none,.load 42 1 false (.t 41)),(none,.pure 43 (.mv (.t 2))),(none,.pure 44 (.bin .add .no (.t 42) (.t 43))),(none,.call (some 45) (.c (.func (.func 47) (.mk []) (.mk []))) [.t 36,.t 37,.t 44]),(none,.pure 46 (.fadd 1 (.t 3))),(none,.store 1 (.t 46) (.t 45))] [[],[0],[],[],[3],[],[4,5,3],[6,4,5,3],[],[7,8,6,4,5,3],[1,2,9,0,7,8,6,4,5,3],[0,1,2,3,4,5,6,7,8,9,10],[11,10,0,1,2,3,4,5,6,7,8,9]]) (.seq (.ops [(none,.load 47 3 true (.t 3)),(none,.store 3 (.t 6) (.t 47)),(none,.pure 7 (.mv (.c (.int .i64 (.ofNat 0)))))]) .ret))) e ⟨[],t1,n1⟩ (mC [.cell 6 3 true,.tmp 7] false nx fun u h'=>ma S u h'.tbl h'.next∧Kp tbl nx h'.tbl h'.next):=by
  intro e e1 e2 e3 e6 e8;refine WC.seq (sQ (WO.mv e2 (WO.k rfl rfl (fun _=>?_) (fun _=>?_))))
  ·refine WO.mv rfl (WO.take rfl rfl (WO.load (v:=.agg ⟨[vN,vO,vL]⟩) e3 hb1 rfl rfl rfl (WO.take rfl rfl (WO.mv e1 (WO.take rfl rfl (WO.mv e2 (WO.take rfl rfl ?_)))))));refine WO.a (vs:=[.agg ⟨[vN,vO,vL]⟩,vI a,.int .i64 k]) rfl rfl (tm (n:=n) hh I hS hnd hn BV1 ha) ?_;rintro u ⟨t5,n5⟩ ⟨⟨b5,rfl⟩,k5⟩;dsimp only at k5;cases b5 with
   |false=>exact WO.take rfl rfl (WO.pure (v:=.bool true) rfl (WO.pure (v:=.bool true) rfl (nZ (WC.cond_true rfl (bad e3 e6 (by decide) k5)))))
   |true=>exact WO.take rfl rfl (WO.pure (v:=.bool false) rfl (WO.pure (v:=.bool false) rfl (nZ (cF rfl (lay _ _ _ e2 e3 e6 e8 k5)))))
  ·refine WO.mv rfl (WO.skip rfl rfl (WO.skip rfl rfl (WO.skip rfl rfl (WO.skip rfl rfl (WO.skip rfl rfl (WO.pure (v:=.bool false) rfl (nZ (cF rfl ?_))))))));exact lay _ _ _ e2 e3 e6 e8 Kp.refl
 obtain⟨kO,zOw,rfl,_,hld⟩:=hO.at hi;have hlk:=hld t1 n1 Kp.refl;refine WO.k rfl rfl (fun _=>?_) (fun _=>?_)
 ·refine WO.mv rfl (WO.skip rfl rfl (WO.skip rfl rfl (WO.skip rfl rfl (WO.skip rfl rfl (WO.skip rfl rfl (WO.skip rfl rfl (WO.skip rfl rfl (WO.skip rfl rfl (WO.pure (v:=.bool true) rfl (nZ (WC.cond_true rfl ?_)))))))))));exact bad rfl rfl (by decide) Kp.refl
 ·refine WO.mv rfl (WO.take rfl rfl (WO.mv rfl (WO.take rfl rfl (WO.fadd rfl (WO.take rfl rfl (WO.load (v:=.slice (some ⟨kO,0,none⟩) S.length S.length) rfl hb1 rfl rfl rfl (WO.take rfl rfl (WO.mv rfl (WO.take rfl rfl ?_)))))))));refine WO.pure (dF (b:=kO) (o:=0) (len:=S.length) (c:=S.length) (sp:=none) (j:=.i64) (z:=Int.ofNat i) (n:=i) rfl rfl rfl hi) (WO.take rfl rfl ?_);refine WO.step (i:=.load 20 1 false (.t 19)) (v:=.int .i64 zOw) (m':=⟨[],t1,n1⟩) (xe rfl hlk rfl) (WO.take rfl rfl (WO.pure (IG rfl rfl) (WO.take rfl rfl (WO.j rfl rfl (fun _=>?_) (fun _=>?_)))))
  ·exact WO.pure (v:=.bool true) rfl (nZ (WC.cond_true rfl (bad rfl rfl (by decide) Kp.refl)))
  ·exact WO.pure (v:=.bool false) rfl (nZ (cF rfl (go _ rfl rfl rfl rfl rfl)))
end Go.AI
namespace Go.AI
open Go.Proofs
open Go.Fo (Wd Un Pre)
variable {tbl t' t'':LO}{nx n' n'' lo:Nat}{w:Wd}{S:List Nat}{kids:Nat→List Nat}{d:Nat→Nat}
def GN(t:LO)(n:Nat)(v:Value)(S:List Nat):Prop:=∃w kids d,Go.Fo.Inv w S kids d∧Bk 0 t n v (bL w S kids)
theorem GN.kp{v:Value}(h:GN tbl nx v S)(K:Kp tbl nx t' n'):GN t' n' v S:=by
 obtain⟨w,kids,d,I,B⟩:=h;exact⟨w,kids,d,I,B.kp K⟩
theorem v6{hk:List (aK Ar)}(hh:DHk hk)(I:Go.Fo.Inv w S kids d)(hS:S.length<800)(hnd:S.Nodup){v:Value}{n c:Nat}(hn:2000≤n)(hc:c∈S)(B:Bk 0 tbl nx v (bL w S kids)) :
  ∃u h',RF1 hk (n+2) 51 [v,vI c] ⟨tbl,nx⟩=some (u,h')∧((∃v' f,u = .tuple ⟨[v',vI f]⟩∧GN h'.tbl h'.next v' S)∧Kp tbl nx h'.tbl h'.next):=by
 obtain⟨u,h',h1,h2,h3⟩:=Gr (lo:=0) hh.r19 I hS hnd hn hc B;refine⟨u,h',h1,?_,h3⟩;rcases h2 with⟨_,e⟩|⟨h0,v',e,B'⟩
 ·exact⟨v,8,e,w,kids,d,I,B.kp h3⟩
 ·obtain⟨d',I'⟩:=I.cut hc h0;exact⟨v',0,e,_,_,d',I',B'⟩
theorem uS{hk:List (aK Ar)}(hh:DHk hk)(I:Go.Fo.Inv w S kids d)(hS:S.length<800)(hnd:S.Nodup){v:Value}{n p c:Nat}(hn:2000≤n)(hp:p∈S)(hc:c∈S)(B:Bk 0 tbl nx v (bL w S kids)) :
  ∃u h',RF1 hk (n+3) 49 [v,vI p,vI c] ⟨tbl,nx⟩=some (u,h')∧((∃v' f,u = .tuple ⟨[v',vI f]⟩∧GN h'.tbl h'.next v' S)∧Kp tbl nx h'.tbl h'.next):=by
 obtain⟨u,h',h1,h2,h3⟩:=DY (lo:=0) hh.r19 I hS hnd hn hp hc B;refine⟨u,h',h1,?_,h3⟩;rcases h2 with⟨_,e⟩|⟨_,_,e⟩|⟨h0,hu,v',e,B'⟩
 ·exact⟨v,9,e,w,kids,d,I,B.kp h3⟩
 ·exact⟨v,12,e,w,kids,d,I,B.kp h3⟩
 ·obtain⟨d',I'⟩:=I.add hp hc h0 hu;exact⟨v',0,e,_,_,d',I',B'⟩
theorem GB.kp{l:List Value}(h:GB tbl nx l S)(K:Kp tbl nx t' n'):GB t' n' l S:=by
 obtain⟨w,kids,d,I,B⟩:=h;exact⟨w,kids,d,I,B.kp K⟩
theorem GB.upd{l:List Value}{j:Nat}{o o':AObj Ar}(h:GB tbl nx l S)(hk:aa j tbl=some o)(ho:SlC o):GB (AI.upd j o' tbl) nx l S:=by
 obtain⟨w,kids,d,I,B⟩:=h;exact⟨w,kids,d,I,B.upd hk ho⟩
theorem GN.row{vN vO vL:Value}(h:GN tbl nx vN S)(hO:IRow tbl nx vO S.length)(hL:IRow tbl nx vL S.length):GB tbl nx [vN,vO,vL] S:=by
 obtain⟨w,kids,d,I,B⟩:=h;exact⟨w,kids,d,I,vN,vO,vL,rfl,B,hO,hL⟩
theorem sD{t6 t7:Nat}{tb:LO}{nb f:Nat}{l:List Value}{e':LV}(h1:aa (nx+1) tb=some (.cells bX))(h2:GB tb nb l S)(h3:Kp tbl nx tb nb)(h4:db e' ⟨[],upd (nx+1) (.cells l) tb,nb⟩ [.cell t6 3 true,.tmp t7]=some [.agg ⟨l⟩,vI f]) :
  mC [.cell t6 3 true,.tmp t7] false nx (fun u h'=>ma S u h'.tbl h'.next∧Kp tbl nx h'.tbl h'.next) .ret e' ⟨[],upd (nx+1) (.cells l) tb,nb⟩ :=
 ⟨_,_,h4,rfl,⟨l,_,rfl,h2.upd h1 pD⟩,h3.Qz (Zo _)⟩
theorem DW{call:aP Ar}{fuel t3 t6 t7 t9 d d2 b f:Nat}{env:LV}{tb:LO}{nb:Nat}{l q:List Value}{Q:Ex→LV→Mem Ar→Prop}
  (e3:aa t3 env=some (.pointer (some ⟨b,0,none⟩))) (e6:aa t6 env=some (.pointer (some ⟨b+1,0,none⟩))) (e9:aa t9 env=some (vI f)) (hd:t6≠d) (hd2:t6≠d2) (h67:t6≠t7) (h9d:t9≠d) (hdd:d≠d2)
  (hb:aa b tb=some (.cells l)) (hl:l.length=3) (hq:aa (b+1) tb=some (.cells q)) (hql:q.length=3)
  (hQ:∀e',db e' ⟨[],upd (b+1) (.cells l) tb,nb⟩ [.cell t6 3 true,.tmp t7]=some [.agg ⟨l⟩,vI f]→Q .ret e' ⟨[],upd (b+1) (.cells l) tb,nb⟩) :
  WC call fuel (.seq (.ops [(none,.load d 3 true (.t t3)),(none,.pure d2 (.mv (.t t9))),(none,.store 3 (.t t6) (.t d)),(none,.pure t7 (.mv (.t d2)))]) .ret) env ⟨[],tb,nb⟩ Q:=by
 have htk:=iS hl;have e9':aa t9 ((d,Value.agg ⟨l⟩)::env)=some (vI f):=by rw[zC,if_neg h9d];exact e9
 refine sQ (WO.load (v:=.agg ⟨l⟩) e3 hb rfl htk rfl (WO.mv e9' ?_));have e6':aa t6 ((d2,vI f)::(d,Value.agg ⟨l⟩)::env)=some (.pointer (some ⟨b+1,0,none⟩)):=by rw[zC,if_neg hd2,zC,if_neg hd];exact e6
 have ed:aa d ((d2,vI f)::(d,Value.agg ⟨l⟩)::env)=some (.agg ⟨l⟩):=by rw[zC,if_neg hdd,zC,if_pos rfl]
 have ed2:aa d2 ((d2,vI f)::(d,Value.agg ⟨l⟩)::env)=some (vI f):=by rw[zC,if_pos rfl]
 refine WO.step (i:=.store 3 (.t t6) (.t d)) (dt e6' ed hl hq hql) (WO.mv ed2 (nZ (WC.ret ?_)));refine hQ _ ?_;have e7:aa t7 ((t7,vI f)::(d2,vI f)::(d,Value.agg ⟨l⟩)::env)=some (vI f):=by rw[zC,if_pos rfl]
 have e8:aa t6 ((t7,vI f)::(d2,vI f)::(d,Value.agg ⟨l⟩)::env)=some (.pointer (some ⟨b+1,0,none⟩)):=by rw[zC,if_neg h67];exact e6'
 have hld:(⟨[],upd (b+1) (.cells l) tb,nb⟩:Mem Ar).load ⟨b+1,0,none⟩ 3=some l:=ae (zS hq) rfl htk;show db ((t7,vI f)::(d2,vI f)::(d,Value.agg ⟨l⟩)::env) _ _=_;simp only[db,e7,e8,hld];rfl
theorem Fd{hk:List (aK Ar)}(hh:DHk hk)(hS:S.length<800)(hnd:S.Nodup){n c:Nat}{l:List Value}(hn:2000≤n)(GB0:GB tbl nx l S)(hc:c∈S) :
  ∃u h',RF1 hk (n+3) 23 [.agg ⟨l⟩,vI c] ⟨tbl,nx⟩=some (u,h')∧(ma S u h'.tbl h'.next∧Kp tbl nx h'.tbl h'.next):=by
 obtain⟨w,kids,d,I,BV⟩:=GB0;obtain⟨vN,vO,vL,rfl,B,hO,hL⟩:=id BV;refine aG hh.gcut NS (zL rfl) ?_;dsimp only[Kq,aM];refine sQ (WO.box rfl rfl (WO.new (WO.mv rfl (nZ (sQ ?_)))));have hb0:aa nx ((nx+1,AObj.cells bX)::(nx,.cells [vN,vO,vL])::tbl)=some (.cells [vN,vO,vL]):=by rw[zC,if_neg (by show¬nx=nx+1;omega),zC,if_pos rfl]
 have hq0:aa (nx+1) ((nx+1,AObj.cells bX)::(nx,.cells [vN,vO,vL])::tbl)=some (.cells bX):=by rw[zC,if_pos rfl]
 have Kb:Kp tbl nx ((nx+1,AObj.cells bX)::(nx,.cells [vN,vO,vL])::tbl) (nx+1+1):=(Kp.refl.cons (Ze _) (Zo _)).cons (Zo _) (Zo _);generalize ht0:((nx+1,AObj.cells bX)::(nx,.cells [vN,vO,vL])::tbl)=t0 at hb0 hq0 Kb ⊢;refine WO.fadd rfl (WO.load (v:=vN) rfl hb0 rfl rfl rfl (WO.mv rfl ?_));refine WO.a (vs:=[vN,vI c]) rfl rfl (v6 hh I hS hnd hn hc (B.kp Kb)) ?_;rintro u ⟨t1,n1⟩ ⟨⟨v',f,rfl,G1⟩,k1⟩;dsimp only at k1 G1;have g1:=k1.1;have hb1:=(k1.2 nx (by omega)).trans hb0;have hq1:=(k1.2 (nx+1) (by omega)).trans hq0;have K1:=Kb.trans k1;refine WO.mv rfl (WO.pure (v:=v') rfl (WO.pure (v:=vI f) rfl (WO.mv rfl (WO.mv rfl (nZ (sQ (WO.mv rfl (WO.fadd rfl ?_))))))));have hst:(⟨[],t1,n1⟩:Mem Ar).store ⟨nx,0+0,none⟩ [v']=some ⟨[],upd nx (.cells [v',vO,vL]) t1,n1⟩:=ba hb1 rfl (zL rfl) rfl;have hcv:cR v'=some [v']:=by
  obtain⟨_,_,_,_,k,_,_,_,rfl,_⟩:=G1;rfl
 refine WO.step (i:=.store 1 (.t 16) (.t 15)) (v:=undef) (m':=⟨[],upd nx (.cells [v',vO,vL]) t1,n1⟩) (aJ rfl rfl hcv rfl hst) (nZ ?_);have G2:GB t1 n1 [v',vO,vL] S:=G1.row (hO.kp K1) (hL.kp K1);have G3:=G2.upd (o':=.cells [v',vO,vL]) hb1 BV.slC;have hq3:aa (nx+1) (upd nx (.cells [v',vO,vL]) t1)=some (.cells bX):=(zU (by omega)).trans hq1;exact DW (f:=f) rfl rfl rfl (by decide) (by decide) (by decide) (by decide) (by decide) (zS hb1) rfl hq3 rfl fun e' he=>sD hq3 G3 (K1.Qz (Ze _)) he
theorem DE{hk:List (aK Ar)}(hh:DHk hk)(hS:S.length<800)(hnd:S.Nodup){n p c:Nat}{l:List Value}(hn:2001≤n)(GB0:GB tbl nx l S)(hp:p∈S)(hc:c∈S) :
  ∃u h',RF1 hk (n+4) 21 [.agg ⟨l⟩,vI p,vI c] ⟨tbl,nx⟩=some (u,h')∧(ma S u h'.tbl h'.next∧Kp tbl nx h'.tbl h'.next):=by
 obtain⟨w,kids,d,I,BV⟩:=GB0;obtain⟨vN,vO,vL,rfl,B,hO,hL⟩:=id BV;refine aG hh.gadd OK (zL rfl) ?_;dsimp only[J3,aM];refine sQ (WO.box rfl rfl (WO.new (WO.mv rfl (nZ (sQ ?_)))));have hb0:aa nx ((nx+1,AObj.cells bX)::(nx,.cells [vN,vO,vL])::tbl)=some (.cells [vN,vO,vL]):=by rw[zC,if_neg (by show¬nx=nx+1;omega),zC,if_pos rfl]
 have hq0:aa (nx+1) ((nx+1,AObj.cells bX)::(nx,.cells [vN,vO,vL])::tbl)=some (.cells bX):=by rw[zC,if_pos rfl]
 have Kb:Kp tbl nx ((nx+1,AObj.cells bX)::(nx,.cells [vN,vO,vL])::tbl) (nx+1+1):=(Kp.refl.cons (Ze _) (Zo _)).cons (Zo _) (Zo _);generalize ht0:((nx+1,AObj.cells bX)::(nx,.cells [vN,vO,vL])::tbl)=t0 at hb0 hq0 Kb ⊢;refine WO.fadd rfl (WO.load (v:=vN) rfl hb0 rfl rfl rfl (WO.mv rfl (WO.mv rfl ?_)));refine WO.a (vs:=[vN,vI p,vI c]) rfl rfl (uS hh I hS hnd (by omega) hp hc (B.kp Kb)) ?_;rintro u ⟨t1,n1⟩ ⟨⟨v',f,rfl,G1⟩,k1⟩;dsimp only at k1 G1;have g1:=k1.1;have hb1:=(k1.2 nx (by omega)).trans hb0;have hq1:=(k1.2 (nx+1) (by omega)).trans hq0;have K1:=Kb.trans k1;have BV1:=BV.kp K1;have hcv:cR v'=some [v']:=by
  obtain⟨_,_,_,_,k,_,_,_,rfl,_⟩:=G1;rfl
 refine WO.mv rfl (WO.pure (v:=v') rfl (WO.pure (v:=vI f) rfl (WO.mv rfl (WO.mv rfl (nZ (WC.seq (sQ (WO.mv rfl (WO.e rfl rfl (fun _=>?_) (fun _=>?_))))))))))
 ·exact nZ (WC.cond_true rfl (DW (f:=f) rfl rfl rfl (by decide) (by decide) (by decide) (by decide) (by decide) hb1 rfl hq1 rfl fun e' he=>aB (sD hq1 ⟨w,kids,d,I,BV1⟩ K1 he)))
 refine nZ (cF rfl (sQ (WO.load (v:=.agg ⟨[vN,vO,vL]⟩) rfl hb1 rfl rfl rfl (WO.mv rfl ?_))));refine WO.a (vs:=[.agg ⟨[vN,vO,vL]⟩,vI c]) rfl rfl (mF (n:=n+1) hh I hS hnd (by omega) BV1 hc) ?_;rintro u ⟨t2,n2⟩ ⟨⟨z2,rfl⟩,k2⟩;dsimp only at k2;have g2:=k2.1;have hb2:=(k2.2 nx (by omega)).trans hb1;have hq2:=(k2.2 (nx+1) (by omega)).trans hq1;have lay:∀(e:LV) (tb:LO) (nb:Nat),aa 3 e=some (.pointer (some ⟨nx,0,none⟩))→aa 6 e=some (.pointer (some ⟨nx+1,0,none⟩))→aa 8 e=some v'→Kp t2 n2 tb nb→WC (RF1 hk (n+3)) (n+3) (.seq (.ops [(none,.pure 36 (.mv (.t 8))),(none,.pure 37 (.fadd 0 (.t 3))),(none,.store 1 (.t 37) (.t 36))]) (.seq (.ops [(none,.load 38 3 true (.t 3)),(none,.store 3 (.t 6) (.t 38)),(none,.pure 7 (.mv (.c (.int .i64 (.ofNat 0)))))]) .ret)) e ⟨[],tb,nb⟩ (mC [.cell 6 3 true,.tmp 7] false nx fun u h'=>ma S u h'.tbl h'.next∧Kp tbl nx h'.tbl h'.next):=by
  intro e tb nb e3 e6 e8 kk;have hbb:=(kk.2 nx (by omega)).trans hb2;have hqq:=(kk.2 (nx+1) (by omega)).trans hq2;have KK:=K1.trans (k2.trans kk);refine sQ (WO.mv e8 (WO.fadd e3 ?_));have hst:(⟨[],tb,nb⟩:Mem Ar).store ⟨nx,0+0,none⟩ [v']=some ⟨[],upd nx (.cells [v',vO,vL]) tb,nb⟩:=ba hbb rfl (zL rfl) rfl;refine WO.step (i:=.store 1 (.t 37) (.t 36)) (v:=undef) (m':=⟨[],upd nx (.cells [v',vO,vL]) tb,nb⟩) (aJ rfl rfl hcv rfl hst) (nZ ?_);have G2:GB tb nb [v',vO,vL] S:=(G1.kp (k2.trans kk)).row (hO.kp KK) (hL.kp KK);have G3:=G2.upd (o':=.cells [v',vO,vL]) hbb BV.slC;have hq3:aa (nx+1) (upd nx (.cells [v',vO,vL]) tb)=some (.cells bX):=(zU (by omega)).trans hqq;exact kh e3 e6 (by decide) (by decide) (zS hbb) rfl hq3 rfl fun e' he=>sD hq3 G3 (KK.Qz (Ze _)) he
 refine WO.mv rfl (nZ (WC.seq (sQ (WO.mv rfl (WO.k rfl rfl (fun _=>?_) (fun _=>?_))))))
 ·refine WO.mv rfl (WO.take rfl rfl (WO.load (v:=.agg ⟨[vN,vO,vL]⟩) rfl hb2 rfl rfl rfl (WO.take rfl rfl (WO.mv rfl (WO.take rfl rfl (WO.mv rfl (WO.take rfl rfl ?_)))))));refine WO.a (vs:=[.agg ⟨[vN,vO,vL]⟩,vI p,.int .i64 z2]) rfl rfl (tm (n:=n) hh I hS hnd hn (BV1.kp k2) hp) ?_;rintro u ⟨t5,n5⟩ ⟨⟨b5,rfl⟩,k5⟩;dsimp only at k5;have hb5:=(k5.2 nx (by omega)).trans hb2;have hq5:=(k5.2 (nx+1) (by omega)).trans hq2;cases b5 with
  |false=>exact WO.take rfl rfl (WO.pure (v:=.bool true) rfl (WO.pure (v:=.bool true) rfl (nZ (WC.cond_true rfl (kh rfl rfl (by decide) (by decide) hb5 rfl hq5 rfl fun e' he=>aB (sD hq5 ⟨w,kids,d,I,BV1.kp (k2.trans k5)⟩ (K1.trans (k2.trans k5)) he))))))
  |true=>exact WO.take rfl rfl (WO.pure (v:=.bool false) rfl (WO.pure (v:=.bool false) rfl (nZ (cF rfl (lay _ _ _ rfl rfl rfl k5)))))
 ·refine WO.mv rfl (WO.skip rfl rfl (WO.skip rfl rfl (WO.skip rfl rfl (WO.skip rfl rfl (WO.skip rfl rfl (WO.pure (v:=.bool false) rfl (nZ (cF rfl ?_))))))));exact lay _ _ _ rfl rfl rfl Kp.refl
end Go.AI
namespace Go.AI
open Go.Proofs
open Go.Fo (Wd Un Pre)
variable {tbl t' t'':LO}{nx n' n'' lo:Nat}{w:Wd}{S:List Nat}{kids:Nat→List Nat}{d:Nat→Nat}
theorem rC{hk:List (aK Ar)}(hh:DHk hk)(I:Go.Fo.Inv w S kids d)(hS:S.length<800)(hnd:S.Nodup){v:Value}{n a top:Nat}(hn:2000≤n)(ht:top∈S)(B:Bk 0 tbl nx v (bL w S kids)) :
  ∃u h',RF1 hk (n+2) 53 [v,vI a,vI top] ⟨tbl,nx⟩=some (u,h')∧((∃b,u = .bool b)∧Kp tbl nx h'.tbl h'.next):=by
 obtain⟨u,h',h1,h2,h3⟩:=qk (lo:=0) hh.r19 I hS hnd hn ht B (a:=a);exact⟨u,h',h1,⟨_,h2⟩,h3⟩
theorem wF{hk:List (aK Ar)}(hh:DHk hk)(hS:S.length<800)(hnd:S.Nodup){v:Value}{n c:Nat}(hn:1001≤n)(hc:c∈S)(B:Bk 0 tbl nx v (bL w S kids)) :
  ∃u h',RF1 hk (n+2) 52 [v,vI c] ⟨tbl,nx⟩=some (u,h')∧(u=vI (w.par c)∧Kp tbl nx h'.tbl h'.next):=by
 obtain⟨i,hi,hf⟩:=iw (w:=w) (kids:=kids) hnd hc;exact lZ hh.r19.find hh.r19.par (n:=n) (y:=(c,w.par c,kids c)) (by rw[dv];omega) hn B hi hf
theorem CJ{hk:List (aK Ar)}(hh:DHk hk)(hS:S.length<800)(hnd:S.Nodup){n c p:Nat}{l:List Value}(hn:2001≤n)(GB0:GB tbl nx l S)(hc:c∈S)(hp:p∈S) :
  ∃u h',RF1 hk (n+4) 24 [.agg ⟨l⟩,vI c,vI p] ⟨tbl,nx⟩=some (u,h')∧(ma S u h'.tbl h'.next∧Kp tbl nx h'.tbl h'.next):=by
 obtain⟨w,kids,d,I,BV⟩:=id GB0;obtain⟨vN,vO,vL,rfl,B,hO,hL⟩:=id BV;refine aG hh.gmove KU (zL rfl) ?_;dsimp only[Fk,aM];refine sQ (WO.box rfl rfl (WO.new (WO.mv rfl (nZ (WC.seq (sQ ?_))))));have hb0:aa nx ((nx+1,AObj.cells bX)::(nx,.cells [vN,vO,vL])::tbl)=some (.cells [vN,vO,vL]):=by rw[zC,if_neg (by show¬nx=nx+1;omega),zC,if_pos rfl]
 have hq0:aa (nx+1) ((nx+1,AObj.cells bX)::(nx,.cells [vN,vO,vL])::tbl)=some (.cells bX):=by rw[zC,if_pos rfl]
 have Kb:Kp tbl nx ((nx+1,AObj.cells bX)::(nx,.cells [vN,vO,vL])::tbl) (nx+1+1):=(Kp.refl.cons (Ze _) (Zo _)).cons (Zo _) (Zo _);generalize ht0:((nx+1,AObj.cells bX)::(nx,.cells [vN,vO,vL])::tbl)=t0 at hb0 hq0 Kb ⊢;have hbk:∀{tb:LO} {nb:Nat},Kp t0 (nx+1+1) tb nb→aa nx tb=some (.cells [vN,vO,vL])∧aa (nx+1) tb=some (.cells bX):=fun kk=>⟨(kk.2 nx (by omega)).trans hb0,(kk.2 (nx+1) (by omega)).trans hq0⟩
 have hcv:∀{tb:LO} {nb:Nat} {v:Value},GN tb nb v S→cR v=some [v]:=by
  rintro tb nb v ⟨_,_,_,_,k,_,_,_,rfl,_⟩;rfl
 -- an end with the old book
 have bad:∀{tb:LO} {nb f:Nat} {e':LV},Kp t0 (nx+1+1) tb nb→db e' ⟨[],upd (nx+1) (.cells [vN,vO,vL]) tb,nb⟩ [.cell 6 3 true,.tmp 7]=some [.agg ⟨[vN,vO,vL]⟩,vI f] →
   mC [.cell 6 3 true,.tmp 7] false nx (fun u h'=>ma S u h'.tbl h'.next∧Kp tbl nx h'.tbl h'.next) .ret e' ⟨[],upd (nx+1) (.cells [vN,vO,vL]) tb,nb⟩ :=
  fun kk he=>sD (hbk kk).2 (GB0.kp (Kb.trans kk)) (Kb.trans kk) he
 refine WO.fadd rfl (WO.load (v:=vN) rfl hb0 rfl rfl rfl (WO.mv rfl ?_));refine WO.a (vs:=[vN,vI c]) rfl rfl (wF (n:=n+1) hh hS hnd (by omega) hc (B.kp Kb)) ?_;rintro u ⟨t1,n1⟩ ⟨rfl,k1⟩;dsimp only at k1;refine WO.p rfl rfl (fun _=>?_) (fun _=>?_)
 ·exact nZ (WC.cond_true rfl (kh rfl rfl (by decide) (by decide) (hbk k1).1 rfl (hbk k1).2 rfl fun e' he=>aB (bad k1 he)))
 refine nZ (cF rfl (WC.seq (sQ (WO.fadd rfl (WO.load (v:=vN) rfl (hbk k1).1 rfl rfl rfl (WO.mv rfl (WO.mv rfl ?_)))))));refine WO.a (vs:=[vN,vI p,vI c]) rfl rfl (rC (n:=n+1) hh I hS hnd (by omega) hc (B.kp (Kb.trans k1))) ?_;rintro u ⟨t2,n2⟩ ⟨⟨b2,rfl⟩,k2'⟩;have k2:=k1.trans k2';dsimp only at k2;clear k2' k1;cases b2 with
 |true=>exact nZ (WC.cond_true rfl (kh rfl rfl (by decide) (by decide) (hbk k2).1 rfl (hbk k2).2 rfl fun e' he=>aB (bad k2 he)))
 |false =>
 refine nZ (cF rfl (sQ (WO.fadd rfl (WO.load (v:=vN) rfl (hbk k2).1 rfl rfl rfl (WO.mv rfl ?_)))));refine WO.a (vs:=[vN,vI c]) rfl rfl (v6 (n:=n+1) hh I hS hnd (by omega) hc (B.kp (Kb.trans k2))) ?_;rintro u ⟨t3,n3⟩ ⟨⟨v3,f3,rfl,w3,kids3,d3,I3,B3⟩,k3'⟩;have k3:=k2.trans k3';dsimp only at k3 B3;clear k3';refine WO.mv rfl (WO.pure (v:=v3) rfl (WO.pure (v:=vI f3) rfl (WO.mv rfl (WO.mv rfl (nZ (sQ (WO.mv rfl (WO.mv rfl (WO.mv rfl ?_)))))))));refine WO.a (vs:=[v3,vI p,vI c]) rfl rfl (uS (n:=n) hh I3 hS hnd (by omega) hp hc B3) ?_;rintro u ⟨t4,n4⟩ ⟨⟨v4,f4,rfl,G4⟩,k4'⟩;have k4:=k3.trans k4';dsimp only at k4 G4;clear k4';have hcv4:=hcv G4;obtain⟨w4,kids4,d4,I4,B4⟩:=G4;obtain⟨kO,_,_,_,rfl,_⟩:=id hO;obtain⟨kL,_,_,_,rfl,_⟩:=id hL;obtain⟨kN4,_,_,_,rfl,_⟩:=id B4;generalize hv4:Value.slice (some ⟨kN4,0,none⟩) (bL w4 S kids4).length (bL w4 S kids4).length=v4 at B4 hcv4 ⊢;refine WO.mv rfl (WO.pure (v:=v4) rfl (WO.pure (v:=vI f4) rfl (WO.mv rfl (nZ (sQ (WO.mv rfl (WO.fadd rfl (WO.load rfl (hbk k4).1 rfl rfl rfl (WO.fadd rfl (WO.load rfl (hbk k4).1 rfl rfl rfl ?_))))))))));refine WO.pure (v:=.agg ⟨[v4,.slice (some ⟨kO,0,none⟩) S.length S.length,.slice (some ⟨kL,0,none⟩) S.length S.length]⟩) ?_ (WO.new ?_)
 ·subst hv4;rfl
 have hn4:aa n4 ((n4,AObj.cells bX)::t4)=some (.cells bX):=by rw[zC,if_pos rfl]
 refine WO.step (i:=.store 3 (.t 10) (.t 44)) (dt (l:=[v4,.slice (some ⟨kO,0,none⟩) S.length S.length,.slice (some ⟨kL,0,none⟩) S.length S.length]) rfl rfl rfl hn4 rfl) ?_;rw[cw];have K4:Kp t4 n4 ((n4,AObj.cells [v4,.slice (some ⟨kO,0,none⟩) S.length S.length,.slice (some ⟨kL,0,none⟩) S.length S.length])::t4) (n4+1):=Kp.refl.cons (Ze _) (Zo _);have hx4:aa n4 ((n4,AObj.cells [v4,.slice (some ⟨kO,0,none⟩) S.length S.length,.slice (some ⟨kL,0,none⟩) S.length S.length])::t4)=some (.cells [v4,.slice (some ⟨kO,0,none⟩) S.length S.length,.slice (some ⟨kL,0,none⟩) S.length S.length]):=by rw[zC,if_pos rfl]
 have BN:Bv t4 n4 [v4,.slice (some ⟨kO,0,none⟩) S.length S.length,.slice (some ⟨kL,0,none⟩) S.length S.length] w4 S kids4:=⟨_,_,_,rfl,B4,hO.kp (Kb.trans k4),hL.kp (Kb.trans k4)⟩;have BN5:=BN.kp K4;have B5:=B4.kp K4;have k5:=k4.trans K4;have g4:=k4.1;generalize ht5:((n4,AObj.cells [v4,.slice (some ⟨kO,0,none⟩) S.length S.length,.slice (some ⟨kL,0,none⟩) S.length S.length])::t4)=t5 at hx4 BN5 B5 k5 ⊢;refine nZ (WC.seq (sQ (WO.mv rfl (WO.mv rfl (nZ (WC.block ?_))))));refine WC.loop (fun j e tb nb=>∃cur,(cur≠0→cur∈S)∧j=(if cur=0 then 0 else d4 cur+1)∧e 11=some (vI cur)∧e 1=some (vI c)∧e 3=some (.pointer (some ⟨nx,0,none⟩))∧e 6=some (.pointer (some ⟨nx+1,0,none⟩))∧e 8=some v4∧e 10=some (.pointer (some ⟨n4,0,none⟩))∧Kp t5 (n4+1) tb nb) (k:=d4 p+1) (by have:=I4.lt hp;omega)
  ⟨p,fun _=>hp,by rw[if_neg (I4.ne0 hp)],rfl,rfl,rfl,rfl,rfl,rfl,Kp.refl⟩ ?_
 rintro j e tb nb ⟨cur,hcu,hj,e11,e1,e3,e6,e8,e10,hK⟩;dsimp only at e11 e1 e3 e6 e8 e10;have kk:=k5.trans hK;have hbx:=(hbk kk).1;have hqx:=(hbk kk).2;have hnx4:aa n4 tb=some (.cells [v4,.slice (some ⟨kO,0,none⟩) S.length S.length,.slice (some ⟨kL,0,none⟩) S.length S.length]):=(hK.2 n4 (ZF _)).trans hx4;have g0:=kk.1;refine WC.seq (sQ (WO.mv e11 (WO.e rfl rfl (fun hz=>?_) (fun hz=>?_))))
 ·have h0:cur≠0:=fun q=>hz (by rw[q])
  have hcS:=hcu h0;rw[if_neg h0] at hj;have next:∀(Q:Ex→LV→Mem Ar→Prop) (e':LV) (tb':LO) (nb':Nat),aa 11 e'=some (vI cur)→aa 1 e'=some (vI c)→aa 3 e'=some (.pointer (some ⟨nx,0,none⟩))→aa 6 e'=some (.pointer (some ⟨nx+1,0,none⟩))→aa 8 e'=some v4→aa 10 e'=some (.pointer (some ⟨n4,0,none⟩))→Kp tb nb tb' nb' →
    (∀e'' tb'' nb'' j' cur',j'<j→(cur'≠0→cur'∈S)→j'=(if cur'=0 then 0 else d4 cur'+1)→aa 11 e''=some (vI cur')→aa 1 e''=some (vI c)→aa 3 e''=some (.pointer (some ⟨nx,0,none⟩))→aa 6 e''=some (.pointer (some ⟨nx+1,0,none⟩))→aa 8 e''=some v4→aa 10 e''=some (.pointer (some ⟨n4,0,none⟩))→Kp t5 (n4+1) tb'' nb''→Q .norm e'' ⟨[],tb'',nb''⟩) →
    WC (RF1 hk (n+3)) (n+3) (.ops [(none,.pure 48 (.mv (.t 8))),(none,.pure 49 (.mv (.t 11))),(none,.call (some 50) (.c (.func (.func 52) (.mk []) (.mk []))) [.t 48,.t 49]),(none,.pure 11 (.mv (.t 50)))]) e' ⟨[],tb',nb'⟩ Q:=by
   intro Q e' tb' nb' f11 f1 f3 f6 f8 f10 hK' hQ;refine WC.ops (WO.mv f8 (WO.mv f11 ?_));refine WO.a (vs:=[v4,vI cur]) rfl rfl (wF (n:=n+1) hh hS hnd (by omega) hcS (B5.kp (hK.trans hK'))) ?_;rintro u ⟨t2,n2⟩ ⟨rfl,k2⟩;refine WO.mv rfl (WO.nil ?_);refine hQ _ _ _ (if w4.par cur=0 then 0 else d4 (w4.par cur)+1) (w4.par cur) ?_ (fun q=>(I4.par cur hcS q).1) rfl rfl f1 f3 f6 f8 f10 ((hK.trans hK').trans k2);rw[hj];by_cases q:w4.par cur=0
   ·rw[if_pos q];omega
   ·rw[if_neg q,I4.dep cur hcS q];omega
  refine nZ (WC.cond_true rfl (WC.skip (zN (WC.seq (WC.block (WC.seq (WC.a ?_)))))));have K1:Kp tb nb tb (nb+8):=Kp.refl.up (Zn _ _);have BV1:=BV.kp (Kb.trans (kk.trans K1));obtain⟨u,⟨t6,n6⟩,hd1,⟨i6,hi6,rfl⟩,k6⟩:=nj (n:=n+2) hh.gat hS hnd (by omega) BV1 hcS;dsimp only at k6;have K6:=K1.trans k6;have g6:=k6.1;have hL1:=hL.kp (Kb.trans (kk.trans K6));obtain⟨ko,zo,hvo,hko,hld⟩:=hL1.at hi6;injection hvo with hvo;injection hvo with hvo;injection hvo with hvo;subst hvo;have hbx6:aa nx t6=some (.cells [vN,.slice (some ⟨kO,0,none⟩) S.length S.length,.slice (some ⟨kL,0,none⟩) S.length S.length]):=(k6.2 nx (by omega)).trans hbx;have y1:∀m,(⟨[],tb,m⟩:Mem Ar).load ⟨nx,0+2,none⟩ 1=some [.slice (some ⟨kL,0,none⟩) S.length S.length]:=fun m=>ae hbx rfl rfl
  have y2:(⟨[],t6,n6⟩:Mem Ar).load ⟨nx,0+2,none⟩ 1=some [.slice (some ⟨kL,0,none⟩) S.length S.length]:=ae hbx6 rfl rfl;have y3:∀m,(⟨[],tb,m⟩:Mem Ar).load ⟨nx,0,none⟩ 3=some [vN,.slice (some ⟨kO,0,none⟩) S.length S.length,.slice (some ⟨kL,0,none⟩) S.length S.length]:=fun m=>ae hbx rfl rfl
  have y4:(⟨[],t6,n6⟩:Mem Ar).load ⟨nx,0,none⟩ 3=some [vN,.slice (some ⟨kO,0,none⟩) S.length S.length,.slice (some ⟨kL,0,none⟩) S.length S.length]:=ae hbx6 rfl rfl;have y5:=hld t6 n6 Kp.refl;have c1:=BV1.ceq;have c2:=hL1.ceq;have c3:dC [Value.int .i64 zo] [.int .i64 zo]=true:=eI _ _;refine WD.pure (ct (az e3 rfl rfl)) (WD.load (m:=⟨[],tb,nb+8⟩) (ms:=[]) (v:=.slice (some ⟨kL,0,none⟩) S.length S.length) rfl (y1 _) rfl (WD.load (m:=⟨[],tb,nb+8⟩) (ms:=[]) (v:=.agg ⟨[vN,.slice (some ⟨kO,0,none⟩) S.length S.length,.slice (some ⟨kL,0,none⟩) S.length S.length]⟩) (az e3 rfl rfl) (y3 _) rfl (WD.pure (az e11 rfl rfl) ?_)));refine WD.chn (m:=⟨[],tb,nb+8⟩) (m':=⟨[],t6,n6⟩) (v:=vI i6) rfl rfl rfl (aW (m:=⟨[],tb,nb+8⟩) (h:=⟨t6,n6⟩) (vs:=[.agg ⟨[vN,.slice (some ⟨kO,0,none⟩) S.length S.length,.slice (some ⟨kL,0,none⟩) S.length S.length]⟩,vI cur]) rfl rfl hd1) ?_;refine WD.pure (dF rfl rfl rfl hi6) (WD.load (m:=⟨[],t6,n6⟩) (v:=.int .i64 zo) rfl y5 rfl (WD.pure rfl (WD.nil ⟨?_,_,_,rfl,?_⟩)))
  ·simp only[bi,bn,y1,y2,y3,y4,y5,c1,c2,c3];rfl
  have B6:=(B.kp (Kb.trans (kk.trans K6)));refine zN (sQ (WO.fadd (m:=⟨[],t6,n6⟩) e3 (WO.load (v:=vN) rfl hbx6 rfl rfl rfl (WO.mv e1 (WO.mv e11 ?_)))));refine WO.a (vs:=[vN,vI c,vI cur]) rfl rfl (rC (n:=n+1) hh I hS hnd (by omega) hcS B6) ?_;rintro u ⟨t7,n7⟩ ⟨⟨b7,rfl⟩,k7'⟩;have K7:=K6.trans k7';dsimp only at K7;clear k7';cases b7 with
  |true =>
   refine WO.pure (v:=.bool false) rfl (WO.mv rfl (WO.skip rfl rfl (WO.skip rfl rfl (WO.pure (v:=.bool false) rfl (WO.mv rfl (WO.skip rfl rfl (WO.skip rfl rfl (WO.skip rfl rfl (WO.skip rfl rfl (WO.skip rfl rfl (WO.pure (v:=.bool false) rfl (nZ (WC.cond_false rfl (WC.skip (zB (zN ?_))))))))))))))));exact next _ _ _ _ e11 e1 e3 e6 e8 e10 K7 fun e'' tb'' nb'' j' cur' p1 p2 p3 p4 p5 p6 p7 p8 p9 p10=>⟨j',p1,rfl,cur',p2,p3,p4,p5,p6,p7,p8,p9,p10⟩
  |false =>
   refine WO.pure (v:=.bool true) rfl (WO.mv rfl (WO.take rfl rfl (WO.mv rfl (WO.take rfl rfl (WO.q rfl rfl (fun _=>?_) (fun _=>?_))))))
   ·refine WO.pure (v:=.bool true) rfl (WO.mv rfl (WO.take rfl rfl ?_));have hn7:aa n4 t7=some (.cells [v4,.slice (some ⟨kO,0,none⟩) S.length S.length,.slice (some ⟨kL,0,none⟩) S.length S.length]):=(K7.2 n4 (by have:=hK.1;omega)).trans hnx4;refine WO.load (v:=.agg ⟨[v4,.slice (some ⟨kO,0,none⟩) S.length S.length,.slice (some ⟨kL,0,none⟩) S.length S.length]⟩) e10 hn7 rfl rfl rfl (WO.take rfl rfl (WO.mv e11 (WO.take rfl rfl ?_)));refine WO.a (vs:=[.agg ⟨[v4,.slice (some ⟨kO,0,none⟩) S.length S.length,.slice (some ⟨kL,0,none⟩) S.length S.length]⟩,vI cur]) rfl rfl (mF (n:=n+1) hh I4 hS hnd (by omega) (BN5.kp (hK.trans K7)) hcS) ?_;rintro u ⟨t8,n8⟩ ⟨⟨z8,rfl⟩,k8'⟩;have K8:=K7.trans k8';dsimp only at K8;clear k8';have kk8:=kk.trans K8;refine WO.take rfl rfl (WO.mv rfl (WO.take rfl rfl (WO.k rfl rfl (fun _=>?_) (fun _=>?_))))
    ·refine WO.pure (v:=.bool true) rfl (nZ (WC.cond_true rfl (kh e3 e6 (by decide) (by decide) (hbk kk8).1 rfl (hbk kk8).2 rfl fun e' he=>?_)));exact a9 (aB (a9 (aB (bad kk8 he))))
    ·refine WO.pure (v:=.bool false) rfl (nZ (WC.cond_false rfl (WC.skip (zB (zN ?_)))));exact next _ _ _ _ e11 e1 e3 e6 e8 e10 K8 fun e'' tb'' nb'' j' cur' p1 p2 p3 p4 p5 p6 p7 p8 p9 p10=>⟨j',p1,rfl,cur',p2,p3,p4,p5,p6,p7,p8,p9,p10⟩
   ·refine WO.pure (v:=.bool false) rfl (WO.mv rfl (WO.skip rfl rfl (WO.skip rfl rfl (WO.skip rfl rfl (WO.skip rfl rfl (WO.skip rfl rfl (WO.pure (v:=.bool false) rfl (nZ (WC.cond_false rfl (WC.skip (zB (zN ?_))))))))))));exact next _ _ _ _ e11 e1 e3 e6 e8 e10 K7 fun e'' tb'' nb'' j' cur' p1 p2 p3 p4 p5 p6 p7 p8 p9 p10=>⟨j',p1,rfl,cur',p2,p3,p4,p5,p6,p7,p8,p9,p10⟩
 ·refine nZ (WC.cond_false rfl (WC.exit (aR (aI (zN ?_)))));exact kh e10 e6 (by decide) (by decide) hnx4 rfl hqx rfl fun e' he=>sD hqx ⟨w4,kids4,d4,I4,BN5.kp hK⟩ (Kb.trans kk) he
end Go.AI
