/- The law of links that come and go: what it keeps. -/
import Derived.Test.YthoiknijhfnadaaGreatDoorKKc
import Derived.Test.YthoiknijhfnadaaGreatDoorKCl
import Derived.Test.YthoiknijhfnadaaGreatDoorKAy
set_option maxRecDepth 8000
namespace Go.AI
open Go.Proofs
variable {x:Ar}{tbl t' t'':List (Nat×AObj Ar)}{nx n' n'' j a s i w z ty lo lo2 b P off:Nat}{L M Q:List (Nat×Nat)}
theorem open_run{hk:List (HookF Ar)}(hh:hookL hk 21=none){n:Nat}:∃u h',RW hk (n+1) 21 [vW j a s] ⟨tbl,nx⟩=some (u,h')∧(u=vW j a s∧Kq tbl nx h'.tbl h'.next):=by
 refine run_fn hh fKOpen (zL rfl) ?_
 dsimp only[iKOpen,argsE]
 refine WC.seq (WC.ops (WO.box (v:=vW j a s) (cs:=[.pointer (some ⟨j,0,none⟩),vI a,vI s]) rfl rfl (WO.new (WO.nil (zN ?_)))))
 have c0:look nx ((nx+1,AObj.cells [.pointer none,.int .i64 (.ofNat 0),.int .i64 (.ofNat 0)])::(nx,AObj.cells [.pointer (some ⟨j,0,none⟩),vI a,vI s])::tbl)=some (.cells [.pointer (some ⟨j,0,none⟩),vI a,vI s]):=by rw[zC,if_neg (by show¬nx=nx+1;omega),zC,if_pos rfl]
 refine WC.seq (WC.ops (WO.load (ob:=.cells [.pointer (some ⟨j,0,none⟩),vI a,vI s]) (v:=vW j a s) rfl c0 rfl rfl rfl (WO.pure (v:=vW j a s) rfl (WO.step (i:=.store 3 (.t 2) (.t 4)) (v:=undef) (m':=⟨[],(nx+1,.cells [.pointer (some ⟨j,0,none⟩),vI a,vI s])::(nx,.cells [.pointer (some ⟨j,0,none⟩),vI a,vI s])::tbl,nx+1+1⟩) ?_ (WO.nil (zN (WC.ret ?_)))))))
 ·have hm:=mem_store (nx:=nx+1+1) (vs:=[Value.pointer (some ⟨j,0,none⟩),vI a,vI s]) (o:=0) (ob':=.cells [.pointer (some ⟨j,0,none⟩),vI a,vI s]) (tbl:=(nx+1,AObj.cells [.pointer none,.int .i64 (.ofNat 0),.int .i64 (.ofNat 0)])::(nx,.cells [.pointer (some ⟨j,0,none⟩),vI a,vI s])::tbl) (i:=nx+1) (by rw[zC,if_pos rfl]) rfl (zL rfl) rfl
  rw[updH] at hm
  exact estep_store rfl rfl rfl rfl hm
 ·have hl:look (nx+1) ((nx+1,AObj.cells [.pointer (some ⟨j,0,none⟩),vI a,vI s])::(nx,.cells [.pointer (some ⟨j,0,none⟩),vI a,vI s])::tbl)=some (.cells [.pointer (some ⟨j,0,none⟩),vI a,vI s]):=by rw[zC,if_pos rfl]
  have hld:(⟨[],(nx+1,.cells [.pointer (some ⟨j,0,none⟩),vI a,vI s])::(nx,.cells [.pointer (some ⟨j,0,none⟩),vI a,vI s])::tbl,nx+1+1⟩:Mem Ar).load ⟨nx+1,0,none⟩ 3=some [.pointer (some ⟨j,0,none⟩),vI a,vI s]:=mem_load hl rfl rfl
  have KK:Kq tbl nx ((nx+1,AObj.cells [.pointer (some ⟨j,0,none⟩),vI a,vI s])::(nx,.cells [.pointer (some ⟨j,0,none⟩),vI a,vI s])::tbl) (nx+1+1):=(Kq.refl.cons (Nat.le_refl _) (Nat.le_succ _)).cons (by omega) (by omega)
  refine⟨[vW j a s],vW j a s,?_,rfl,rfl,KK⟩
  show(match(⟨[],(nx+1,.cells [.pointer (some ⟨j,0,none⟩),vI a,vI s])::(nx,.cells [.pointer (some ⟨j,0,none⟩),vI a,vI s])::tbl,nx+1+1⟩:Mem Ar).load ⟨nx+1,0,none⟩ 3 with
   |some cs=>(match oneOf true cs with
    |some v=>some [v]
    |none=>none)
   |none=>none)=_
  rw[hld];rfl
abbrev ActL:=Bool×Nat×Nat
def actL(a:ActL):List Value:=[.bool a.1,.int .u64 (.ofNat a.2.1),.int .u64 (.ofNat a.2.2)]
def actsL:List ActL→List Value
 |[]=>[]
 |a::r=>actL a++actsL r
theorem actsL_len:∀l:List ActL,(actsL l).length=l.length*3
 |[]=>rfl
 |a::r=>by
  have:(actsL (a::r)).length=3+(actsL r).length:=by
   show(actL a++actsL r).length=_
   rw[List.length_append];rfl
  rw[this,actsL_len r,List.length_cons];omega
theorem actsL_get:∀{l:List ActL} {i:Nat} {a:ActL},l[i]? = some a→takeN (actsL l) (i*3) 3=some (actL a)
 |[],_,_,h=>by simp at h
 |b::r,0,a,h=>by
  simp only[List.getElem?_cons_zero,zI] at h;subst h
  rfl
 |b::r,i+1,a,h=>by
  have ih:=actsL_get (l:=r) (i:=i) (a:=a) (by simpa using h)
  rw[show(i+1)*3=i*3+1+1+1 by omega]
  exact ih
theorem winL_load{l:List ActL}{i:Nat}{a:ActL}(h0:look 0 tbl=some (.ro off (actsL l)))(h:l[i]? = some a):(⟨[],tbl,nx⟩:Mem Ar).load ⟨0,off+i*3,none⟩ 3=some (actL a):=by
 have hg:(⟨[],tbl,nx⟩:Mem Ar).get 0=some (.ro off (actsL l)):=h0
 have hb:Nat.ble off (off+i*3)=true:=by rw[Nat.ble_eq];omega
 have hs:Nat.sub (off+i*3) off=i*3:=by show off+i*3-off=i*3;omega
 simp only[Mem.load,hg,cellsO,winO,hb,cond_true,hs,actsL_get h]
theorem estep_ldK{call:CallFn Ar}{env:List (Nat×Value)}{m:Mem Ar}{d n:Nat}{g:Bool}{a:Opd}{ad:Addr}{cs:List Value}{v:Value}(ha:evo env a=some (.pointer (some ad)))(hl:m.load ad n=some cs)(hv:oneOf g cs=some v):estep call env m (.load d n g a)=some (v,m):=by
 simp only[estep,mstep,ha,hl,hv,Option.map]
theorem RowT.kx{v:Value}(h:RowT ty lo tbl nx v L)(hj:j<lo)(K:Kx j tbl nx t' n'):RowT ty lo t' n' v L:=by
 rcases h with h|⟨h0,r,h1,h2,h3,h4⟩
 ·exact .inl h
 ·exact .inr ⟨h0,r,h1,Nat.lt_of_lt_of_le h2 K.1,h3,(K.2 r h2 (by omega)).trans h4⟩
structure PSt(off:Nat)(l:List ActL)(b s P:Nat)(Q:List (Nat×Nat))(v:Value)(tb:List (Nat×AObj Ar))(nb:Nat):Prop where
 l0:look 0 tb=some (.ro off (actsL l))
 l1:look 1 tb=some (.ext ⟨[some P],false,0⟩)
 lb:look b tb=some (.cells [.pointer (some ⟨1,0,none⟩),vI 40,vI s])
 h1:1<b
 h2:b<nb
 row:RowT 52 (b+1) tb nb v Q
 hq:pgL P 40 (s / 16) 0=Q
 hu:Uni Q
theorem PSt.kq{l:List ActL}{v:Value}(h:PSt off l b s P Q v tbl nx)(K:Kq tbl nx t' n'):PSt off l b s P Q v t' n':=by
 have a:=h.h1
 have c:=h.h2
 exact⟨(K.2 0 (by omega)).trans h.l0,(K.2 1 (by omega)).trans h.l1,(K.2 b c).trans h.lb,a,Nat.lt_of_lt_of_le c K.1,h.row.kq K,h.hq,h.hu⟩
theorem PSt.kx{l:List ActL}{v:Value}{P':Nat}(h:PSt off l b s P Q v tbl nx)(K:Kx 1 tbl nx t' n')(hl:look 1 t'=some (.ext ⟨[some P'],false,0⟩))(hq:pgL P' 40 (s / 16) 0=M)(hu:Uni M) :
  look 0 t'=some (.ro off (actsL l))∧look 1 t'=some (.ext ⟨[some P'],false,0⟩)∧look b t'=some (.cells [.pointer (some ⟨1,0,none⟩),vI 40,vI s])∧b<n'∧RowT 52 (b+1) t' n' v Q:=by
 have a:=h.h1
 have c:=h.h2
 exact⟨(K.2 0 (by omega) (by omega)).trans h.l0,hl,(K.2 b c (by omega)).trans h.lb,Nat.lt_of_lt_of_le c K.1,h.row.kx (by omega) K⟩
end Go.AI
/- The law of links that come and go: it answers yes. -/
namespace Go.AI
open Go.Proofs
variable {x:Ar}{tbl t' t'':List (Nat×AObj Ar)}{nx n' n'' j a s i w z ty lo lo2 b P off:Nat}{L M Q:List (Nat×Nat)}
def hRP:List (HookF Ar):=(6,constH (.bool true))::(29,cloneH)::(52,recH)::(53,allW)::(75,putW)::(49,insertH 2 67)::hV4
theorem hRP_w:WHk6 hRP:=⟨⟨⟨⟨⟨⟨⟨_,rfl⟩,rfl,rfl,rfl,rfl,rfl⟩,rfl,rfl,rfl,rfl⟩,⟨_,rfl⟩,rfl,rfl⟩,rfl⟩,rfl,rfl⟩,rfl,rfl⟩
theorem of_at{g:List Value→Option Value}(hl:look j tbl=some (.ext x))(hx:x.refuse<9223372036854775808)(hv:bytesE x (.ofNat a) (.ofNat s)=0) :
  liftH spVOf g [.pointer (some ⟨j,0,none⟩),vI a,vI s] ⟨tbl,nx⟩=some (.tuple ⟨[vW j a s,errV 0]⟩,⟨tbl,nx⟩):=by
 have e:Nat.blt x.refuse 9223372036854775808=true:=by rw[blt_iff];exact decide_eq_true hx
 have hu:upd j (AObj.ext x) tbl=tbl:=upd_sameW hl
 have h1:firstV [.pointer (some ⟨j,0,none⟩),vI a,vI s]=some j:=rfl
 have hb:Nat.beq j j=true:=Nat.beq_refl j
 have h2:canL j [.pointer (some ⟨j,0,none⟩),vI a,vI s]=some [pA,vI a,vI s]:=by
  simp only[canL,canV,canFs,canF,hb,cond_true]
 have h3:spVOf x [pA,vI a,vI s]=some (.tuple ⟨[vwC (.ofNat a) (.ofNat s),errV 0]⟩,x):=by
  simp only[spVOf,hv]
 have h4:backV j (.tuple ⟨[vwC (.ofNat a) (.ofNat s),errV 0]⟩)=some (.tuple ⟨[vW j a s,errV 0]⟩):=rfl
 simp only[liftH,h1,hl,e,cond_true,h2,h3,h4,hu]
theorem pv_convW{env:List (Nat×Value)}{x:Opd}{n:Nat}(hx:evo env x=some (.int .u16 (.ofNat n)))(hn:n<65536):peval env (.conv .i64 x)=some (.int .i64 (.ofNat n)):=by
 have h:wrapF .i64 (Int.ofNat n)=Int.ofNat n:=wrap64 (by simp only[zO];omega) (by simp only[zO];omega)
 simp only[peval,hx,h]
theorem pv_neqI{env:List (Nat×Value)}{x y:Opd}{a:Int}{j:IntKind}(hx:evo env x=some (.int j a))(hy:evo env y=some (.int j a)):peval env (.bin .neq .no x y)=some (.bool false):=by
 have h:ieqF a a=true:=ieqF_refl a
 have e:intBin .neq j a j a=some (.bool (!ieqF a a)):=by
  unfold intBin
  simp
 simp only[peval,hx,hy,binVal]
 rw[e,h];rfl
theorem pv_neqB{env:List (Nat×Value)}{x y:Opd}{b:Bool}(hx:evo env x=some (.bool b))(hy:evo env y=some (.bool b)):peval env (.bin .neq .num x y)=some (.bool false):=by
 simp only[peval,hx,hy,binVal,eqVal,cellEq]
 cases b<;>rfl
theorem pv_faddP{env:List (Nat×Value)}{o:Nat}{x:Opd}{i j:Nat}(hx:evo env x=some (.pointer (some ⟨i,j,none⟩))):peval env (.fadd o x)=some (.pointer (some ⟨i,j+o,none⟩)):=by
 simp only[peval,hx]
theorem WO.nstW{call:CallFn Ar}{env:List (Nat×Value)}{K:List (Nat×Value)→Mem Ar→Prop}{l:List (Option (Nat×Bool)×IOp)}{d:Nat}{y:Opd}{c1 c2 c3 e1 e2 e3:Value}(hy:evo ((d,.pointer (some ⟨nx,0,none⟩))::env) y=some (.agg ⟨[e1,e2,e3]⟩))
  (k:WO call l ((d,.pointer (some ⟨nx,0,none⟩))::env) ⟨[],(nx,.cells [e1,e2,e3])::tbl,nx+1⟩ K):WO call ((none,.new d true [c1,c2,c3])::(none,.store 3 (.t d) y)::l) env ⟨[],tbl,nx⟩ K:=by
 refine WO.new (WO.step (i:=.store 3 (.t d) y) (v:=undef) (m':=⟨[],(nx,.cells [e1,e2,e3])::tbl,nx+1⟩) ?_ k)
 have hm:=mem_store (nx:=nx+1) (vs:=[e1,e2,e3]) (o:=0) (ob':=.cells [e1,e2,e3]) (tbl:=(nx,AObj.cells [c1,c2,c3])::tbl) (i:=nx) (by rw[zC,if_pos rfl]) rfl (zL rfl) rfl
 rw[updH] at hm
 exact estep_store (by show look d (_::_)=_;rw[zC,if_pos rfl]) hy rfl rfl hm
theorem rplay_run{N:Nat}{l:List ActL}(hN:N<65536)(hu:∀a,a∈l→a.2.1<18446744073709551616∧a.2.2<18446744073709551616)(hll:l.length≤9223372036854775807){ad:Option Addr}{cp:Nat}(had:l.length≠0→ad=some ⟨0,off,some 1⟩) :
  ∃v h',RW hRP 2014 4 [.int .u16 (.ofNat N),.slice ad l.length cp] ⟨[(0,.ro off (actsL l))],1⟩=some (v,h')∧v = .bool true:=by
 have hh:=hRP_w
 refine run_fn rfl fPlay (zL rfl) ?_
 dsimp only[iPlay,argsE]
 refine WC.seq (WC.ops (WO.mv rfl (WO.nil (zN (WC.seq (WC.seq (WC.ops ?_)))))))
 refine WO.fcall (vs:=[]) (v:=.bool true) (h:=⟨[(0,.ro off (actsL l))],1⟩) rfl rfl ((run_hook (n:=2012) (g:=constH (.bool true)) rfl).trans rfl) ?_
 refine WO.pure (v:=.bool false) rfl (WO.nil (zN (WC.cond_false rfl (WC.skip (zN (WC.seq (WC.seq (WC.ops (WO.mv rfl (WO.len rfl ?_))))))))))
 refine WO.gtrS rfl rfl (fun _=>?_) (fun hle=>?_)
 ·refine WO.nil (zN (WC.cond_true rfl (WC.seq (WC.ops (WO.mv rfl (WO.nil (zN (WC.ret (thenC_ret ⟨_,_,rfl,rfl,rfl⟩)))))))))
 have hl60:l.length≤60:=by simp only[zO] at hle;omega
 refine WO.nil (zN (WC.cond_false rfl (WC.skip (zN (WC.seq (WC.ops ?_))))))
 refine WO.mv rfl (WO.pure (pv_convW rfl (by omega)) (WO.rem rfl rfl (WO.mv rfl (WO.nil (zN ?_)))))
 generalize hs:N % (400+1)=s
 have hs4:s≤400:=by omega
 refine WC.seq (WC.ops ?_)
 refine WO.fcall (vs:=[vI 1]) (v:=.pointer (some ⟨1,0,none⟩)) (h:=⟨[(1,.ext ⟨[none],false,0⟩),(0,.ro off (actsL l))],2⟩) rfl rfl ((run_hook (n:=2012) (g:=newH) rfl).trans rfl) ?_
 refine WO.mv rfl (WO.nil (zN (WC.seq (WC.ops (WO.mv rfl ?_)))))
 refine WO.fcall (vs:=[.pointer (some ⟨1,0,none⟩),vI 0,vI 1]) (v:=errV 0) (h:=⟨[(1,.ext ⟨[some 0],false,0⟩),(0,.ro off (actsL l))],2⟩) rfl rfl ((run_hook (n:=2012) (g:=liftH (spAm commitS1) (fun _=>none)) rfl).trans rfl) ?_
 refine WO.mv rfl (WO.nil (zN (WC.seq (WC.ops (WO.mv rfl (WO.mv rfl ?_))))))
 refine WO.fcall (vs:=[.pointer (some ⟨1,0,none⟩),vI 40,vI s]) (v:=.tuple ⟨[vW 1 40 s,errV 0]⟩) (h:=⟨[(1,.ext ⟨[some 0],false,0⟩),(0,.ro off (actsL l))],2⟩) rfl rfl ((run_hook (n:=2012) rfl).trans (of_at (x:=⟨[some 0],false,0⟩) rfl (by decide) (bytesE_in (p:=0) (P:=0) (off:=40) rfl (by omega)))) ?_
 refine WO.mv rfl (WO.pure (v:=vW 1 40 s) rfl (WO.pure (v:=errV 0) rfl (WO.new (WO.step (i:=.store 3 (.t 8) (.t 33)) (v:=undef) (m':=⟨[],[(2,.cells [.pointer (some ⟨1,0,none⟩),vI 40,vI s]),(1,.ext ⟨[some 0],false,0⟩),(0,.ro off (actsL l))],3⟩) (estep_store rfl rfl rfl rfl rfl) (WO.mv rfl (WO.nil (zN ?_)))))))
 refine WC.seq (WC.seq (WC.ops (WO.mv rfl (WO.pure (v:=.bool false) rfl (WO.mv rfl (WO.take rfl rfl (WO.mv rfl (WO.take rfl rfl (WO.pure (v:=.bool false) rfl (WO.pure (v:=.bool false) rfl (WO.nil (zN (WC.cond_false rfl (WC.skip (zN ?_)))))))))))))))
 refine WC.seq (WC.ops (WO.load (ob:=.cells [.pointer (some ⟨1,0,none⟩),vI 40,vI s]) (v:=vW 1 40 s) rfl rfl rfl rfl rfl ?_))
 refine WO.fcall_ex (vs:=[vW 1 40 s]) rfl rfl (open_run (hk:=hRP) (n:=2012) rfl) ?_
 rintro u ⟨t1,n1⟩ ⟨rfl,k1⟩
 dsimp only at k1
 have g1:3≤n1:=k1.1
 refine WO.new (WO.step (i:=.store 3 (.t 10) (.t 42)) (v:=undef) (m':=⟨[],(n1,.cells [.pointer (some ⟨1,0,none⟩),vI 40,vI s])::t1,n1+1⟩) ?_ (WO.nil (zN ?_)))
 ·have hm:=mem_store (nx:=n1+1) (vs:=[Value.pointer (some ⟨1,0,none⟩),vI 40,vI s]) (o:=0) (ob':=.cells [.pointer (some ⟨1,0,none⟩),vI 40,vI s]) (tbl:=(n1,AObj.cells [.pointer none,.int .i64 (.ofNat 0),.int .i64 (.ofNat 0)])::t1) (i:=n1) (by rw[zC,if_pos rfl]) rfl (zL rfl) rfl
  rw[updH] at hm
  exact estep_store rfl rfl rfl rfl hm
 refine WC.seq (WC.ops (WO.mv rfl (WO.nil (zN ?_))))
 have F0:PSt off l n1 s 0 [] (.slice none 0 0) ((n1,AObj.cells [.pointer (some ⟨1,0,none⟩),vI 40,vI s])::t1) (n1+1):=by
  refine⟨?_,?_,by rw[zC,if_pos rfl],by omega,Nat.lt_succ_self _,.inl ⟨rfl,rfl⟩,?_,by simp[Uni]⟩
  ·rw[zC,if_neg (by show¬0=n1;omega)];exact k1.2 0 (by decide)
  ·rw[zC,if_neg (by show¬1=n1;omega)];exact k1.2 1 (by decide)
  ·cases s / 16 with
   |zero=>rfl
   |succ q=>unfold pgL;rw[if_pos (by unfold pgW;simp)]
 refine WC.seq (WC.seq (WC.ops (WO.mv rfl (WO.len rfl (WO.mv rfl (WO.nil (zN (WC.block ?_))))))))
 refine WC.loop (fun q e tb nb=>∃i v P Q,i+q=l.length∧e 5=some (vI s)∧e 6=some (.pointer (some ⟨1,0,none⟩))∧e 10=some (.pointer (some ⟨n1,0,none⟩))∧e 11=some v∧e 43=some (.slice ad l.length cp)∧e 44=some (vI l.length)∧e 45=some (vI i)∧PSt off l n1 s P Q v tb nb) (k:=l.length) (by omega)
  ⟨0,_,0,[],by omega,rfl,rfl,rfl,rfl,rfl,rfl,rfl,F0⟩ ?_
 rintro q e tb nb ⟨i,v,P,Q,hiq,e5,e6,e10,e11,e43,e44,e45,F⟩
 dsimp only at e5 e6 e10 e11 e43 e44 e45
 have gb:=F.h2
 have gQ:Q.length≤25:=by
  rw[← F.hq]
  exact Nat.le_trans (pgL_len _ _) (by omega)
 refine WC.seq (WC.ops (WO.lssS e45 e44 (fun hz=>?_) (fun hz=>?_)))
 ·have hi:i<l.length:=by simp only[zO] at hz;omega
  obtain⟨⟨out,w,z⟩,ha⟩:∃c,l[i]? = some c:=⟨l[i],List.getElem?_eq_getElem hi⟩
  obtain⟨hw,hz⟩:=hu _ (List.mem_of_getElem? ha)
  dsimp only at hw hz
  have had':=had (by omega)
  subst had'
  refine WO.nil (zN (WC.seq (WC.cond_true rfl (WC.skip (zN (WC.seq (WC.block (WC.seq (WC.ops ?_)))))))))
  refine WO.idxL (b:=0) (o:=off) (len:=l.length) (c:=cp) (sp:=some 1) (j:=.i64) (z:=Int.ofNat i) (n:=i) e43 e45 rfl hi ?_
  refine WO.step (i:=.load 48 3 true (.t 47)) (v:=.agg ⟨actL (out,w,z)⟩) (m':=⟨[],tb,nb⟩) (estep_ldK rfl (winL_load F.l0 ha) rfl) ?_
  refine WO.new (WO.step (i:=.store 3 (.t 13) (.t 48)) (v:=undef) (m':=⟨[],(nb,.cells (actL (out,w,z)))::tb,nb+1⟩) ?_ (WO.nil (zN ?_)))
  ·have hm:=mem_store (nx:=nb+1) (vs:=actL (out,w,z)) (o:=0) (ob':=.cells (actL (out,w,z))) (tbl:=(nb,AObj.cells [.bool false,.int .u64 (.ofNat 0),.int .u64 (.ofNat 0)])::tb) (i:=nb) (by rw[zC,if_pos rfl]) rfl (zL rfl) rfl
   rw[updH] at hm
   exact estep_store rfl rfl rfl rfl hm
  have FA:=F.kq (Kq.refl.cons (k:=nb) (m:=nb+1) (o:=.cells (actL (out,w,z))) (Nat.le_refl _) (Nat.le_succ _))
  have ca:look nb ((nb,AObj.cells (actL (out,w,z)))::tb)=some (.cells (actL (out,w,z))):=by rw[zC,if_pos rfl]
  generalize((nb,AObj.cells (actL (out,w,z)))::tb)=TA at FA ca ⊢
  refine WC.seq (WC.ops (WO.mv rfl (WO.mv rfl (WO.nil (zN ?_)))))
  refine WC.seq (WC.mono (Q:=fun y e m=>y = .norm∧∃P' Q' v' er nb' tb',m=⟨[],tb',nb'⟩∧look 5 e=some (vI s)∧look 6 e=some (.pointer (some ⟨1,0,none⟩))∧look 10 e=some (.pointer (some ⟨n1,0,none⟩))∧look 11 e=some v'∧look 43 e=some (.slice (some ⟨0,off,some 1⟩) l.length cp)∧look 44 e=some (vI l.length)∧look 45 e=some (vI i)∧look 13 e=some (.pointer (some ⟨nb,0,none⟩))∧look 14 e=some (errV er)∧look 15 e=some (errV er)∧PSt off l n1 s P' Q' v' tb' nb'∧look nb tb'=some (.cells (actL (out,w,z)))∧nb<nb') ?_ ?_)
  ·refine WC.seq (WC.ops (WO.fadd rfl (WO.load (ob:=.cells (actL (out,w,z))) (v:=.bool out) rfl ca rfl rfl rfl (WO.nil (zN ?_)))))
   have b1:=FA.lb
   have a1:=FA.h1
   have a2:=FA.h2
   cases out with
   |true =>
    refine WC.cond_true rfl (WC.seq (WC.ops (WO.load (ob:=.cells [.pointer (some ⟨1,0,none⟩),vI 40,vI s]) (v:=vW 1 40 s) (by exact e10) b1 rfl rfl rfl (WO.fadd rfl (WO.fadd rfl (WO.load (ob:=.cells (actL (true,w,z))) (v:=.int .u64 (.ofNat w)) rfl ca rfl rfl rfl ?_))))))
    refine WO.fcall_ex (vs:=[vW 1 40 s,.int .u64 (.ofNat w)]) rfl rfl (drop_run (p:=0) (off:=40) (P:=P) (w:=w) (n:=2007) hh (by decide) FA.l1 (by show 1<nb+1;omega) (by show 0<9223372036854775808;decide) rfl (by omega) (by decide) (by omega)) ?_
    rintro u ⟨t1,m1⟩ ⟨rfl,kx,k1⟩
    dsimp only at kx k1
    rw[FA.hq] at k1 ⊢
    have ca1:=(kx.2 nb (Nat.lt_succ_self _) (by omega)).trans ca
    have g1:nb+1≤m1:=kx.1
    have RB:=FA.row.kx (by omega) kx
    refine WO.mv rfl (WO.nil (zN (WC.ops (WO.mv (by exact e11) (WO.fadd rfl (WO.fadd rfl (WO.load (ob:=.cells (actL (true,w,z))) (v:=.int .u64 (.ofNat w)) rfl ca1 rfl rfl rfl ?_)))))))
    refine WO.fcall_ex (vs:=[v,.int .u64 (.ofNat w)]) rfl rfl (rdrop_run (n:=2011) (w:=w) rfl rfl (by decide) (by omega) RB (by show n1+1≤m1;omega)) ?_
    rintro u ⟨t2,m2⟩ ⟨v',rfl,R2,k2⟩
    dsimp only at R2 k2
    have g2:=k2.1
    have l12:=(k2.2 1 (by omega)).trans k1
    have l02:=(k2.2 0 (by omega)).trans ((kx.2 0 (by omega) (by decide)).trans FA.l0)
    have lb2:=(k2.2 n1 (by omega)).trans ((kx.2 n1 (by omega) (by omega)).trans b1)
    have ca2:=(k2.2 nb (by omega)).trans ca1
    refine WO.mv rfl (WO.pure (v:=v') rfl (WO.pure rfl (WO.mv rfl (WO.mv rfl (WO.nil ⟨rfl,?_⟩)))))
    cases hany:Q.any fun c=>decide (c.1=w) with
    |true =>
     rw[hany,if_pos rfl] at l12 R2
     refine⟨dropP P 40 s w,dropF Q w,v',0,m2,t2,rfl,by exact e5,by exact e6,by exact e10,rfl,by exact e43,by exact e44,by exact e45,rfl,rfl,rfl,⟨l02,l12,lb2,a1,by omega,R2,?_,FA.hu.drop⟩,ca2,by omega⟩
     have hu:=FA.hu
     have hq:=FA.hq
     rw[← hq] at hu hany ⊢
     exact drop_read hu hany
    |false =>
     rw[hany,if_neg (by decide)] at l12 R2
     exact⟨P,Q,v',8,m2,t2,rfl,by exact e5,by exact e6,by exact e10,rfl,by exact e43,by exact e44,by exact e45,rfl,rfl,rfl,⟨l02,l12,lb2,a1,by omega,R2,FA.hq,FA.hu⟩,ca2,by omega⟩
   |false =>
    refine WC.cond_false rfl (WC.seq (WC.ops (WO.load (ob:=.cells [.pointer (some ⟨1,0,none⟩),vI 40,vI s]) (v:=vW 1 40 s) (by exact e10) b1 rfl rfl rfl (WO.fadd rfl (WO.load (ob:=.cells (actL (false,w,z))) (v:=vLk w z) rfl ca rfl rfl rfl ?_)))))
    refine WO.fcall_ex (vs:=[vW 1 40 s,vLk w z]) rfl rfl (add_run (p:=0) (off:=40) (P:=P) (w:=w) (z:=z) (n:=2007) hh.toWHk5 (by decide) FA.l1 (by show 1<nb+1;omega) (by show 0<9223372036854775808;decide) rfl (by omega) (by decide) (by omega) hw hz) ?_
    rintro u ⟨t1,m1⟩ ⟨rfl,kx,k1⟩
    dsimp only at kx k1
    rw[FA.hq] at k1 ⊢
    have ca1:=(kx.2 nb (Nat.lt_succ_self _) (by omega)).trans ca
    have g1:nb+1≤m1:=kx.1
    have RB:=FA.row.kx (by omega) kx
    refine WO.mv rfl (WO.nil (zN (WC.ops (WO.mv (by exact e11) (WO.mv (by exact e5) (WO.quo rfl rfl (by omega) (WO.fadd rfl (WO.load (ob:=.cells (actL (false,w,z))) (v:=vLk w z) rfl ca1 rfl rfl rfl ?_))))))))
    refine WO.fcall_ex (vs:=[v,vI (s / 16),vLk w z]) rfl rfl (radd_run (n:=2011) (m:=s / 16) (w:=w) (z:=z) rfl rfl (by decide) (by omega) RB (by show n1+1≤m1;omega)) ?_
    rintro u ⟨t2,m2⟩ ⟨v',rfl,R2,k2⟩
    dsimp only at R2 k2
    have g2:=k2.1
    have l12:=(k2.2 1 (by omega)).trans k1
    have l02:=(k2.2 0 (by omega)).trans ((kx.2 0 (by omega) (by decide)).trans FA.l0)
    have lb2:=(k2.2 n1 (by omega)).trans ((kx.2 n1 (by omega) (by omega)).trans b1)
    have ca2:=(k2.2 nb (by omega)).trans ca1
    refine WO.mv rfl (WO.pure (v:=v') rfl (WO.pure rfl (WO.mv rfl (WO.mv rfl (WO.nil ⟨rfl,?_⟩)))))
    by_cases hc:chkN Q (s / 16) w z=0
    ·rw[if_pos hc] at l12 R2
     rw[hc]
     refine⟨addP P 40 s w z,insK Q w z,v',0,m2,t2,rfl,by exact e5,by exact e6,by exact e10,rfl,by exact e43,by exact e44,by exact e45,rfl,rfl,rfl,⟨l02,l12,lb2,a1,by omega,R2,?_,FA.hu.ins (chk_zero hc).2.2.1⟩,ca2,by omega⟩
     have hq:=FA.hq
     rw[← hq] at hc ⊢
     exact add_read hc hw hz
    ·rw[if_neg hc] at l12 R2
     exact⟨P,Q,v',_,m2,t2,rfl,by exact e5,by exact e6,by exact e10,rfl,by exact e43,by exact e44,by exact e45,rfl,rfl,rfl,⟨l02,l12,lb2,a1,by omega,R2,FA.hq,FA.hu⟩,ca2,by omega⟩
  ·rintro y e2 m2 ⟨rfl,P,Q,v,er,nb2,t2,rfl,d5,d6,d10,d11,d43,d44,d45,d13,d14,d15,F2,ca2,g2⟩
   refine zN ?_
   have gd:=F2.h2
   have q1:=F2.h1
   have hlk:∀x:Ar,x=⟨[some P],false,0⟩→lks x 40 (s / 16) 0=Q:=fun x hx=>by
    subst hx
    have h:=lks_pg (x:=⟨[some P],false,0⟩) (p:=0) (P:=P) (off:=40) rfl (s / 16) 0 (by omega)
    rw[F2.hq] at h
    exact h
   have gQ:Q.length≤25:=by
    rw[← F2.hq]
    exact Nat.le_trans (pgL_len _ _) (by omega)
   have hv40:bytesE ⟨[some P],false,0⟩ (.ofNat 40) (.ofNat s)=0:=bytesE_in (p:=0) (P:=P) (off:=40) rfl (by omega)
   refine WC.seq (WC.drawnW ?_)
   have U0:Kq t2 nb2 t2 (nb2+24):=Kq.refl.up (Nat.le_add_right _ _)
   have G0:=F2.kq U0
   obtain⟨u1,⟨t3,n3⟩,c1,R1,k1⟩:=allk_run (nx:=nb2+24) (n:=2010) hh.toWHk (by decide) G0.l1 (by omega) (by show 0<9223372036854775808;decide) hv40 (by omega) (by omega)
   dsimp only at R1 k1
   rw[hlk _ rfl] at R1
   obtain⟨u2,⟨t4,n4⟩,c2,R2,k2⟩:=of23_run (hk:=hRP) (n:=2012) rfl (by decide) (by omega) R1.toT
   dsimp only at R2 k2
   have R0:=(G0.row.kq k1).kq k2
   obtain⟨u3,⟨t5,n5⟩,c3,e3,k3⟩:=req_run (hk:=hRP) (n:=2012) rfl (by decide) (by omega) R2 R0
   dsimp only at e3 k3
   rw[decide_eq_true rfl] at e3
   subst e3
   have G5:=((G0.kq k1).kq k2).kq k3
   obtain⟨u4,⟨t6,n6⟩,c4,e4,k4⟩:=has_run (nx:=n5) (n:=2009) (w:=w) hh.toWHk2 (by decide) G5.l1 (by have:=G5.h2;omega) (by show 0<9223372036854775808;decide) hv40 (by omega) (by omega)
   dsimp only at e4 k4
   rw[hlk _ rfl] at e4
   subst e4
   have G6:=G5.kq k4
   obtain⟨u5,⟨t7,n7⟩,c5,e5',k5⟩:=rhas_run (hk:=hRP) (n:=2012) (w:=w) rfl (by decide) (by omega) G6.row
   dsimp only at e5' k5
   subst e5'
   have G7:=G6.kq k5
   have KK:=(U0.trans k1).trans (k2.trans k3)
   have ca5:look nb t5=_:=(KK.2 nb (by omega)).trans ca2
   have ca6:=(k4.2 nb (by have:=KK.1;omega)).trans ca5
   have xv:∀m,(⟨[],t2,m⟩:Mem Ar).load ⟨n1,0,none⟩ 3=some [.pointer (some ⟨1,0,none⟩),vI 40,vI s]:=fun m=>mem_load F2.lb rfl rfl
   have xv5:(⟨[],t5,n5⟩:Mem Ar).load ⟨n1,0,none⟩ 3=some [.pointer (some ⟨1,0,none⟩),vI 40,vI s]:=mem_load G5.lb rfl rfl
   have xw5:(⟨[],t5,n5⟩:Mem Ar).load ⟨nb,0+1+0,none⟩ 1=some [.int .u64 (.ofNat w)]:=mem_load ca5 rfl rfl
   have xw6:(⟨[],t6,n6⟩:Mem Ar).load ⟨nb,0+1+0,none⟩ 1=some [.int .u64 (.ofNat w)]:=mem_load ca6 rfl rfl
   have cw:∀y:Nat,ceqs [Value.int .u64 (.ofNat y)] [Value.int .u64 (.ofNat y)]=true:=fun y=>by simp[ceqs,ceq,ieqF_refl]
   generalize(Q.any fun c=>decide (c.1=w))=bb at c4 c5
   refine WD.pure (v:=errV er) (evOut d14 rfl rfl) (WD.pure (v:=errV er) (evOut d15 rfl rfl) (WD.pure (v:=.bool false) (pv_neqI rfl rfl) (WD.pure (v:=.bool false) rfl ?_)))
   refine WD.take rfl (WD.load (m:=⟨[],t2,nb2+24⟩) (ms:=[]) (v:=vW 1 40 s) (evOut d10 rfl rfl) (xv _) rfl ?_)
   refine WD.take rfl (WD.chn (m:=⟨[],t2,nb2+24⟩) (m':=⟨[],t3,n3⟩) (v:=u1) rfl rfl rfl (estep_call (m:=⟨[],t2,nb2+24⟩) (h:=⟨t3,n3⟩) (vs:=[vW 1 40 s]) rfl rfl c1) ?_)
   refine WD.take rfl (WD.chn (m:=⟨[],t3,n3⟩) (m':=⟨[],t4,n4⟩) (v:=u2) rfl rfl rfl (estep_call (m:=⟨[],t3,n3⟩) (h:=⟨t4,n4⟩) (vs:=[u1]) rfl rfl c2) ?_)
   refine WD.take rfl (WD.pure (v:=v) (evOut d11 rfl rfl) ?_)
   refine WD.take rfl (WD.chn (m:=⟨[],t4,n4⟩) (m':=⟨[],t5,n5⟩) (v:=.bool true) rfl rfl rfl (estep_call (m:=⟨[],t4,n4⟩) (h:=⟨t5,n5⟩) (vs:=[u2,v]) rfl rfl c3) ?_)
   refine WD.take rfl (WD.pure (v:=.bool false) rfl (WD.pure (v:=.bool false) rfl (WD.pure (v:=.bool false) rfl ?_)))
   refine WD.take rfl (WD.load (m:=⟨[],t5,n5⟩) (v:=vW 1 40 s) (evOut d10 rfl rfl) xv5 rfl ?_)
   refine WD.take rfl (WD.pure (v:=.pointer (some ⟨nb,0+1,none⟩)) (pv_faddP (evOut d13 rfl rfl)) (WD.take rfl (WD.pure (v:=.pointer (some ⟨nb,0+1+0,none⟩)) rfl ?_)))
   refine WD.take rfl (WD.load (m:=⟨[],t5,n5⟩) (v:=.int .u64 (.ofNat w)) rfl xw5 rfl ?_)
   refine WD.take rfl (WD.chn (m:=⟨[],t5,n5⟩) (m':=⟨[],t6,n6⟩) (v:=.bool bb) rfl rfl rfl (estep_call (m:=⟨[],t5,n5⟩) (h:=⟨t6,n6⟩) (vs:=[vW 1 40 s,.int .u64 (.ofNat w)]) rfl rfl c4) ?_)
   refine WD.take rfl (WD.pure (v:=v) (evOut d11 rfl rfl) ?_)
   refine WD.take rfl (WD.pure (v:=.pointer (some ⟨nb,0+1,none⟩)) (pv_faddP (evOut d13 rfl rfl)) (WD.take rfl (WD.pure (v:=.pointer (some ⟨nb,0+1+0,none⟩)) rfl ?_)))
   refine WD.take rfl (WD.load (m:=⟨[],t6,n6⟩) (v:=.int .u64 (.ofNat w)) rfl xw6 rfl ?_)
   refine WD.take rfl (WD.chn (m:=⟨[],t6,n6⟩) (m':=⟨[],t7,n7⟩) (v:=.bool bb) rfl rfl rfl (estep_call (m:=⟨[],t6,n6⟩) (h:=⟨t7,n7⟩) (vs:=[v,.int .u64 (.ofNat w)]) rfl rfl c5) ?_)
   refine WD.take rfl (WD.pure (v:=.bool false) (pv_neqB rfl rfl) (WD.pure (v:=.bool false) rfl (WD.nil ⟨?_,_,_,rfl,?_⟩)))
   ·simp only[heldAll,loadsIn,xv,xv5,xw5,xw6,ceqs_vw,cw]
    rfl
   refine zN (WC.cond_false rfl (WC.skip ?_))
   refine zB (zN (WC.ops (WO.add (m:=⟨[],t7,n7⟩) (by exact d45) rfl (by simp only[zO];omega) (by simp only[zO];omega) (WO.mv rfl (WO.nil ?_)))))
   exact⟨q-1,by omega,rfl,i+1,v,P,Q,by omega,by exact d5,by exact d6,by exact d10,by exact d11,by exact d43,by exact d44,rfl,G7⟩
 ·have hi:i=l.length:=by simp only[zO] at hz;omega
  subst hi
  have q1:=F.h1
  refine WO.nil (zN (WC.seq (WC.cond_false rfl (WC.exit (thenC_exit (blockC_exit ?_))))))
  refine zN (WC.seq (WC.ops (WO.mv (m:=⟨[],tb,nb⟩) (by exact e6) ?_)))
  have hcl:cloneH [.pointer (some ⟨1,0,none⟩)] ⟨tb,nb⟩=some (.pointer (some ⟨nb,0,none⟩),⟨(nb,.ext ⟨[some P],false,0⟩)::del 1 tb,nb+1⟩):=by
   simp only[cloneH,F.l1]
   rfl
  refine WO.fcall (vs:=[.pointer (some ⟨1,0,none⟩)]) rfl rfl ((run_hook (n:=2012) (g:=cloneH) rfl).trans hcl) ?_
  have K0:Kx 1 tb nb ((nb,AObj.ext ⟨[some P],false,0⟩)::del 1 tb) (nb+1):=⟨Nat.le_succ _,fun i hi hne=>by rw[zC,if_neg (by show¬i=nb;omega),look_del,if_neg hne]⟩
  have hlb:look nb ((nb,AObj.ext ⟨[some P],false,0⟩)::del 1 tb)=some (.ext ⟨[some P],false,0⟩):=by rw[zC,if_pos rfl]
  have R0:=F.row.kx (by omega) K0
  generalize((nb,AObj.ext ⟨[some P],false,0⟩)::del 1 tb)=T0 at K0 hlb R0 ⊢
  have hv40:bytesE ⟨[some P],false,0⟩ (.ofNat 40) (.ofNat s)=0:=bytesE_in (p:=0) (P:=P) (off:=40) rfl (by omega)
  refine WO.mv (by exact e5) ?_
  refine WO.fcall (vs:=[.pointer (some ⟨nb,0,none⟩),vI 40,vI s]) (v:=.tuple ⟨[vW nb 40 s,errV 0]⟩) (h:=⟨T0,nb+1⟩) rfl rfl ((run_hook (n:=2012) rfl).trans (of_at hlb (by show 0<9223372036854775808;decide) hv40)) ?_
  refine WO.mv rfl (WO.pure (v:=vW nb 40 s) rfl (WO.pure (v:=errV 0) rfl (WO.nstW (by rfl) (WO.mv rfl (WO.nil (zN ?_))))))
  have hb2:look (nb+1) ((nb+1,AObj.cells [.pointer (some ⟨nb,0,none⟩),vI 40,vI s])::T0)=some (.cells [.pointer (some ⟨nb,0,none⟩),vI 40,vI s]):=by rw[zC,if_pos rfl]
  have K1:Kq T0 (nb+1) ((nb+1,AObj.cells [.pointer (some ⟨nb,0,none⟩),vI 40,vI s])::T0) (nb+1+1):=Kq.refl.cons (Nat.le_refl _) (Nat.le_succ _)
  have R1:=R0.kq K1
  have hl1:=(K1.2 nb (Nat.lt_succ_self _)).trans hlb
  generalize((nb+1,AObj.cells [.pointer (some ⟨nb,0,none⟩),vI 40,vI s])::T0)=T1 at K1 hb2 R1 hl1 ⊢
  refine WC.seq (WC.ops (WO.mv rfl (WO.pure (v:=.bool true) rfl (WO.mv rfl (WO.take rfl rfl (WO.load (ob:=.cells [.pointer (some ⟨nb,0,none⟩),vI 40,vI s]) (v:=vW nb 40 s) rfl hb2 rfl rfl rfl (WO.take rfl rfl ?_)))))))
  refine WO.fcall_ex (vs:=[vW nb 40 s]) rfl rfl (open_run (hk:=hRP) (n:=2012) rfl) ?_
  rintro u ⟨t3,n3⟩ ⟨rfl,k3⟩
  dsimp only at k3
  have g3:nb+1+1≤n3:=k3.1
  have R3:=R1.kq k3
  have hl3:=(k3.2 nb (by omega)).trans hl1
  refine WO.take rfl rfl ?_
  refine WO.fcall_ex (vs:=[vW nb 40 s]) rfl rfl (allk_run (nx:=n3) (n:=2010) hh.toWHk (by decide) hl3 (by omega) (by show 0<9223372036854775808;decide) hv40 (by omega) (by omega)) ?_
  rintro u ⟨t4,n4⟩ ⟨R4,k4⟩
  dsimp only at R4 k4
  have hlk:lks ⟨[some P],false,0⟩ 40 (s / 16) 0=Q:=by
   have h:=lks_pg (x:=⟨[some P],false,0⟩) (p:=0) (P:=P) (off:=40) rfl (s / 16) 0 (by omega)
   rw[F.hq] at h
   exact h
  rw[hlk] at R4
  refine WO.take rfl rfl ?_
  refine WO.fcall_ex (vs:=[u]) rfl rfl (of23_run (hk:=hRP) (n:=2012) rfl (by decide) (by omega) R4.toT) ?_
  rintro u2 ⟨t5,n5⟩ ⟨R5,k5⟩
  dsimp only at R5 k5
  refine WO.take rfl rfl (WO.mv (by exact e11) (WO.take rfl rfl ?_))
  refine WO.fcall_ex (vs:=[u2,v]) rfl rfl (req_run (hk:=hRP) (n:=2012) rfl (by decide) (by omega) R5 ((R3.kq k4).kq k5)) ?_
  rintro u3 ⟨t6,n6⟩ ⟨rfl,k6⟩
  rw[decide_eq_true rfl]
  exact WO.pure (v:=.bool true) rfl (WO.mv rfl (WO.nil (zN (WC.ret ⟨_,_,rfl,rfl,rfl⟩))))
end Go.AI
