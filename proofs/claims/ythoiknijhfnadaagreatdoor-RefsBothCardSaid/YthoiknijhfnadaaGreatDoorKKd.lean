/- The law of links that come and go: what it keeps. -/
import Derived.Test.YthoiknijhfnadaaGreatDoorKKc
import Derived.Test.YthoiknijhfnadaaGreatDoorKCl
import Derived.Test.YthoiknijhfnadaaGreatDoorKAy
namespace Go.AI
open Go.Proofs
variable {x:Ar}{tbl t' t'':List (Nat×AObj Ar)}{nx n' n'' j a s i w z ty lo lo2 b P off:Nat}{L M Q:List (Nat×Nat)}
theorem open_run{hk:List (HookF Ar)}(hh:hookL hk 21=none){n:Nat}:∃u h',RW hk (n+1) 21 [vW j a s] ⟨tbl,nx⟩=some (u,h')∧(u=vW j a s∧Kq tbl nx h'.tbl h'.next):=by
 refine run_fn hh fKOpen (zL rfl) ?_
 dsimp only[iKOpen,argsE]
 refine WC.seq (WC.ops (WO.box (v:=vW j a s) (cs:=[.pointer (some ⟨j,0,none⟩),vI a,vI s]) rfl rfl (WO.new (WO.nil (zN ?_)))))
 have c0:look nx ((nx+1,AObj.cells [.pointer none,.int .i64 (.ofNat 0),.int .i64 (.ofNat 0)])::(nx,AObj.cells [.pointer (some ⟨j,0,none⟩),vI a,vI s])::tbl)=some (.cells [.pointer (some ⟨j,0,none⟩),vI a,vI s]):=by rw[zC,if_neg (by show¬nx=nx+1;omega),zC,if_pos rfl]
 refine WC.seq (WC.ops (WO.load (ob:=.cells [.pointer (some ⟨j,0,none⟩),vI a,vI s]) (v:=vW j a s) rfl c0 rfl rfl rfl (WO.pure (v:=vW j a s) rfl (WO.step (i:=.store 3 (.t 2) (.t 4)) (v:=undef) (m':=⟨[],(nx+1,.cells [.pointer (some ⟨j,0,none⟩),vI a,vI s])::(nx,.cells [.pointer (some ⟨j,0,none⟩),vI a,vI s])::tbl,nx+1+1⟩) ?_ (WO.nil (zN (WC.ret ?_)))))))
 ·have hm:=mem_store (nx:=nx+1+1) (vs:=[Value.pointer (some ⟨j,0,none⟩),vI a,vI s]) (o:=0) (ob':=.cells [.pointer (some ⟨j,0,none⟩),vI a,vI s]) (tbl:=(nx+1,AObj.cells [.pointer none,.int .i64 (.ofNat 0),.int .i64 (.ofNat 0)])::(nx,.cells [.pointer (some ⟨j,0,none⟩),vI a,vI s])::tbl) (i:=nx+1) (by rw[zC,if_pos rfl]) rfl (zL rfl) rfl
  rw[updH] at hm
  exact estep_store rfl rfl rfl rfl hm
 ·have hl:look (nx+1) ((nx+1,AObj.cells [.pointer (some ⟨j,0,none⟩),vI a,vI s])::(nx,.cells [.pointer (some ⟨j,0,none⟩),vI a,vI s])::tbl)=some (.cells [.pointer (some ⟨j,0,none⟩),vI a,vI s]):=by rw[zC,if_pos rfl]
  have hld:(⟨[],(nx+1,.cells [.pointer (some ⟨j,0,none⟩),vI a,vI s])::(nx,.cells [.pointer (some ⟨j,0,none⟩),vI a,vI s])::tbl,nx+1+1⟩:Mem Ar).load ⟨nx+1,0,none⟩ 3=some [.pointer (some ⟨j,0,none⟩),vI a,vI s]:=mem_load hl rfl rfl
  have KK:Kq tbl nx ((nx+1,AObj.cells [.pointer (some ⟨j,0,none⟩),vI a,vI s])::(nx,.cells [.pointer (some ⟨j,0,none⟩),vI a,vI s])::tbl) (nx+1+1):=(Kq.refl.cons (Nat.le_refl _) (Nat.le_succ _)).cons (by omega) (by omega)
  refine⟨[vW j a s],vW j a s,?_,rfl,rfl,KK⟩
  show(match(⟨[],(nx+1,.cells [.pointer (some ⟨j,0,none⟩),vI a,vI s])::(nx,.cells [.pointer (some ⟨j,0,none⟩),vI a,vI s])::tbl,nx+1+1⟩:Mem Ar).load ⟨nx+1,0,none⟩ 3 with
   |some cs=>(match oneOf true cs with
    |some v=>some [v]
    |none=>none)
   |none=>none)=_
  rw[hld];rfl
abbrev ActL:=Bool×Nat×Nat
def actL(a:ActL):List Value:=[.bool a.1,.int .u64 (.ofNat a.2.1),.int .u64 (.ofNat a.2.2)]
def actsL:List ActL→List Value
 |[]=>[]
 |a::r=>actL a++actsL r
theorem estep_ldK{call:CallFn Ar}{env:List (Nat×Value)}{m:Mem Ar}{d n:Nat}{g:Bool}{a:Opd}{ad:Addr}{cs:List Value}{v:Value}(ha:evo env a=some (.pointer (some ad)))(hl:m.load ad n=some cs)(hv:oneOf g cs=some v):estep call env m (.load d n g a)=some (v,m):=by
 simp only[estep,mstep,ha,hl,hv,Option.map]
theorem RowT.kx{v:Value}(h:RowT ty lo tbl nx v L)(hj:j<lo)(K:Kx j tbl nx t' n'):RowT ty lo t' n' v L:=by
 rcases h with h|⟨h0,r,h1,h2,h3,h4⟩
 ·exact .inl h
 ·exact .inr ⟨h0,r,h1,Nat.lt_of_lt_of_le h2 K.1,h3,(K.2 r h2 (by omega)).trans h4⟩
structure PSt(off:Nat)(l:List ActL)(b s P:Nat)(Q:List (Nat×Nat))(v:Value)(tb:List (Nat×AObj Ar))(nb:Nat):Prop where
 l0:look 0 tb=some (.ro off (actsL l))
 l1:look 1 tb=some (.ext ⟨[some P],false,0⟩)
 lb:look b tb=some (.cells [.pointer (some ⟨1,0,none⟩),vI 40,vI s])
 h1:1<b
 h2:b<nb
 row:RowT 52 (b+1) tb nb v Q
 hq:pgL P 40 (s / 16) 0=Q
 hu:Uni Q
theorem PSt.kq{l:List ActL}{v:Value}(h:PSt off l b s P Q v tbl nx)(K:Kq tbl nx t' n'):PSt off l b s P Q v t' n':=by
 have a:=h.h1
 have c:=h.h2
 exact⟨(K.2 0 (by omega)).trans h.l0,(K.2 1 (by omega)).trans h.l1,(K.2 b c).trans h.lb,a,Nat.lt_of_lt_of_le c K.1,h.row.kq K,h.hq,h.hu⟩
theorem PSt.kx{l:List ActL}{v:Value}{P':Nat}(h:PSt off l b s P Q v tbl nx)(K:Kx 1 tbl nx t' n')(hl:look 1 t'=some (.ext ⟨[some P'],false,0⟩))(hq:pgL P' 40 (s / 16) 0=M)(hu:Uni M) :
  look 0 t'=some (.ro off (actsL l))∧look 1 t'=some (.ext ⟨[some P'],false,0⟩)∧look b t'=some (.cells [.pointer (some ⟨1,0,none⟩),vI 40,vI s])∧b<n'∧RowT 52 (b+1) t' n' v Q:=by
 have a:=h.h1
 have c:=h.h2
 exact⟨(K.2 0 (by omega) (by omega)).trans h.l0,hl,(K.2 b c (by omega)).trans h.lb,Nat.lt_of_lt_of_le c K.1,h.row.kx (by omega) K⟩
end Go.AI
/- The law of links that come and go: it answers yes. -/
namespace Go.AI
open Go.Proofs
variable {x:Ar}{tbl t' t'':List (Nat×AObj Ar)}{nx n' n'' j a s i w z ty lo lo2 b P off:Nat}{L M Q:List (Nat×Nat)}
theorem pv_faddP{env:List (Nat×Value)}{o:Nat}{x:Opd}{i j:Nat}(hx:evo env x=some (.pointer (some ⟨i,j,none⟩))):peval env (.fadd o x)=some (.pointer (some ⟨i,j+o,none⟩)):=by
 simp only[peval,hx]
theorem WO.nstW{call:CallFn Ar}{env:List (Nat×Value)}{K:List (Nat×Value)→Mem Ar→Prop}{l:List (Option (Nat×Bool)×IOp)}{d:Nat}{y:Opd}{c1 c2 c3 e1 e2 e3:Value}(hy:evo ((d,.pointer (some ⟨nx,0,none⟩))::env) y=some (.agg ⟨[e1,e2,e3]⟩))
  (k:WO call l ((d,.pointer (some ⟨nx,0,none⟩))::env) ⟨[],(nx,.cells [e1,e2,e3])::tbl,nx+1⟩ K):WO call ((none,.new d true [c1,c2,c3])::(none,.store 3 (.t d) y)::l) env ⟨[],tbl,nx⟩ K:=by
 refine WO.new (WO.step (i:=.store 3 (.t d) y) (v:=undef) (m':=⟨[],(nx,.cells [e1,e2,e3])::tbl,nx+1⟩) ?_ k)
 have hm:=mem_store (nx:=nx+1) (vs:=[e1,e2,e3]) (o:=0) (ob':=.cells [e1,e2,e3]) (tbl:=(nx,AObj.cells [c1,c2,c3])::tbl) (i:=nx) (by rw[zC,if_pos rfl]) rfl (zL rfl) rfl
 rw[updH] at hm
 exact estep_store (by show look d (_::_)=_;rw[zC,if_pos rfl]) hy rfl rfl hm
end Go.AI
