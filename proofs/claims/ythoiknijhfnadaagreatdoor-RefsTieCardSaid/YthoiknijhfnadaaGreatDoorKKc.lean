/- Functions in the evaluator's form: printed by a program, held against the program by the kernel. -/
import Derived.Test.YthoiknijhfnadaaGreatDoorIfn
import Derived.Test.YthoiknijhfnadaaGreatDoorKKb
set_option maxRecDepth 4000
namespace Go.AI
def iOf23:IFn:=(.mk (sO [pU 2 (.mv (.c (.slice none 0 0)))] (sO [pU 3 (.mv (.c (.slice none 0 0)))] (.seq (sO [mV 6 0,pU 7 (.len (.t 6)),mI 8 0] (.block 0 (.loop (sO [pU 9 (.bin .lss .no (.t 8) (.t 7))] (.seq (.cond (.t 9) .skip (.exit 0)) (.seq (.block 1 (sO [pU 10 (.idxL 2 (.t 6) (.t 8)),lD 11 2 true 10,(none,(.new 5 true [(u0 0),(u0 0)])),sT 2 5 11] (.ops [mV 12 3,lD 13 2 true 5,(none,(.bslice 14 1 2 [(u0 0),(u0 0)] [(0,(.t 13))])),(none,(.append 15 2 16 52 (.t 12) (.t 14))),mV 3 15]))) (.ops [pU 16 (.bin .add .no (.t 8) (cI 1)),mV 8 16]))))))) (sO [mV 17 3,mV 2 17] .ret)))) 18 [(.tmp 2)])
theorem fOf23:FA 13=some iOf23:=by kernel_rfl
def iReq:IFn:=(.mk (sO [mB 4 false] (.seq (sO [mV 6 0,pU 7 (.len (.t 6)),mV 8 1,pU 9 (.len (.t 8)),pU 10 (.bin .neq .no (.t 7) (.t 9))] (.cond (.t 10) (sO [mB 4 false] .ret) .skip)) (.seq (sO [mV 11 0,pU 12 (.len (.t 11)),mI 13 0] (.block 0 (.loop (sO [pU 14 (.bin .lss .no (.t 13) (.t 12))] (.seq (.cond (.t 14) .skip (.exit 0)) (.seq (.block 1 (sO [mV 15 13,mV 5 15] (.seq (.drawn [mV 16 0,mV 17 5,pU 18 (.idxL 2 (.t 16) (.t 17)),lD 19 2 true 18,mV 20 1,mV 21 5,pU 22 (.idxL 2 (.t 20) (.t 21)),lD 23 2 true 22,pU 24 (.bin .neq (.agg [.int,.int]) (.t 19) (.t 23))] [[],[],[0,1],[2,0,1],[],[],[4,5],[6,4,5],[3,7,2,0,1,6,4,5]]) (.cond (.t 24) (sO [mB 4 false] .ret) .skip)))) (.ops [pU 25 (.bin .add .no (.t 13) (cI 1)),mV 13 25]))))))) (sO [mB 4 true] .ret)))) 26 [(.tmp 4)])
theorem fReq:FA 12=some iReq:=by kernel_rfl
def irHas:IFn:=(.mk (sO [mB 4 false] (.seq (sO [mV 7 0,pU 8 (.len (.t 7)),mI 9 0] (.block 0 (.loop (sO [pU 10 (.bin .lss .no (.t 9) (.t 8))] (.seq (.cond (.t 10) .skip (.exit 0)) (.seq (.block 1 (sO [pU 11 (.idxL 2 (.t 7) (.t 9)),lD 12 2 true 11,(none,(.new 6 true [(u0 0),(u0 0)])),sT 2 6 12] (sO [fD 13 0 6,lD 14 1 false 13,mV 15 1,pU 16 (.bin .eql .no (.t 14) (.t 15))] (.cond (.t 16) (sO [mB 4 true] .ret) .skip)))) (.ops [pU 17 (.bin .add .no (.t 9) (cI 1)),mV 9 17]))))))) (sO [mB 4 false] .ret))) 18 [(.tmp 4)])
theorem frHas:FA 28=some irHas:=by kernel_rfl
def irAdd:IFn:=(.mk (sO [(none,(.box 5 true (.t 2))),pU 6 (.mv (.c (.slice none 0 0))),mI 7 0] (.seq (sO [fD 12 0 5,lD 13 1 false 12,pU 14 (.bin .eql .no (.t 13) (.c (u0 0))),mV 15 14,((some (15,false)),(.pure 16 (.fadd 1 (.t 5)))),((some (15,false)),(.load 17 1 false (.t 16))),((some (15,false)),(.pure 18 (.bin .eql .no (.t 17) (.c (u0 0))))),pU 19 (.pick (.t 15) (.c (.bool true)) (.t 18))] (.cond (.t 19) (sO [mV 20 0,mV 6 20,mI 7 2] .ret) .skip)) (.seq (sO [mV 21 0,fD 22 0 5,lD 23 1 false 22,cL 24 28 [(.t 21),(.t 23)]] (.cond (.t 24) (sO [mV 25 0,mV 6 25,mI 7 9] .ret) .skip)) (.seq (sO [mV 26 0,pU 27 (.len (.t 26)),mV 28 1,pU 29 (.bin .geq .no (.t 27) (.t 28))] (.cond (.t 29) (sO [mV 30 0,mV 6 30,mI 7 10] .ret) .skip)) (sO [pU 8 (.mv (.c (.slice none 0 0)))] (sO [mB 9 false] (.seq (sO [mV 31 0,pU 32 (.len (.t 31)),mI 33 0] (.block 0 (.loop (sO [pU 34 (.bin .lss .no (.t 33) (.t 32))] (.seq (.cond (.t 34) .skip (.exit 0)) (.seq (.block 1 (sO [pU 35 (.idxL 2 (.t 31) (.t 33)),lD 36 2 true 35,(none,(.new 11 true [(u0 0),(u0 0)])),sT 2 11 36] (.seq (sO [mV 37 9,pU 38 (.not (.t 37)),mV 39 38,jP 39 40 (.fadd 1 (.t 11)),((some (39,true)),(.load 41 1 false (.t 40))),jP 39 42 (.fadd 1 (.t 5)),((some (39,true)),(.load 43 1 false (.t 42))),jP 39 44 (.bin .gtr .no (.t 41) (.t 43)),pU 45 (.pick (.t 39) (.t 44) (.c (.bool false)))] (.cond (.t 45) (sO [mV 46 8,lD 47 2 true 5,(none,(.bslice 48 1 2 [(u0 0),(u0 0)] [(0,(.t 47))])),(none,(.append 49 2 16 52 (.t 46) (.t 48))),mV 8 49] (.ops [mB 9 true])) .skip)) (.ops [mV 50 8,lD 51 2 true 11,(none,(.bslice 52 1 2 [(u0 0),(u0 0)] [(0,(.t 51))])),(none,(.append 53 2 16 52 (.t 50) (.t 52))),mV 8 53])))) (.ops [pU 54 (.bin .add .no (.t 33) (cI 1)),mV 33 54]))))))) (.seq (sO [mV 55 9,pU 56 (.not (.t 55))] (.cond (.t 56) (.ops [mV 57 8,lD 58 2 true 5,(none,(.bslice 59 1 2 [(u0 0),(u0 0)] [(0,(.t 58))])),(none,(.append 60 2 16 52 (.t 57) (.t 59))),mV 8 60]) .skip)) (sO [mV 61 8,mV 6 61,mI 7 0] .ret))))))))) 62 [(.tmp 6),(.tmp 7)])
theorem frAdd:FA 25=some irAdd:=by kernel_rfl
end Go.AI
/- Rows of links: what is said of them, walked. -/
namespace Go.AI
open Go.Proofs
variable {x:Ar}{tbl t' t'':List (Nat×AObj Ar)}{nx n' n'' j a s i w z ty lo:Nat}{L M:List (Nat×Nat)}
def RowT(ty lo:Nat)(t:List (Nat×AObj Ar))(n:Nat)(v:Value)(l:List (Nat×Nat)):Prop:=(l=[]∧v = .slice none 0 0)∨(l≠[]∧∃r,lo≤r∧r<n∧v = .slice (some ⟨r,0,none⟩) l.length l.length∧look r t=some (.grown 2 ty (lkC l)))
theorem RowK.toT{v:Value}(h:RowK lo tbl nx v L):RowT 67 lo tbl nx v L:=h
theorem RowT.wk{lo':Nat}{v:Value}{l:List (Nat×Nat)}(h:RowT ty lo tbl nx v l)(hl:lo'≤lo):RowT ty lo' tbl nx v l:=by
 rcases h with h|⟨h0,r,h1,h2,h3,h4⟩
 ·exact .inl h
 ·exact .inr ⟨h0,r,Nat.le_trans hl h1,h2,h3,h4⟩
theorem RowT.kq{v:Value}{l:List (Nat×Nat)}(h:RowT ty lo tbl nx v l)(K:Kq tbl nx t' n'):RowT ty lo t' n' v l:=by
 rcases h with h|⟨h0,r,h1,h2,h3,h4⟩
 ·exact .inl h
 ·exact .inr ⟨h0,r,h1,Nat.lt_of_lt_of_le h2 K.1,h3,(K.2 r h2).trans h4⟩
theorem RowT.get{v:Value}(h:RowT ty lo tbl nx v L):∃ad,v = .slice ad L.length L.length∧(L≠[]→∃r,lo≤r∧r<nx∧ad=some ⟨r,0,none⟩∧look r tbl=some (.grown 2 ty (lkC L))):=by
 rcases h with⟨rfl,rfl⟩|⟨h0,r,h1,h2,rfl,h4⟩
 ·exact⟨none,rfl,fun h=>absurd rfl h⟩
 ·exact⟨_,rfl,fun _=>⟨r,h1,h2,rfl,h4⟩⟩
theorem WO.nst{call:CallFn Ar}{env:List (Nat×Value)}{K:List (Nat×Value)→Mem Ar→Prop}{l:List (Option (Nat×Bool)×IOp)}{d:Nat}{y:Opd}{c1 c2 a b:Value}(hy:evo ((d,.pointer (some ⟨nx,0,none⟩))::env) y=some (.agg ⟨[a,b]⟩))
  (k:WO call l ((d,.pointer (some ⟨nx,0,none⟩))::env) ⟨[],(nx,.cells [a,b])::tbl,nx+1⟩ K):WO call ((none,.new d true [c1,c2])::(none,.store 2 (.t d) y)::l) env ⟨[],tbl,nx⟩ K:=by
 refine WO.new (WO.step (i:=.store 2 (.t d) y) (v:=undef) (m':=⟨[],(nx,.cells [a,b])::tbl,nx+1⟩) ?_ k)
 have hm:=mem_store (nx:=nx+1) (vs:=[a,b]) (o:=0) (ob':=.cells [a,b]) (tbl:=(nx,AObj.cells [c1,c2])::tbl) (i:=nx) (by rw[zC,if_pos rfl]) rfl (zL rfl) rfl
 rw[updH] at hm
 exact estep_store (by show look d (_::_)=_;rw[zC,if_pos rfl]) hy rfl rfl hm
theorem WO.app2{call:CallFn Ar}{env:List (Nat×Value)}{K:List (Nat×Value)→Mem Ar→Prop}{l:List (Option (Nat×Bool)×IOp)}{d b:Nat}{px x:Opd}{v:Value}(hp:evo env px=some (.agg ⟨[.int .u64 (.ofNat w),.int .u64 (.ofNat z)]⟩))(hx:evo ((b,.slice (some ⟨nx,0,none⟩) 1 1)::env) x=some v)(hR:RowT ty lo tbl nx v L)(hL:L.length≤1000)
  (k:∀t',RowT ty lo t' (nx+2) (.slice (some ⟨nx+1,0,none⟩) (L.length+1) (L.length+1)) (L++[(w,z)])→(∀q,q<nx→(q<lo∨∃cs,look q tbl=some (.cells cs))→look q t'=look q tbl)→WO call l ((d,.slice (some ⟨nx+1,0,none⟩) (L.length+1) (L.length+1))::(b,.slice (some ⟨nx,0,none⟩) 1 1)::env) ⟨[],t',nx+2⟩ K) (hlo:lo≤nx) :
  WO call ((none,.bslice b 1 2 [.int .u64 (.ofNat 0),.int .u64 (.ofNat 0)] [(0,px)])::(none,.append d 2 16 ty x (.t b))::l) env ⟨[],tbl,nx⟩ K:=by
 refine WO.step (i:=.bslice b 1 2 [.int .u64 (.ofNat 0),.int .u64 (.ofNat 0)] [(0,px)]) (v:=.slice (some ⟨nx,0,none⟩) 1 1) (m':=⟨[],(nx,.cells [.int .u64 (.ofNat w),.int .u64 (.ofNat z)])::tbl,nx+1⟩) ?_ ?_
 ·have h:fillp env (rows 1 [.int .u64 (.ofNat 0),.int .u64 (.ofNat 0)]) [(0*2,2,px)]=some [.int .u64 (.ofNat w),.int .u64 (.ofNat z)]:=by
   simp only[fillp,hp]
   rfl
  simp only[estep,mstep,allocI,List.map,h,Option.map]
  rfl
 have hsr:source (⟨[],(nx,.cells [.int .u64 (.ofNat w),.int .u64 (.ofNat z)])::tbl,nx+1⟩:Mem Ar) 2 (.slice (some ⟨nx,0,none⟩) 1 1)=some (1,[.int .u64 (.ofNat w),.int .u64 (.ofNat z)]):=by
  have:(⟨[],(nx,.cells [.int .u64 (.ofNat w),.int .u64 (.ofNat z)])::tbl,nx+1⟩:Mem Ar).loads (some ⟨nx,0,none⟩) (1*2)=some [.int .u64 (.ofNat w),.int .u64 (.ofNat z)]:=mem_lds (by rw[zC,if_pos rfl]) rfl (by decide) rfl
  show(Mem.loads _ _ (1*2)).map _=_
  rw[this];rfl
 have hb:evo ((b,Value.slice (some ⟨nx,0,none⟩) 1 1)::env) (.t b)=some (.slice (some ⟨nx,0,none⟩) 1 1):=by
  show look b (_::_)=_
  rw[zC,if_pos rfl]
 have hlk:lkC (L++[(w,z)])=lkC L++[.int .u64 (.ofNat w),.int .u64 (.ofNat z)]:=by rw[lkC_app];rfl
 have hne:L++[(w,z)]≠[]:=by simp
 have hln:(L++[(w,z)]).length=L.length+1:=by simp
 rcases hR with⟨h0,rfl⟩|⟨h0,r,h1,h2,rfl,h4⟩
 ·subst h0
  refine WO.append hx hb (appendM_new (m:=⟨[],(nx,.cells [.int .u64 (.ofNat w),.int .u64 (.ofNat z)])::tbl,nx+1⟩) hsr (by decide) (by omega)) (k _ (.inr ⟨hne,nx+1,by omega,by omega,by rw[hln],?_⟩) fun q hq hc=>?_)
  ·exact(zC _ _ _).trans (if_pos rfl)
  ·show look _ (_::_)=_
   rw[zC,if_neg (by show¬q=nx+1;omega),zC,if_neg (by show¬q=nx;omega)]
 ·have hgr:look r ((nx,AObj.cells [.int .u64 (.ofNat w),.int .u64 (.ofNat z)])::tbl)=some (.grown 2 ty (lkC L)):=by
   rw[zC,if_neg (by show¬r=nx;omega)];exact h4
  have hol:(lkC L).length=L.length*2:=lkC_len L
  have hl0:L.length≠0:=fun e=>h0 (List.eq_nil_of_length_eq_zero e)
  refine WO.append hx hb (appendM_more (m:=⟨[],(nx,.cells [.int .u64 (.ofNat w),.int .u64 (.ofNat z)])::tbl,nx+1⟩) hsr rfl (by decide) hgr hol (mem_lds hgr rfl (by omega) (by rw[takeN_mid (by omega),List.drop_zero,← hol,List.take_length])) (by omega)) (k _ (.inr ⟨hne,nx+1,by omega,by omega,by rw[hln],?_⟩) fun q hq hc=>?_)
  ·rw[hlk]
   exact(zC _ _ _).trans (if_pos rfl)
  ·show look _ (_::del r _)=_
   rw[zC,if_neg (by show¬q=nx+1;omega),look_del_ne (by
    rcases hc with hc|⟨cs,hc⟩
    ·omega
    ·intro e;subst e;rw[h4] at hc;cases hc),zC,if_neg (by show¬q=nx;omega)]
theorem of23_run{hk:List (HookF Ar)}(hh:hookL hk 13=none){n:Nat}{v:Value}(hn:101≤n)(hL:L.length≤100)(hR:RowT 67 lo tbl nx v L) :
  ∃u h',RW hk (n+1) 13 [v] ⟨tbl,nx⟩=some (u,h')∧(RowT 52 nx h'.tbl h'.next u L∧Kq tbl nx h'.tbl h'.next):=by
 obtain⟨ad,rfl,hrow⟩:=hR.get
 refine run_fn hh fOf23 (zL rfl) ?_
 dsimp only[iOf23,argsE]
 refine WC.seq (WC.ops (WO.mv rfl (WO.nil (zN (WC.seq (WC.ops (WO.mv rfl (WO.nil (zN ?_)))))))))
 refine WC.seq (WC.seq (WC.ops (WO.mv rfl (WO.len rfl (WO.mv rfl (WO.nil (zN (WC.block ?_))))))))
 refine WC.loop (fun q e tb nb=>∃i v',i+q=L.length∧e 3=some v'∧e 6=some (.slice ad L.length L.length)∧e 7=some (vI L.length)∧e 8=some (vI i)∧RowT 52 nx tb nb v' (L.take i)∧Kq tbl nx tb nb) (k:=L.length) (by omega)
  ⟨0,.slice none 0 0,by omega,rfl,rfl,rfl,rfl,.inl ⟨by simp,rfl⟩,Kq.refl⟩ ?_
 rintro q e tb nb ⟨i,v',hiq,e3,e6,e7,e8,R,K⟩
 dsimp only at e3 e6 e7 e8
 refine WC.seq (WC.ops (WO.lssS e8 e7 (fun hz=>?_) (fun hz=>?_)))
 ·have hi:i<L.length:=by simp only[zO] at hz;omega
  obtain⟨c,hc⟩:∃c,L[i]? = some c:=⟨L[i],List.getElem?_eq_getElem hi⟩
  obtain⟨r,hr1,hr2,rfl,hr4⟩:=hrow (fun e=>by rw[e] at hi;simp at hi)
  have hrb:=(K.2 r hr2).trans hr4
  have hti:(L.take i).length=i:=by rw[List.length_take];omega
  have hts:L.take (i+1)=L.take i++[(c.1,c.2)]:=by rw[List.take_add_one,hc];rfl
  refine WO.nil (zN (WC.seq (WC.cond_true rfl (WC.skip (zN (WC.seq (WC.block (WC.seq (WC.ops ?_)))))))))
  refine WO.idxL (b:=r) (o:=0) (len:=L.length) (c:=L.length) (sp:=none) (j:=.i64) (z:=Int.ofNat i) (n:=i) e6 e8 rfl hi ?_
  refine WO.load (ob:=.grown 2 67 (lkC L)) (v:=.agg ⟨[.int .u64 (.ofNat c.1),.int .u64 (.ofNat c.2)]⟩) rfl hrb rfl (by rw[Nat.zero_add];exact lkC_get hc) rfl (WO.nst rfl (WO.nil (zN ?_)))
  have KA:Kq tbl nx ((nb,AObj.cells [.int .u64 (.ofNat c.1),.int .u64 (.ofNat c.2)])::tb) (nb+1):=K.cons K.1 (by omega)
  have RA:RowT 52 nx ((nb,AObj.cells [.int .u64 (.ofNat c.1),.int .u64 (.ofNat c.2)])::tb) (nb+1) v' (L.take i):=R.kq (Kq.refl.cons (Nat.le_refl _) (Nat.le_succ _))
  refine WC.ops (WO.mv e3 (WO.load (ob:=.cells [.int .u64 (.ofNat c.1),.int .u64 (.ofNat c.2)]) (v:=.agg ⟨[.int .u64 (.ofNat c.1),.int .u64 (.ofNat c.2)]⟩) rfl (by rw[zC,if_pos rfl]) rfl rfl rfl (WO.app2 rfl rfl RA (by omega) (fun t' R' h'=>?_) (by have:=K.1;omega))))
  rw[hti,← hts] at R'
  rw[hti]
  refine WO.mv rfl (WO.nil (zB (zN (WC.ops (WO.add e8 rfl (by simp only[zO];omega) (by simp only[zO];omega) (WO.mv rfl (WO.nil ?_)))))))
  exact⟨q-1,by omega,rfl,i+1,_,by omega,rfl,e6,e7,rfl,R',⟨by have:=K.1;show nx≤nb+1+2;omega,fun p hp=>(h' p (by have:=K.1;omega) (.inl hp)).trans (KA.2 p hp)⟩⟩
 ·have hi:i=L.length:=by simp only[zO] at hz;omega
  refine WO.nil (zN (WC.seq (WC.cond_false rfl (WC.exit (thenC_exit (blockC_exit ?_))))))
  refine zN (WC.seq (WC.ops (WO.mv (m:=⟨[],tb,nb⟩) e3 (WO.mv rfl (WO.nil (zN (WC.ret ?_)))))))
  rw[hi,List.take_length] at R
  exact⟨_,_,rfl,rfl,R,K⟩
end Go.AI
/- Rows of links: are they the same;is somebody in one;walked. -/
namespace Go.AI
open Go.Proofs
variable {x:Ar}{tbl t' t'':List (Nat×AObj Ar)}{nx n' n'' j a s i w z ty lo lo2:Nat}{L M:List (Nat×Nat)}
theorem pv_neqA{env:List (Nat×Value)}{x y:Opd}{c d:Nat×Nat}(hx:evo env x=some (.agg ⟨[.int .u64 (.ofNat c.1),.int .u64 (.ofNat c.2)]⟩))(hy:evo env y=some (.agg ⟨[.int .u64 (.ofNat d.1),.int .u64 (.ofNat d.2)]⟩)):peval env (.bin .neq (.agg [.int,.int]) x y)=some (.bool (decide (c≠d))):=by
 obtain⟨c1,c2⟩:=c
 obtain⟨d1,d2⟩:=d
 have h1:ieqF (Int.ofNat c1) (Int.ofNat d1)=decide (c1=d1):=by
  rw[ieqF_eq,show(Int.ofNat c1 == Int.ofNat d1)=decide (Int.ofNat c1=Int.ofNat d1) from rfl]
  exact decide_eq_decide.2 ⟨Int.ofNat.inj,fun e=>by rw[e]⟩
 have h2:ieqF (Int.ofNat c2) (Int.ofNat d2)=decide (c2=d2):=by
  rw[ieqF_eq,show(Int.ofNat c2 == Int.ofNat d2)=decide (Int.ofNat c2=Int.ofNat d2) from rfl]
  exact decide_eq_decide.2 ⟨Int.ofNat.inj,fun e=>by rw[e]⟩
 simp only[peval,hx,hy,binVal,eqVal,cellsEq,cellEq,if_true,h1,h2]
 by_cases e1:c1=d1
 ·by_cases e2:c2=d2
  ·simp[e1,e2]
  ·simp[e1,e2]
 ·simp[e1]
theorem WC.cond_ne{call:CallFn Ar}{fuel:Nat}{env:List (Nat×Value)}{m:Mem Ar}{Q:Ex→List (Nat×Value)→Mem Ar→Prop}{c:Opd}{a b:ICode}{p:Prop}[Decidable p](h:evo env c=some (.bool (decide (¬p))))(ht:¬p→WC call fuel a env m Q)(hf:p→WC call fuel b env m Q):WC call fuel (.cond c a b) env m Q :=
 WC.cond_dec h ht fun h=>hf (Classical.not_not.1 h)
theorem req_run{hk:List (HookF Ar)}(hh:hookL hk 12=none){n:Nat}{v u:Value}(hn:1001≤n)(hL:L.length≤1000)(hR:RowT 52 lo tbl nx v L)(hM:RowT 52 lo2 tbl nx u M) :
  ∃r h',RW hk (n+1) 12 [v,u] ⟨tbl,nx⟩=some (r,h')∧(r = .bool (decide (L=M))∧Kq tbl nx h'.tbl h'.next):=by
 obtain⟨ad,rfl,hrow⟩:=hR.get
 obtain⟨ad2,rfl,hrow2⟩:=hM.get
 refine run_fn hh fReq (zL rfl) ?_
 dsimp only[iReq,argsE]
 refine WC.seq (WC.ops (WO.mv rfl (WO.nil (zN ?_))))
 refine WC.seq (WC.seq (WC.ops (WO.mv rfl (WO.len rfl (WO.mv rfl (WO.len rfl (WO.neqS rfl rfl (fun h=>?_) (fun h=>?_))))))))
 ·have h:L≠M:=fun e=>h (by rw[e])
  refine WO.nil (zN (WC.cond_true rfl (WC.seq (WC.ops (WO.mv rfl (WO.nil (zN (WC.ret (thenC_ret ?_)))))))))
  exact⟨_,_,rfl,rfl,by rw[decide_eq_false h],Kq.refl⟩
 have hlen:L.length=M.length:=Int.ofNat.inj h
 refine WO.nil (zN (WC.cond_false rfl (WC.skip (zN (WC.seq (WC.seq (WC.ops (WO.mv rfl (WO.len rfl (WO.mv rfl (WO.nil (zN (WC.block ?_)))))))))))))
 refine WC.loop (fun q e tb nb=>∃i,i+q=L.length∧e 0=some (.slice ad L.length L.length)∧e 1=some (.slice ad2 M.length M.length)∧e 12=some (vI L.length)∧e 13=some (vI i)∧L.take i=M.take i∧Kq tbl nx tb nb) (k:=L.length) (by omega)
  ⟨0,by omega,rfl,rfl,rfl,rfl,by simp,Kq.refl⟩ ?_
 rintro q e tb nb ⟨i,hiq,e0,e1,e12,e13,hT,K⟩
 dsimp only at e0 e1 e12 e13
 refine WC.seq (WC.ops (WO.lssS e13 e12 (fun hz=>?_) (fun hz=>?_)))
 ·have hi:i<L.length:=by simp only[zO] at hz;omega
  obtain⟨c,hc⟩:∃c,L[i]? = some c:=⟨L[i],List.getElem?_eq_getElem hi⟩
  obtain⟨d,hd⟩:∃d,M[i]? = some d:=⟨M[i]'(by omega),List.getElem?_eq_getElem (by omega)⟩
  obtain⟨r,hr1,hr2,rfl,hr4⟩:=hrow (fun e=>by rw[e] at hi;simp at hi)
  obtain⟨r2,hr5,hr6,rfl,hr8⟩:=hrow2 (fun e=>by rw[e] at hlen;exact absurd hlen (by show¬L.length=0;omega))
  have hrb:=(K.2 r hr2).trans hr4
  have hrb2:=(K.2 r2 hr6).trans hr8
  have l1:∀m,(⟨[],tb,m⟩:Mem Ar).load ⟨r,0+i*2,none⟩ 2=some [.int .u64 (.ofNat c.1),.int .u64 (.ofNat c.2)]:=fun m=>mem_load hrb rfl (by rw[Nat.zero_add];exact lkC_get hc)
  have l2:∀m,(⟨[],tb,m⟩:Mem Ar).load ⟨r2,0+i*2,none⟩ 2=some [.int .u64 (.ofNat d.1),.int .u64 (.ofNat d.2)]:=fun m=>mem_load hrb2 rfl (by rw[Nat.zero_add];exact lkC_get hd)
  refine WO.nil (zN (WC.seq (WC.cond_true rfl (WC.skip (zN (WC.seq (WC.block (WC.seq (WC.ops (WO.mv e13 (WO.mv rfl (WO.nil (zN (WC.seq (WC.drawnW ?_)))))))))))))))
  refine WD.pure (v:=.slice (some ⟨r,0,none⟩) L.length L.length) (evOut e0 rfl rfl) (WD.pure (v:=vI i) (evOut rfl rfl rfl) (WD.pure (v:=.pointer (some ⟨r,0+i*2,none⟩)) (pv_idxK rfl rfl hi) ?_))
  refine WD.load (m:=⟨[],tb,nb+9⟩) (ms:=[]) (v:=vLk c.1 c.2) rfl (l1 _) rfl ?_
  refine WD.pure (v:=.slice (some ⟨r2,0,none⟩) M.length M.length) (evOut e1 rfl rfl) (WD.pure (v:=vI i) (evOut rfl rfl rfl) (WD.pure (v:=.pointer (some ⟨r2,0+i*2,none⟩)) (pv_idxK rfl rfl (by omega)) ?_))
  refine WD.load (m:=⟨[],tb,nb+9⟩) (ms:=[]) (v:=vLk d.1 d.2) rfl (l2 _) rfl ?_
  refine WD.pure (v:=.bool (decide (c≠d))) (pv_neqA rfl rfl) (WD.nil ⟨?_,_,_,rfl,?_⟩)
  ·have cc:∀y y2:Nat,ceqs [Value.int .u64 (.ofNat y),Value.int .u64 (.ofNat y2)] [Value.int .u64 (.ofNat y),Value.int .u64 (.ofNat y2)]=true:=fun y y2=>by simp[ceqs,ceq,ieqF_refl]
   simp only[heldAll,loadsIn,l1,l2,cc]
   rfl
  refine zN (WC.cond_ne rfl (fun hcd=>?_) (fun hcd=>?_))
  ·refine WC.seq (WC.ops (WO.mv rfl (WO.nil (zN (WC.ret (blockC_ret (thenC_ret (blockC_ret (thenC_ret ?_)))))))))
   have h:L≠M:=fun e=>hcd (by rw[e,hd] at hc;exact(Option.some.inj hc).symm)
   exact⟨_,_,rfl,rfl,by rw[decide_eq_false h],K.up (by show nb≤nb+9;omega)⟩
  ·refine WC.skip (zB (zN (WC.ops (WO.add e13 rfl (by simp only[zO];omega) (by simp only[zO];omega) (WO.mv rfl (WO.nil ?_))))))
   exact⟨q-1,by omega,rfl,i+1,by omega,e0,e1,e12,rfl,by rw[List.take_add_one,List.take_add_one,hT,hc,hd,hcd],K.up (by show nb≤nb+9;omega)⟩
 ·have hi:i=L.length:=by simp only[zO] at hz;omega
  refine WO.nil (zN (WC.seq (WC.cond_false rfl (WC.exit (thenC_exit (blockC_exit ?_))))))
  refine zN (WC.seq (WC.ops (WO.mv (m:=⟨[],tb,nb⟩) rfl (WO.nil (zN (WC.ret ?_))))))
  have h:L=M:=by
   rw[hi,List.take_length,hlen,List.take_length] at hT
   exact hT
  exact⟨_,_,rfl,rfl,by rw[decide_eq_true h],K⟩
theorem rhas_run{hk:List (HookF Ar)}(hh:hookL hk 28=none){n:Nat}{v:Value}(hn:1001≤n)(hL:L.length≤1000)(hR:RowT 52 lo tbl nx v L) :
  ∃u h',RW hk (n+1) 28 [v,.int .u64 (.ofNat w)] ⟨tbl,nx⟩=some (u,h')∧(u = .bool (L.any fun c=>decide (c.1=w))∧Kq tbl nx h'.tbl h'.next):=by
 obtain⟨ad,rfl,hrow⟩:=hR.get
 refine run_fn hh frHas (zL rfl) ?_
 dsimp only[irHas,argsE]
 refine WC.seq (WC.ops (WO.mv rfl (WO.nil (zN ?_))))
 refine WC.seq (WC.seq (WC.ops (WO.mv rfl (WO.len rfl (WO.mv rfl (WO.nil (zN (WC.block ?_))))))))
 refine WC.loop (fun q e tb nb=>∃i,i+q=L.length∧e 1=some (.int .u64 (.ofNat w))∧e 7=some (.slice ad L.length L.length)∧e 8=some (vI L.length)∧e 9=some (vI i)∧(∀c,c∈L.take i→c.1≠w)∧Kq tbl nx tb nb) (k:=L.length) (by omega)
  ⟨0,by omega,rfl,rfl,rfl,rfl,fun c hc=>by simp at hc,Kq.refl⟩ ?_
 rintro q e tb nb ⟨i,hiq,e1,e7,e8,e9,hw,K⟩
 dsimp only at e1 e7 e8 e9
 refine WC.seq (WC.ops (WO.lssS e9 e8 (fun hz=>?_) (fun hz=>?_)))
 ·have hi:i<L.length:=by simp only[zO] at hz;omega
  obtain⟨c,hc⟩:∃c,L[i]? = some c:=⟨L[i],List.getElem?_eq_getElem hi⟩
  obtain⟨r,hr1,hr2,rfl,hr4⟩:=hrow (fun e=>by rw[e] at hi;simp at hi)
  have hrb:=(K.2 r hr2).trans hr4
  refine WO.nil (zN (WC.seq (WC.cond_true rfl (WC.skip (zN (WC.seq (WC.block (WC.seq (WC.ops ?_)))))))))
  refine WO.idxL (b:=r) (o:=0) (len:=L.length) (c:=L.length) (sp:=none) (j:=.i64) (z:=Int.ofNat i) (n:=i) e7 e9 rfl hi ?_
  refine WO.load (ob:=.grown 2 52 (lkC L)) (v:=.agg ⟨[.int .u64 (.ofNat c.1),.int .u64 (.ofNat c.2)]⟩) rfl hrb rfl (by rw[Nat.zero_add];exact lkC_get hc) rfl (WO.nst rfl (WO.nil (zN ?_)))
  have KA:Kq tbl nx ((nb,AObj.cells [.int .u64 (.ofNat c.1),.int .u64 (.ofNat c.2)])::tb) (nb+1):=K.cons K.1 (by omega)
  refine WC.seq (WC.ops (WO.fadd rfl (WO.load (ob:=.cells [.int .u64 (.ofNat c.1),.int .u64 (.ofNat c.2)]) (v:=.int .u64 (.ofNat c.1)) rfl (by rw[zC,if_pos rfl]) rfl rfl rfl (WO.mv e1 (WO.eqlS rfl rfl (fun h=>?_) (fun h=>?_))))))
  ·have h:c.1=w:=Int.ofNat.inj h
   refine WO.nil (zN (WC.cond_true rfl (WC.seq (WC.ops (WO.mv rfl (WO.nil (zN (WC.ret ?_))))))))
   refine blockC_ret (thenC_ret (blockC_ret (thenC_ret ?_)))
   have:(L.any fun c=>decide (c.1=w))=true:=List.any_eq_true.2 ⟨c,List.mem_of_getElem? hc,decide_eq_true h⟩
   exact⟨_,_,rfl,rfl,by rw[this],KA⟩
  ·have h:c.1≠w:=fun e=>h (by rw[e])
   refine WO.nil (zN (WC.cond_false rfl (WC.skip (zB (zN (WC.ops (WO.add e9 rfl (by simp only[zO];omega) (by simp only[zO];omega) (WO.mv rfl (WO.nil ?_)))))))))
   refine⟨q-1,by omega,rfl,i+1,by omega,e1,e7,e8,rfl,fun d hd=>?_,KA⟩
   rw[List.take_add_one,hc] at hd
   rcases List.mem_append.1 hd with hd|hd
   ·exact hw d hd
   ·rw[show d=c by simpa using hd];exact h
 ·have hi:i=L.length:=by simp only[zO] at hz;omega
  refine WO.nil (zN (WC.seq (WC.cond_false rfl (WC.exit (thenC_exit (blockC_exit ?_))))))
  refine zN (WC.seq (WC.ops (WO.mv (m:=⟨[],tb,nb⟩) rfl (WO.nil (zN (WC.ret ?_))))))
  have:(L.any fun c=>decide (c.1=w))=false:=by
   rw[← Bool.not_eq_true,List.any_eq_true]
   rintro⟨c,h1,h2⟩
   exact hw c (by rw[hi,List.take_length];exact h1) (of_decide_eq_true h2)
  exact⟨_,_,rfl,rfl,by rw[this],K⟩
end Go.AI
/- The document's links: Drop, and Add, walked. -/
namespace Go.AI
open Go.Proofs
variable {x:Ar}{tbl t' t'':List (Nat×AObj Ar)}{nx n' n'' j a s i w z ty lo lo2:Nat}{L M:List (Nat×Nat)}
abbrev pairV(v:Value)(e:Nat):Value:=.tuple ⟨[v,errV e]⟩
def dropF(L:List (Nat×Nat))(w:Nat):List (Nat×Nat):=L.filter fun c=>decide (c.1≠w)
theorem insI_at:∀(L:List (Nat×Nat)) (i:Nat) (c:Nat×Nat),i≤insI z L→L[i]? = some c→(z<c.2↔insI z L=i)
 |[],_,_,_,h=>by simp at h
 |d::r,0,c,_,h=>by
  have h:d=c:=by simpa using h
  subst h
  show z<d.2↔(if d.2≤z then insI z r+1 else 0)=0
  split
  ·constructor
   ·intro h;omega
   ·intro h;omega
  ·constructor
   ·intro _;rfl
   ·intro _;omega
 |d::r,i+1,c,hle,h=>by
  have hle:i+1≤(if d.2≤z then insI z r+1 else 0):=hle
  show z<c.2↔(if d.2≤z then insI z r+1 else 0)=i+1
  split at hle
  ·rename_i hd
   rw[if_pos hd]
   have:=insI_at r i c (by omega) (by simpa using h)
   constructor
   ·intro h;rw[this.1 h]
   ·intro h;exact this.2 (by omega)
  ·omega
def outR(L:List (Nat×Nat))(w z i:Nat):List (Nat×Nat):=if insI z L<i then L.take (insI z L)++(w,z)::(L.take i).drop (insI z L) else L.take i
theorem outR_len(L:List (Nat×Nat))(i:Nat):(outR L w z i).length≤L.length+1:=by
 unfold outR
 split
 ·rw[List.length_append,List.length_cons,List.length_take,List.length_drop,List.length_take];omega
 ·rw[List.length_take];omega
end Go.AI
/- The document's links: Add, walked. -/
namespace Go.AI
open Go.Proofs
variable {x:Ar}{tbl t' t'':List (Nat×AObj Ar)}{nx n' n'' j a s i w z ty lo lo2:Nat}{L M:List (Nat×Nat)}
theorem outR_at{c:Nat×Nat}(hc:L[i]? = some c)(hi:i≤insI z L):outR L w z i=L.take i:=by
 unfold outR
 rw[if_neg (by omega)]
theorem outR_gt{c:Nat×Nat}(hc:L[i]? = some c)(hi:insI z L<i):outR L w z (i+1)=outR L w z i++[c]:=by
 have hl:i<L.length:=(List.getElem?_eq_some_iff.1 hc).1
 unfold outR
 rw[if_pos (by omega),if_pos hi,List.take_add_one,hc,List.drop_append_of_le_length (by rw[List.length_take];omega)]
 simp
theorem outR_eq{c:Nat×Nat}(hc:L[i]? = some c)(hi:insI z L=i):outR L w z (i+1)=L.take i++[(w,z)]++[c]:=by
 have hl:i<L.length:=(List.getElem?_eq_some_iff.1 hc).1
 unfold outR
 rw[if_pos (by omega),hi,List.take_add_one,hc,List.drop_append_of_le_length (by rw[List.length_take];omega),List.drop_of_length_le (by rw[List.length_take];omega)]
 simp
theorem outR_lt{c:Nat×Nat}(hc:L[i]? = some c)(hi:i<insI z L):outR L w z (i+1)=L.take i++[c]:=by
 unfold outR
 rw[if_neg (by omega),List.take_add_one,hc];rfl
theorem outR_end_in(h:insI z L<L.length):outR L w z L.length=insK L w z:=by
 unfold outR insK
 rw[if_pos h,List.take_length]
theorem outR_end_out(h:¬insI z L<L.length):outR L w z L.length++[(w,z)]=insK L w z:=by
 have h1:=insI_le (z:=z) L
 have h2:insI z L=L.length:=by omega
 unfold outR insK
 rw[if_neg h,h2,List.take_length,List.drop_length]
theorem radd_run{hk:List (HookF Ar)}(h28:hookL hk 28=none)(h25:hookL hk 25=none){n m:Nat}{v:Value}(hn:1001≤n)(hL:L.length<1000)(hR:RowT 52 lo tbl nx v L)(hlo:lo≤nx) :
  ∃u h',RW hk (n+2) 25 [v,vI m,vLk w z] ⟨tbl,nx⟩=some (u,h')∧(∃v',u=pairV v' (chkN L m w z)∧RowT 52 lo h'.tbl h'.next v' (if chkN L m w z=0 then insK L w z else L)∧Kq tbl nx h'.tbl h'.next):=by
 obtain⟨ad,hv,hrow⟩:=hR.get
 refine run_fn h25 frAdd (zL rfl) ?_
 dsimp only[irAdd,argsE]
 have K0:Kq tbl nx ((nx,AObj.cells [.int .u64 (.ofNat w),.int .u64 (.ofNat z)])::tbl) (nx+1):=Kq.refl.cons (Nat.le_refl _) (Nat.le_succ _)
 refine WC.seq (WC.ops (WO.box (v:=vLk w z) (cs:=[.int .u64 (.ofNat w),.int .u64 (.ofNat z)]) rfl rfl (WO.mv rfl (WO.mv rfl (WO.nil (zN ?_))))))
 have c1:look nx ((nx,AObj.cells [.int .u64 (.ofNat w),.int .u64 (.ofNat z)])::tbl)=some (.cells [.int .u64 (.ofNat w),.int .u64 (.ofNat z)]):=by rw[zC,if_pos rfl]
 have R0:=hR.kq K0
 generalize((nx,AObj.cells [.int .u64 (.ofNat w),.int .u64 (.ofNat z)])::tbl)=T at K0 c1 R0 ⊢
 subst hv
 have h2:w=0∨z=0→chkN L m w z=2:=fun h=>if_pos h
 refine WC.seq (WC.seq (WC.ops (WO.fadd rfl (WO.load (ob:=.cells [.int .u64 (.ofNat w),.int .u64 (.ofNat z)]) (v:=.int .u64 (.ofNat w)) rfl c1 rfl rfl rfl (WO.eqlS rfl rfl (fun h0=>?_) (fun h0=>?_))))))
 ·have h0:w=0:=Int.ofNat.inj h0
  refine WO.mv rfl (WO.skip rfl rfl (WO.skip rfl rfl (WO.skip rfl rfl (WO.pure (v:=.bool true) rfl (WO.nil (zN (WC.cond_true rfl ?_)))))))
  refine WC.seq (WC.ops (WO.mv rfl (WO.mv rfl (WO.mv rfl (WO.nil (zN (WC.ret (thenC_ret ?_))))))))
  exact⟨_,_,rfl,rfl,_,by rw[h2 (.inl h0)];rfl,by rw[h2 (.inl h0)];exact R0,K0⟩
 have hw0:w≠0:=fun e=>h0 (by rw[e])
 refine WO.mv rfl (WO.take rfl rfl (WO.fadd rfl (WO.take rfl rfl (WO.load (ob:=.cells [.int .u64 (.ofNat w),.int .u64 (.ofNat z)]) (v:=.int .u64 (.ofNat z)) rfl c1 rfl rfl rfl (WO.take rfl rfl (WO.eqlS rfl rfl (fun h0=>?_) (fun h0=>?_)))))))
 ·have h0:z=0:=Int.ofNat.inj h0
  refine WO.pure (v:=.bool true) rfl (WO.nil (zN (WC.cond_true rfl ?_)))
  refine WC.seq (WC.ops (WO.mv rfl (WO.mv rfl (WO.mv rfl (WO.nil (zN (WC.ret (thenC_ret ?_))))))))
  exact⟨_,_,rfl,rfl,_,by rw[h2 (.inr h0)];rfl,by rw[h2 (.inr h0)];exact R0,K0⟩
 have hz0:z≠0:=fun e=>h0 (by rw[e])
 have hnn:¬(w=0∨z=0):=fun h=>h.elim hw0 hz0
 refine WO.pure (v:=.bool false) rfl (WO.nil (zN (WC.cond_false rfl (WC.skip (zN ?_)))))
 refine WC.seq (WC.seq (WC.ops (WO.mv rfl (WO.fadd rfl (WO.load (ob:=.cells [.int .u64 (.ofNat w),.int .u64 (.ofNat z)]) (v:=.int .u64 (.ofNat w)) rfl c1 rfl rfl rfl ?_)))))
 refine WO.fcall_ex (vs:=[.slice ad L.length L.length,.int .u64 (.ofNat w)]) rfl rfl (rhas_run (n:=n) h28 hn (by omega) R0) ?_
 rintro u ⟨t2,n2⟩ ⟨rfl,k2⟩
 dsimp only at k2
 have R2:=R0.kq k2
 have K2:=K0.trans k2
 have c2:=(k2.2 nx (Nat.lt_succ_self nx)).trans c1
 have g2:nx+1≤n2:=k2.1
 cases hany:L.any fun c=>decide (c.1=w) with
 |true =>
  have h9:chkN L m w z=9:=by unfold chkN;rw[if_neg hnn,if_pos hany]
  refine WO.nil (zN (WC.cond_true rfl (WC.seq (WC.ops (WO.mv rfl (WO.mv rfl (WO.mv rfl (WO.nil (zN (WC.ret (thenC_ret ?_)))))))))))
  exact⟨_,_,rfl,rfl,_,by rw[h9];rfl,by rw[h9];exact R2,K2⟩
 |false =>
 have hgo:¬L.any (fun c=>decide (c.1=w))=true:=by rw[hany];exact fun h=>by cases h
 refine WO.nil (zN (WC.cond_false rfl (WC.skip (zN ?_))))
 refine WC.seq (WC.seq (WC.ops (WO.mv rfl (WO.len rfl (WO.mv rfl (WO.geqS rfl rfl (fun h=>?_) (fun h=>?_)))))))
 ·have h:m≤L.length:=by simp only[zO] at h;omega
  have h10:chkN L m w z=10:=by unfold chkN;rw[if_neg hnn,if_neg hgo,if_pos h]
  refine WO.nil (zN (WC.cond_true rfl (WC.seq (WC.ops (WO.mv rfl (WO.mv rfl (WO.mv rfl (WO.nil (zN (WC.ret (thenC_ret ?_)))))))))))
  exact⟨_,_,rfl,rfl,_,by rw[h10];rfl,by rw[h10];exact R2,K2⟩
 have h:¬m≤L.length:=by simp only[zO] at h;omega
 have he:chkN L m w z=0:=by unfold chkN;rw[if_neg hnn,if_neg hgo,if_neg h]
 refine WO.nil (zN (WC.cond_false rfl (WC.skip (zN (WC.seq (WC.ops (WO.mv rfl (WO.nil (zN (WC.seq (WC.ops (WO.mv rfl (WO.nil (zN ?_))))))))))))))
 refine WC.seq (WC.seq (WC.ops (WO.mv rfl (WO.len rfl (WO.mv rfl (WO.nil (zN (WC.block ?_))))))))
 refine WC.loop (fun q e tb nb=>∃i v',i+q=L.length∧e 5=some (.pointer (some ⟨nx,0,none⟩))∧e 8=some v'∧e 9=some (.bool (decide (insI z L<i)))∧e 31=some (.slice ad L.length L.length)∧e 32=some (vI L.length)∧e 33=some (vI i)∧RowT 52 n2 tb nb v' (outR L w z i)∧Kq t2 n2 tb nb) (k:=L.length) (by omega)
  ⟨0,.slice none 0 0,by omega,rfl,rfl,by rw[decide_eq_false (Nat.not_lt_zero _)];rfl,rfl,rfl,rfl,.inl ⟨by simp[outR],rfl⟩,Kq.refl⟩ ?_
 rintro q e tb nb ⟨i,v',hiq,e5,e8,e9,e31,e32,e33,R,K⟩
 dsimp only at e5 e8 e9 e31 e32 e33
 have cb:look nx tb=_:=(K.2 nx (by omega)).trans c2
 refine WC.seq (WC.ops (WO.lssS e33 e32 (fun hz=>?_) (fun hz=>?_)))
 ·have hi:i<L.length:=by simp only[zO] at hz;omega
  obtain⟨c,hc⟩:∃c,L[i]? = some c:=⟨L[i],List.getElem?_eq_getElem hi⟩
  obtain⟨r,hr1,hr2,rfl,hr4⟩:=hrow (fun e=>by rw[e] at hi;simp at hi)
  have hrb:=(K.2 r (by omega)).trans ((K2.2 r hr2).trans hr4)
  have hlen:=outR_len (w:=w) (z:=z) L i
  refine WO.nil (zN (WC.seq (WC.cond_true rfl (WC.skip (zN (WC.seq (WC.block (WC.seq (WC.ops ?_)))))))))
  refine WO.idxL (b:=r) (o:=0) (len:=L.length) (c:=L.length) (sp:=none) (j:=.i64) (z:=Int.ofNat i) (n:=i) e31 e33 rfl hi ?_
  refine WO.load (ob:=.grown 2 52 (lkC L)) (v:=.agg ⟨[.int .u64 (.ofNat c.1),.int .u64 (.ofNat c.2)]⟩) rfl hrb rfl (by rw[Nat.zero_add];exact lkC_get hc) rfl (WO.nst rfl (WO.nil (zN ?_)))
  have g3:=K.1
  have KA:Kq t2 n2 ((nb,AObj.cells [.int .u64 (.ofNat c.1),.int .u64 (.ofNat c.2)])::tb) (nb+1):=K.cons K.1 (by omega)
  have RA:RowT 52 n2 ((nb,AObj.cells [.int .u64 (.ofNat c.1),.int .u64 (.ofNat c.2)])::tb) (nb+1) v' (outR L w z i):=R.kq (Kq.refl.cons (Nat.le_refl _) (Nat.le_succ _))
  have hcell:look nb ((nb,AObj.cells [.int .u64 (.ofNat c.1),.int .u64 (.ofNat c.2)])::tb)=some (.cells [.int .u64 (.ofNat c.1),.int .u64 (.ofNat c.2)]):=by rw[zC,if_pos rfl]
  have cb2:look nx ((nb,AObj.cells [.int .u64 (.ofNat c.1),.int .u64 (.ofNat c.2)])::tb)=some (.cells [.int .u64 (.ofNat w),.int .u64 (.ofNat z)]):=by rw[zC,if_neg (by show¬nx=nb;omega)];exact cb
  generalize((nb,AObj.cells [.int .u64 (.ofNat c.1),.int .u64 (.ofNat c.2)])::tb)=TA at KA RA hcell cb2 ⊢
  by_cases hd:insI z L<i
  ·rw[decide_eq_true hd] at e9
   refine WC.seq (WC.seq (WC.ops (WO.mv e9 (WO.pure (v:=.bool false) rfl (WO.mv rfl (WO.skip rfl rfl (WO.skip rfl rfl (WO.skip rfl rfl (WO.skip rfl rfl (WO.skip rfl rfl (WO.pure (v:=.bool false) rfl (WO.nil (zN (WC.cond_false rfl (WC.skip (zN ?_))))))))))))))))
   refine WC.ops (WO.mv e8 (WO.load (ob:=.cells [.int .u64 (.ofNat c.1),.int .u64 (.ofNat c.2)]) (v:=.agg ⟨[.int .u64 (.ofNat c.1),.int .u64 (.ofNat c.2)]⟩) rfl hcell rfl rfl rfl (WO.app2 rfl rfl RA (by omega) (fun t' R' h'=>?_) (by omega))))
   refine WO.mv rfl (WO.nil (zB (zN (WC.ops (WO.add e33 rfl (by simp only[zO];omega) (by simp only[zO];omega) (WO.mv rfl (WO.nil ?_)))))))
   refine⟨q-1,by omega,rfl,i+1,_,by omega,e5,rfl,?_,e31,e32,rfl,?_,⟨by show n2≤nb+1+2;omega,fun p hp=>(h' p (by omega) (.inl hp)).trans (KA.2 p hp)⟩⟩
   ·rw[decide_eq_true (by omega:insI z L<i+1)];exact e9
   ·rw[outR_gt hc hd];exact R'
  ·rw[decide_eq_false hd] at e9
   refine WC.seq (WC.seq (WC.ops (WO.mv e9 (WO.pure (v:=.bool true) rfl (WO.mv rfl (WO.take rfl rfl (WO.fadd rfl (WO.take rfl rfl (WO.load (ob:=.cells [.int .u64 (.ofNat c.1),.int .u64 (.ofNat c.2)]) (v:=.int .u64 (.ofNat c.2)) rfl hcell rfl rfl rfl (WO.take rfl rfl (WO.fadd e5 (WO.take rfl rfl (WO.load (ob:=.cells [.int .u64 (.ofNat w),.int .u64 (.ofNat z)]) (v:=.int .u64 (.ofNat z)) rfl cb2 rfl rfl rfl (WO.take rfl rfl ?_))))))))))))))
   have hat:=outR_at (w:=w) hc (by omega:i≤insI z L)
   have hdec:=insI_at L i c (by omega:i≤insI z L) hc
   refine WO.gtrS rfl rfl (fun hg=>?_) (fun hg=>?_)
   ·have hk:insI z L=i:=hdec.1 (by simp only[zO] at hg;omega)
    refine WO.pure (v:=.bool true) rfl (WO.nil (zN (WC.cond_true rfl ?_)))
    refine WC.seq (WC.ops (WO.mv e8 (WO.load (ob:=.cells [.int .u64 (.ofNat w),.int .u64 (.ofNat z)]) (v:=.agg ⟨[.int .u64 (.ofNat w),.int .u64 (.ofNat z)]⟩) (by exact e5) cb2 rfl rfl rfl (WO.app2 rfl rfl RA (by omega) (fun t3 R3 h3=>?_) (by omega)))))
    refine WO.mv rfl (WO.nil (zN (WC.ops (WO.mv rfl (WO.nil (zN ?_))))))
    have hcell3:look nb t3=_:=(h3 nb (by omega) (.inr ⟨_,hcell⟩)).trans hcell
    have hl3:(outR L w z i).length+1=(outR L w z i++[(w,z)]).length:=by simp
    rw[hl3] at R3 ⊢
    refine WC.ops (WO.mv rfl (WO.load (ob:=.cells [.int .u64 (.ofNat c.1),.int .u64 (.ofNat c.2)]) (v:=.agg ⟨[.int .u64 (.ofNat c.1),.int .u64 (.ofNat c.2)]⟩) rfl hcell3 rfl rfl rfl (WO.app2 rfl rfl R3 (by rw[← hl3,hat,List.length_take];omega) (fun t' R' h'=>?_) (by omega))))
    refine WO.mv rfl (WO.nil (zB (zN (WC.ops (WO.add e33 rfl (by simp only[zO];omega) (by simp only[zO];omega) (WO.mv rfl (WO.nil ?_)))))))
    refine⟨q-1,by omega,rfl,i+1,_,by omega,e5,rfl,?_,e31,e32,rfl,?_,⟨by show n2≤nb+1+2+2;omega,fun p hp=>(h' p (by omega) (.inl hp)).trans ((h3 p (by omega) (.inl hp)).trans (KA.2 p hp))⟩⟩
    ·rw[decide_eq_true (by omega:insI z L<i+1)];rfl
    ·rw[outR_eq hc hk,← hat];exact R'
   ·have hk:i<insI z L:=by
     have:¬z<c.2:=by simp only[zO] at hg;omega
     rw[hdec] at this;omega
    refine WO.pure (v:=.bool false) rfl (WO.nil (zN (WC.cond_false rfl (WC.skip (zN ?_)))))
    refine WC.ops (WO.mv e8 (WO.load (ob:=.cells [.int .u64 (.ofNat c.1),.int .u64 (.ofNat c.2)]) (v:=.agg ⟨[.int .u64 (.ofNat c.1),.int .u64 (.ofNat c.2)]⟩) rfl hcell rfl rfl rfl (WO.app2 rfl rfl RA (by omega) (fun t' R' h'=>?_) (by omega))))
    refine WO.mv rfl (WO.nil (zB (zN (WC.ops (WO.add e33 rfl (by simp only[zO];omega) (by simp only[zO];omega) (WO.mv rfl (WO.nil ?_)))))))
    refine⟨q-1,by omega,rfl,i+1,_,by omega,e5,rfl,?_,e31,e32,rfl,?_,⟨by show n2≤nb+1+2;omega,fun p hp=>(h' p (by omega) (.inl hp)).trans (KA.2 p hp)⟩⟩
    ·rw[decide_eq_false (by omega:¬insI z L<i+1)];exact e9
    ·rw[outR_lt hc hk,← hat];exact R'
 ·have hi:i=L.length:=by simp only[zO] at hz;omega
  subst hi
  have g3:=K.1
  refine WO.nil (zN (WC.seq (WC.cond_false rfl (WC.exit (thenC_exit (blockC_exit ?_))))))
  by_cases hd:insI z L<L.length
  ·rw[decide_eq_true hd] at e9
   refine zN (WC.seq (WC.seq (WC.ops (WO.mv (m:=⟨[],tb,nb⟩) e9 (WO.pure (v:=.bool false) rfl (WO.nil (zN (WC.cond_false rfl (WC.skip (zN ?_))))))))))
   rw[outR_end_in hd] at R
   obtain⟨ad',rfl,_⟩:=R.get
   refine WC.seq (WC.ops (WO.mv (m:=⟨[],tb,nb⟩) e8 (WO.mv rfl (WO.mv rfl (WO.nil (zN (WC.ret ?_)))))))
   exact⟨_,_,rfl,rfl,_,by rw[he];rfl,by rw[if_pos he];exact R.wk (by omega),K2.trans K⟩
  ·rw[decide_eq_false hd] at e9
   refine zN (WC.seq (WC.seq (WC.ops (WO.mv (m:=⟨[],tb,nb⟩) e9 (WO.pure (v:=.bool true) rfl (WO.nil (zN (WC.cond_true rfl ?_))))))))
   have hlen:=outR_len (w:=w) (z:=z) L L.length
   refine WC.ops (WO.mv e8 (WO.load (ob:=.cells [.int .u64 (.ofNat w),.int .u64 (.ofNat z)]) (v:=.agg ⟨[.int .u64 (.ofNat w),.int .u64 (.ofNat z)]⟩) (by exact e5) cb rfl rfl rfl (WO.app2 rfl rfl R (by omega) (fun t' R' h'=>?_) (by omega))))
   rw[outR_end_out hd] at R'
   refine WO.mv rfl (WO.nil (zN (WC.seq (WC.ops (WO.mv rfl (WO.mv rfl (WO.mv rfl (WO.nil (zN (WC.ret ?_))))))))))
   exact⟨_,_,rfl,rfl,_,by rw[he];rfl,by rw[if_pos he];exact R'.wk (by omega),K2.trans ⟨by show n2≤nb+2;omega,fun p hp=>(h' p (by omega) (.inl hp)).trans (K.2 p hp)⟩⟩
end Go.AI
/- Links in a page: what is there behind Add, and behind Drop. -/
namespace Go.AI
variable {P off m s o k i w z:Nat}{L:List (Nat×Nat)}
theorem pgW_zP(h:off≤o)(h2:o+k≤off+m):pgW (zP P off m) o k=0:=by
 unfold zP
 split
 ·have hk:k=0:=by omega
  subst hk
  show _ % 256 ^ 0=0
  rw[Nat.pow_zero,Nat.mod_one]
 ·exact pgW_zero h h2
theorem zP_out(h:o+k≤off∨off+m≤o):pgW (zP P off m) o k=pgW P o k:=by
 unfold zP
 split
 ·rfl
 ·exact pgW_ne (Nat.pow_pos (by decide)) h
theorem lay_read(hL:L.length≤m)(hc:∀c,c∈L→c.1≠0∧c.1<18446744073709551616∧c.2<18446744073709551616):pgL (layP off (zP P off (m*16)) 0 L) off m 0=L :=
 layP_read hc hL fun h=>pgW_zP (by omega) (by omega)
theorem lay_out(hL:L.length≤m)(hc:∀c,c∈L→c.1≠0∧c.1<18446744073709551616∧c.2<18446744073709551616)(h:o+k≤off∨off+m*16≤o):pgW (layP off (zP P off (m*16)) 0 L) o k=pgW P o k:=by
 rw[layP_out (fun c h=>(hc c h).2) (by omega)]
 exact zP_out h
theorem pgL_congr{P Q:Nat}:∀{n i:Nat},(∀o,off+i*16≤o→o+8≤off+(i+n)*16→pgW P o 8=pgW Q o 8)→pgL P off n i=pgL Q off n i
 |0,_,_=>rfl
 |n+1,i,h=>by
  unfold pgL
  rw[h (off+i*16) (by omega) (by omega),h (off+i*16+8) (by omega) (by omega),pgL_congr (n:=n) (i:=i+1) fun o h1 h2=>h o (by omega) (by omega)]
def Uni(L:List (Nat×Nat)):Prop:=(L.map Prod.fst).Nodup
theorem chk_zero(h:chkN L m w z=0):w≠0∧z≠0∧(∀c,c∈L→c.1≠w)∧L.length<m:=by
 unfold chkN at h
 split at h
 ·cases h
 ·rename_i h1
  split at h
  ·cases h
  ·rename_i h2
   split at h
   ·cases h
   ·exact⟨fun e=>h1 (.inl e),fun e=>h1 (.inr e),fun c hc e=>h2 (List.any_eq_true.2 ⟨c,hc,decide_eq_true e⟩),by omega⟩
theorem Uni.ins(h:Uni L)(hw:∀c,c∈L→c.1≠w):Uni (insK L w z):=by
 have h0:(L.map Prod.fst).Nodup:=h
 have h1:w∉L.map Prod.fst:=fun hm=>by
  obtain⟨c,hc,e⟩:=List.mem_map.1 hm
  exact hw c hc e
 have hp:List.Perm ((insK L w z).map Prod.fst) (w::L.map Prod.fst):=by
  unfold insK
  rw[List.map_append,List.map_cons]
  refine List.perm_middle.trans (List.Perm.cons _ ?_)
  rw[← List.map_append,List.take_append_drop]
 exact hp.nodup_iff.2 (List.nodup_cons.2 ⟨h1,h0⟩)
theorem Uni.drop(h:Uni L):Uni (dropF L w):=by
 have:List.Sublist (dropF L w) L:=List.filter_sublist
 exact(this.map Prod.fst).nodup h
theorem idxF_at2:∀(L:List (Nat×Nat)) (i:Nat),Uni L→(L.any fun c=>decide (c.1=w))=true→∃k,idxF w L i = .ofNat (i+k)∧L.eraseIdx k=dropF L w
 |[],_,_,h=>by simp at h
 |c::r,i,hu,h=>by
  have hu1:(c.1::r.map Prod.fst).Nodup:=hu
  obtain⟨u1,u2⟩:=List.nodup_cons.1 hu1
  by_cases hc:c.1=w
  ·refine⟨0,if_pos hc,?_⟩
   show r=dropF (c::r) w
   unfold dropF
   rw[List.filter_cons_of_neg (by simp[hc])]
   symm
   refine List.filter_eq_self.2 fun d hd=>decide_eq_true fun e=>u1 ?_
   rw[hc,← e]
   exact List.mem_map.2 ⟨d,hd,rfl⟩
  ·rw[List.any_cons,decide_eq_false hc,Bool.false_or] at h
   obtain⟨k,h1,h2⟩:=idxF_at2 r (i+1) u2 h
   refine⟨k+1,?_,?_⟩
   ·show(if c.1=w then _ else _)=_
    rw[if_neg hc,h1,show i+1+k=i+(k+1) by omega]
   ·show c::r.eraseIdx k=dropF (c::r) w
    unfold dropF at h2 ⊢
    rw[List.filter_cons_of_pos (by simp[hc]),h2]
theorem delK_drop(hu:Uni L)(h:(L.any fun c=>decide (c.1=w))=true):delK L w=dropF L w:=by
 obtain⟨k,h1,h2⟩:=idxF_at2 L 0 hu h
 unfold delK
 rw[h1,Nat.zero_add]
 exact h2
theorem insK_ok(hc:∀c,c∈L→c.1≠0∧c.1<18446744073709551616∧c.2<18446744073709551616)(h0:w≠0)(hw:w<18446744073709551616)(hz:z<18446744073709551616):∀c,c∈insK L w z→c.1≠0∧c.1<18446744073709551616∧c.2<18446744073709551616:=fun c h=>by
 rcases insK_mem h with rfl|h
 ·exact⟨h0,hw,hz⟩
 ·exact hc c h
theorem add_read(h:chkN (pgL P off (s / 16) 0) (s / 16) w z=0)(hw:w<18446744073709551616)(hz:z<18446744073709551616):pgL (addP P off s w z) off (s / 16) 0=insK (pgL P off (s / 16) 0) w z:=by
 obtain⟨h1,_,_,h4⟩:=chk_zero h
 unfold addP
 exact lay_read (by rw[insK_len];omega) (insK_ok (fun c hc=>pgL_mem hc) h1 hw hz)
theorem drop_read(hu:Uni (pgL P off (s / 16) 0))(h:((pgL P off (s / 16) 0).any fun c=>decide (c.1=w))=true):pgL (dropP P off s w) off (s / 16) 0=dropF (pgL P off (s / 16) 0) w:=by
 unfold dropP
 rw[delK_drop hu h]
 exact lay_read (Nat.le_trans (List.length_filter_le ..) (pgL_len _ _)) fun c hc=>pgL_mem ((List.mem_filter.1 hc).1)
theorem add_out(h:chkN (pgL P off (s / 16) 0) (s / 16) w z=0)(hw:w<18446744073709551616)(hz:z<18446744073709551616)(hd:o+k≤off∨off+s / 16*16≤o):pgW (addP P off s w z) o k=pgW P o k:=by
 obtain⟨h1,_,_,h4⟩:=chk_zero h
 unfold addP
 exact lay_out (by rw[insK_len];omega) (insK_ok (fun c hc=>pgL_mem hc) h1 hw hz) hd
theorem drop_out(hu:Uni (pgL P off (s / 16) 0))(h:((pgL P off (s / 16) 0).any fun c=>decide (c.1=w))=true)(hd:o+k≤off∨off+s / 16*16≤o):pgW (dropP P off s w) o k=pgW P o k:=by
 unfold dropP
 rw[delK_drop hu h]
 exact lay_out (Nat.le_trans (List.length_filter_le ..) (pgL_len _ _)) (fun c hc=>pgL_mem ((List.mem_filter.1 hc).1)) hd
end Go.AI
