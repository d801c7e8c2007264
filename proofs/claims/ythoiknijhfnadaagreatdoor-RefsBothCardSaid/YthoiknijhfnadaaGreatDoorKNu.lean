/- Is a link in a row; sums of links. -/
import Derived.Test.YthoiknijhfnadaaGreatDoorKNt
set_option maxRecDepth 8000
namespace Go.AI
open Go.Proofs
variable {x:Ar}{tbl t' t'':List (Nat×AObj Ar)}{nx n' n'' j a s i k w z f g ty lo lo2 b P R off m p:Nat}{L M:List (Nat×Nat)}{q:List Ti}
theorem pv_eqA{env:List (Nat×Value)}{x y:Opd}{c d:Nat×Nat}(hx:evo env x=some (.agg ⟨[.int .u64 (.ofNat c.1),.int .u64 (.ofNat c.2)]⟩))(hy:evo env y=some (.agg ⟨[.int .u64 (.ofNat d.1),.int .u64 (.ofNat d.2)]⟩)):peval env (.bin .eql (.agg [.int,.int]) x y)=some (.bool (decide (c=d))):=by
 obtain⟨c1,c2⟩:=c
 obtain⟨d1,d2⟩:=d
 have h1:ieqF (Int.ofNat c1) (Int.ofNat d1)=decide (c1=d1):=by
  rw[ieqF_eq,show(Int.ofNat c1 == Int.ofNat d1)=decide (Int.ofNat c1=Int.ofNat d1) from rfl]
  exact decide_eq_decide.2 ⟨Int.ofNat.inj,fun e=>by rw[e]⟩
 have h2:ieqF (Int.ofNat c2) (Int.ofNat d2)=decide (c2=d2):=by
  rw[ieqF_eq,show(Int.ofNat c2 == Int.ofNat d2)=decide (Int.ofNat c2=Int.ofNat d2) from rfl]
  exact decide_eq_decide.2 ⟨Int.ofNat.inj,fun e=>by rw[e]⟩
 simp only[peval,hx,hy,binVal,eqVal,cellsEq,cellEq,if_true,h1,h2]
 by_cases e1:c1=d1
 ·by_cases e2:c2=d2
  ·simp[e1,e2]
  ·simp[e1,e2]
 ·simp[e1]
theorem pv_subU{env:List (Nat×Value)}{e:EqK}{x y:Opd}{a b:Nat}(hx:evo env x=some (.int .u64 (Int.ofNat a)))(hy:evo env y=some (.int .u64 (Int.ofNat b)))(hb:b≤a)(ha:a<18446744073709551616):peval env (.bin .sub e x y)=some (.int .u64 (Int.ofNat (a-b))):=by
 have h:wrapF .u64 (Int.ofNat a-Int.ofNat b)=Int.ofNat (a-b):=by
  rw[wrapF_eq,wrap_u64]
  simp only[zO]
  omega
 simp only[peval,hx,hy,binVal,intBin,if_true,h]
theorem pv_idxU{env:List (Nat×Value)}{x y:Opd}{e b n c i:Nat}(hx:evo env x=some (.slice (some ⟨b,0,none⟩) n c))(hy:evo env y=some (.int .u64 (.ofNat i)))(h:i<n):peval env (.idxL e x y)=some (.pointer (some ⟨b,0+i*e,none⟩)):=by
 have h1:Nat.blt i n=true:=by rw[Nat.blt_eq];exact h
 have h2:natOf (.int .u64 (.ofNat i))=some i:=rfl
 simp only[peval,hx,hy,h2,h1,cond_true]
structure CHk(hk:List (HookF Ar)):Prop where
 con:hookL hk 30=none
 idx:hookL hk 54=none
theorem index_run{hk:List (HookF Ar)}(hh:CHk hk){n:Nat}{v:Value}{c:Nat×Nat}(hn:101≤n)(hL:L.length≤100)(hR:RowT 67 lo tbl nx v L) :
  ∃u h',RW hk (n+1) 54 [v,vLk c.1 c.2] ⟨tbl,nx⟩=some (u,h')∧((∃y,u = .int .i64 y∧(c∈L→0≤y))∧Kq tbl nx h'.tbl h'.next):=by
 obtain⟨ad,rfl,hrow⟩:=hR.get
 refine run_fn hh.idx fQIndex (zL rfl) ?_
 dsimp only[iQIndex,argsE]
 refine WC.seq (WC.ops (WO.box (v:=vLk c.1 c.2) (cs:=[.int .u64 (.ofNat c.1),.int .u64 (.ofNat c.2)]) rfl rfl (WO.mv rfl (WO.nil (zN ?_)))))
 have K0:Kq tbl nx ((nx,AObj.cells [.int .u64 (.ofNat c.1),.int .u64 (.ofNat c.2)])::tbl) (nx+1):=Kq.refl.cons (Nat.le_refl _) (Nat.le_succ _)
 have c0:look nx ((nx,AObj.cells [.int .u64 (.ofNat c.1),.int .u64 (.ofNat c.2)])::tbl)=some (.cells [.int .u64 (.ofNat c.1),.int .u64 (.ofNat c.2)]):=by rw[zC,if_pos rfl]
 generalize((nx,AObj.cells [.int .u64 (.ofNat c.1),.int .u64 (.ofNat c.2)])::tbl)=T0 at K0 c0 ⊢
 refine WC.seq (WC.seq (WC.ops (WO.mv rfl (WO.len rfl (WO.mv rfl (WO.nil (zN (WC.block ?_))))))))
 refine WC.loop (fun y e tb nb=>∃i,i+y=L.length∧e 0=some (.slice ad L.length L.length)∧e 3=some (.pointer (some ⟨nx,0,none⟩))∧e 7=some (vI L.length)∧e 8=some (vI i)∧(∀d,d∈L.take i→d≠c)∧Kq T0 (nx+1) tb nb) (k:=L.length) (by omega)
  ⟨0,by omega,rfl,rfl,rfl,rfl,(by simp),Kq.refl⟩ ?_
 rintro y e tb nb ⟨i,hiy,e0,e3,e7,e8,hno,K⟩
 dsimp only at e0 e3 e7 e8
 have g1:nx+1≤nb:=K.1
 have cb:=(K.2 nx (Nat.lt_succ_self _)).trans c0
 refine WC.seq (WC.ops (WO.lssS e8 e7 (fun hz=>?_) (fun hz=>?_)))
 ·have hi:i<L.length:=by simp only[zO] at hz;omega
  obtain⟨d,hd⟩:∃d,L[i]? = some d:=⟨L[i],List.getElem?_eq_getElem hi⟩
  obtain⟨r,hr1,hr2,rfl,hr4⟩:=hrow (fun e=>by rw[e] at hi;simp at hi)
  have hrb:=(K.2 r (by omega)).trans ((K0.2 r hr2).trans hr4)
  have hts:L.take (i+1)=L.take i++[d]:=by rw[List.take_add_one,hd];rfl
  refine WO.nil (zN (WC.seq (WC.cond_true rfl (WC.skip (zN (WC.seq (WC.block (WC.seq (WC.ops (WO.mv (by exact e8) (WO.mv rfl (WO.nil (zN (WC.seq (WC.drawnW ?_)))))))))))))))
  have x0:∀m,(⟨[],tb,m⟩:Mem Ar).load ⟨nx,0,none⟩ 2=some [.int .u64 (.ofNat c.1),.int .u64 (.ofNat c.2)]:=fun m=>mem_load cb rfl rfl
  have x1:∀m,(⟨[],tb,m⟩:Mem Ar).load ⟨r,0+i*2,none⟩ 2=some [.int .u64 (.ofNat d.1),.int .u64 (.ofNat d.2)]:=fun m=>mem_load hrb rfl (by rw[Nat.zero_add];exact lkC_get hd)
  have cc:∀y y2:Nat,ceqs [Value.int .u64 (.ofNat y),Value.int .u64 (.ofNat y2)] [Value.int .u64 (.ofNat y),Value.int .u64 (.ofNat y2)]=true:=fun y y2=>by simp[ceqs,ceq,ieqF_refl]
  refine WD.load (m:=⟨[],tb,nb+6⟩) (ms:=[]) (v:=vLk c.1 c.2) (evOut (by exact e3) rfl rfl) (x0 _) rfl (WD.pure (v:=.slice (some ⟨r,0,none⟩) L.length L.length) (evOut (by exact e0) rfl rfl) (WD.pure (v:=vI i) (evOut rfl rfl rfl) (WD.pure (pv_idxW rfl rfl hi) ?_)))
  refine WD.load (m:=⟨[],tb,nb+6⟩) (ms:=[]) (v:=vLk d.1 d.2) rfl (x1 _) rfl (WD.pure (pv_eqA (c:=c) (d:=d) rfl rfl) (WD.nil ⟨?_,_,_,rfl,?_⟩))
  ·simp only[heldAll,loadsIn,x0,x1,cc]
   rfl
  refine zN ?_
  have U0:Kq tb nb tb (nb+6):=Kq.refl.up (Nat.le_add_right _ _)
  by_cases hcd:c=d
  ·rw[decide_eq_true hcd]
   refine WC.cond_true (m:=⟨[],tb,nb+6⟩) rfl (WC.seq (WC.ops (WO.mv rfl (WO.mv rfl (WO.nil (zN (WC.ret ?_)))))))
   exact⟨_,_,rfl,rfl,⟨_,rfl,fun _=>Int.natCast_nonneg i⟩,K0.trans (K.trans U0)⟩
  ·rw[decide_eq_false hcd]
   refine WC.cond_false (m:=⟨[],tb,nb+6⟩) rfl (WC.skip (zB (zN (WC.ops (WO.add (by exact e8) rfl (by simp only[zO];omega) (by simp only[zO];omega) (WO.mv rfl (WO.nil ?_)))))))
   refine⟨y-1,by omega,rfl,i+1,by omega,by exact e0,by exact e3,by exact e7,rfl,fun d' hd'=>?_,K.trans U0⟩
   rw[hts] at hd'
   rcases List.mem_append.1 hd' with h|h
   ·exact hno d' h
   ·rw[List.mem_singleton] at h;rw[h];exact fun e=>hcd e.symm
 ·have hi:i=L.length:=by simp only[zO] at hz;omega
  rw[hi,List.take_length] at hno
  refine WO.nil (zN (WC.seq (WC.cond_false rfl (WC.exit (thenC_exit (blockC_exit ?_))))))
  refine zN (WC.seq (WC.ops (WO.mv (m:=⟨[],tb,nb⟩) rfl (WO.nil (zN (WC.ret ?_))))))
  exact⟨_,_,rfl,rfl,⟨_,rfl,fun h=>absurd rfl (hno c h)⟩,K0.trans K⟩
theorem contains_run{hk:List (HookF Ar)}(hh:CHk hk){n:Nat}{v:Value}{c:Nat×Nat}(hn:101≤n)(hL:L.length≤100)(hR:RowT 67 lo tbl nx v L)(hc:c∈L) :
  ∃u h',RW hk (n+2) 30 [v,vLk c.1 c.2] ⟨tbl,nx⟩=some (u,h')∧(u = .bool true∧Kq tbl nx h'.tbl h'.next):=by
 refine run_fn hh.con fQContains (zL rfl) ?_
 dsimp only[iQContains,argsE]
 refine WC.seq (WC.ops (WO.box (v:=vLk c.1 c.2) (cs:=[.int .u64 (.ofNat c.1),.int .u64 (.ofNat c.2)]) rfl rfl (WO.mv rfl (WO.nil (zN ?_)))))
 have K0:Kq tbl nx ((nx,AObj.cells [.int .u64 (.ofNat c.1),.int .u64 (.ofNat c.2)])::tbl) (nx+1):=Kq.refl.cons (Nat.le_refl _) (Nat.le_succ _)
 refine WC.seq (WC.ops (WO.mv rfl (WO.load (ob:=.cells [.int .u64 (.ofNat c.1),.int .u64 (.ofNat c.2)]) (v:=vLk c.1 c.2) rfl (by rw[zC,if_pos rfl]) rfl rfl rfl ?_)))
 refine WO.fcall_ex (vs:=[v,vLk c.1 c.2]) rfl rfl (index_run (n:=n) hh hn hL (hR.kq K0)) ?_
 rintro u ⟨t1,n1⟩ ⟨⟨y,rfl,hy⟩,k1⟩
 refine WO.geqS rfl rfl (fun h=>?_) (fun h=>absurd (hy hc) h)
 exact WO.mv rfl (WO.nil (zN (WC.ret ⟨_,_,rfl,rfl,rfl,K0.trans k1⟩)))
def sTq(q:List Ti):Nat→Nat
 |0=>0
 |p+1=>sTq q p+(Tg q (p+1)).length
def sH(q:List Ti):Nat→Nat
 |0=>0
 |p+1=>sH q p+(Hd q (p+1)).length
theorem tl_cons{c:Ti}{r:List Ti}{f:Nat}:(tl (c::r) f).length=(if c.1=f then 1 else 0)+(tl r f).length:=by
 unfold tl
 by_cases h:c.1=f
 ·rw[List.filter_cons_of_pos (by simp[h]),if_pos h,List.map_cons,List.length_cons];omega
 ·rw[List.filter_cons_of_neg (by simp[h]),if_neg h];omega
theorem sT_cons{c:Ti}{r:List Ti}:∀{p:Nat},1≤c.1→sTq (c::r) p=(if c.1≤p then 1 else 0)+sTq r p
 |0,h=>by
  rw[if_neg (by omega)];rfl
 |p+1,h=>by
  show sTq (c::r) p+(Tg (c::r) (p+1)).length=_+(sTq r p+(Tg r (p+1)).length)
  rw[sT_cons h,Tg_len,Tg_len,tl_cons]
  by_cases h1:c.1≤p
  ·rw[if_pos h1,if_neg (by omega),if_pos (by omega)];omega
  ·by_cases h2:c.1=p+1
   ·rw[if_neg h1,if_pos h2,if_pos (by omega)];omega
   ·rw[if_neg h1,if_neg h2,if_neg (by omega)];omega
theorem sT_all:∀{q:List Ti},(∀c,c∈q→1≤c.1∧c.1≤k)→sTq q k=q.length
 |[],_=>by
  have:∀p,sTq [] p=0:=fun p=>by
   induction p with
   |zero=>rfl
   |succ p ih=>show sTq [] p+0=0;rw[ih]
  rw[this];rfl
 |c::r,h=>by
  obtain⟨h1,h2⟩:=h c (List.mem_cons_self ..)
  rw[sT_cons h1,if_pos h2,sT_all fun d hd=>h d (List.mem_cons_of_mem _ hd),List.length_cons]
  omega
theorem sH_sw:∀{p:Nat},sH q p=sTq (q.map sw) p
 |0=>rfl
 |p+1=>by
  show sH q p+_=sTq (q.map sw) p+_
  rw[sH_sw];rfl
theorem TiOk.sums(h:TiOk q k):sTq q k=sH q k:=by
 rw[sH_sw,sT_all fun c hc=>(h.ok c hc).2.1,sT_all fun c hc=>(h.sw.ok c hc).2.1,List.length_map]
theorem sT_le(h:Kn x k q):∀{p:Nat},p≤k→sTq q p≤8*p
 |0,_=>Nat.le_refl _
 |p+1,hp=>by
  have:=sT_le h (p:=p) (by omega)
  have:=h.tlen (i:=p) (by omega)
  show sTq q p+_≤_
  omega
theorem sH_le(h:Kn x k q):∀{p:Nat},p≤k→sH q p≤8*p
 |0,_=>Nat.le_refl _
 |p+1,hp=>by
  have:=sH_le h (p:=p) (by omega)
  have:=h.hlen (i:=p) (by omega)
  show sH q p+_≤_
  omega
end Go.AI
/- The law of ties between nodes: who is held has a holder. -/
namespace Go.AI
open Go.Proofs
variable {x:Ar}{tbl t' t'':List (Nat×AObj Ar)}{nx n' n'' j a s i k w z f g ty lo lo2 b P R off m ka:Nat}{L M:List (Nat×Nat)}{q:List Ti}{l:List ActK}
theorem pv_lssI{env:List (Nat×Value)}{x y:Opd}{a b:Int}{j:IntKind}(hx:evo env x=some (.int j a))(hy:evo env y=some (.int j b)):peval env (.bin .lss .no x y)=some (.bool (decide (a<b))):=by
 have e:intBin .lss j a j b=some (.bool (iltF a b)):=by
  unfold intBin
  simp
 simp only[peval,hx,hy,binVal]
 rw[e,iltF_eq]
theorem pv_gtrI{env:List (Nat×Value)}{x y:Opd}{a b:Int}{j:IntKind}(hx:evo env x=some (.int j a))(hy:evo env y=some (.int j b)):peval env (.bin .gtr .no x y)=some (.bool (decide (b<a))):=by
 have e:intBin .gtr j a j b=some (.bool (iltF b a)):=by
  unfold intBin
  simp
 simp only[peval,hx,hy,binVal]
 rw[e,iltF_eq]
theorem hRT_c:CHk hRT:=⟨rfl,rfl⟩
abbrev ndZ12:List Value:=[.pointer none,.pointer none,.int .i64 (.ofNat 0),.int .i64 (.ofNat 0),.int .u64 (.ofNat 0),.pointer none,.int .i64 (.ofNat 0),.int .i64 (.ofNat 0),.int .i64 (.ofNat 0),.pointer none,.int .i64 (.ofNat 0),.int .i64 (.ofNat 0)]
set_option maxHeartbeats 1600000 in
theorem bothL_run{N:Nat}{l:List ActK}(_hN:N<256)(hu:∀a,a∈l→a.2.1<256∧a.2.2.1<256∧a.2.2.2<18446744073709551616)(hll:l.length≤9223372036854775807){ad:Option Addr}{cp:Nat}(had:l.length≠0→ad=some ⟨0,off,some 1⟩)(hO:NodesOk (1+N % 12) off (actsK l)) :
  ∃v h',RW hRT 2014 5 [.int .u8 (.ofNat N),.slice ad l.length cp] ⟨[(0,.ro off (actsK l))],1⟩=some (v,h')∧v = .bool true:=by
 have hh:=hRT_w
 have hcn:=hRT_c
 obtain⟨x0,ka,tb0,nb0,hrun,l0,l2,lka,hk1,hk2,hchk⟩:=hO
 generalize hk:1+N % 12=k at hrun lka hchk
 have hk12:k≤12:=by omega
 have hk0:0<k:=by omega
 refine run_fn rfl fLBoth (zL rfl) ?_
 dsimp only[iLBoth,argsE]
 refine WC.seq (WC.ops (WO.mv rfl (WO.nil (zN (WC.seq (WC.seq (WC.ops ?_)))))))
 refine WO.fcall (vs:=[]) (v:=.bool true) (h:=⟨[(0,.ro off (actsK l))],1⟩) rfl rfl ((run_hook (n:=2012) (g:=constH (.bool true)) rfl).trans rfl) ?_
 refine WO.pure (v:=.bool false) rfl (WO.nil (zN (WC.cond_false rfl (WC.skip (zN (WC.seq (WC.seq (WC.ops (WO.mv rfl (WO.len rfl ?_))))))))))
 refine WO.gtrS rfl rfl (fun _=>?_) (fun hle=>?_)
 ·refine WO.nil (zN (WC.cond_true rfl (WC.seq (WC.ops (WO.mv rfl (WO.nil (zN (WC.ret (thenC_ret ⟨_,_,rfl,rfl,rfl⟩)))))))))
 have hl80:l.length≤80:=by simp only[zO] at hle;omega
 refine WO.nil (zN (WC.cond_false rfl (WC.skip (zN (WC.seq (WC.ops ?_))))))
 refine WO.mv rfl (WO.pure (pv_remU8 (b:=11) rfl rfl) (WO.pure (pv_conv8 rfl (by omega)) (WO.add rfl rfl (by simp only[zO];omega) (by simp only[zO];omega) ?_)))
 have hadd:Int.ofNat 1+Int.ofNat (N % (11+1))=Int.ofNat k:=by rw[← hk];rfl
 rw[hadd]
 refine WO.fcall (vs:=[vI k]) (v:=.tuple ⟨[.slice (some ⟨ka,0,none⟩) k k,.bool true]⟩) (h:=⟨tb0,nb0⟩) rfl rfl ((run_hook (n:=2012) (g:=runNodes) rfl).trans hrun) ?_
 refine WO.mv rfl (WO.pure (v:=.slice (some ⟨ka,0,none⟩) k k) rfl (WO.pure (v:=.bool true) rfl (WO.mv rfl (WO.mv rfl (WO.nil (zN ?_))))))
 refine WC.seq (WC.seq (WC.ops (WO.mv rfl (WO.pure (v:=.bool false) rfl (WO.nil (zN (WC.cond_false rfl (WC.skip (zN ?_)))))))))
 have F0:TSt off l ka k nb0 x0 [] tb0 nb0:=⟨l0,l2,lka,kn_new hchk,hk1,hk2,Nat.le_refl _⟩
 refine WC.seq (WC.seq (WC.ops (WO.mv rfl (WO.len rfl (WO.mv rfl (WO.nil (zN (WC.block ?_))))))))
 refine WC.loop (fun y e tb nb=>∃i x q,i+y=l.length∧e 5=some (.slice (some ⟨ka,0,none⟩) k k)∧e 32=some (.slice ad l.length cp)∧e 33=some (vI l.length)∧e 34=some (vI i)∧TSt off l ka k nb0 x q tb nb) (k:=l.length) (by omega)
  ⟨0,x0,[],by omega,rfl,rfl,rfl,rfl,F0⟩ ?_
 rintro y e tb nb ⟨i,x,q,hiy,e5,e32,e33,e34,F⟩
 dsimp only at e5 e32 e33 e34
 have gb:=F.h3
 have gc:=F.h2
 have gd:=F.h1
 refine WC.seq (WC.ops (WO.lssS e34 e33 (fun hz=>?_) (fun hz=>?_)))
 ·have hi:i<l.length:=by simp only[zO] at hz;omega
  obtain⟨⟨out,cf,ct,z⟩,ha⟩:∃c,l[i]? = some c:=⟨l[i],List.getElem?_eq_getElem hi⟩
  obtain⟨hcf,hct,hz⟩:=hu _ (List.mem_of_getElem? ha)
  dsimp only at hcf hct hz
  have had':=had (by omega)
  subst had'
  refine WO.nil (zN (WC.seq (WC.cond_true rfl (WC.skip (zN (WC.seq (WC.block (WC.seq (WC.ops ?_)))))))))
  refine WO.idxL (b:=0) (o:=off) (len:=l.length) (c:=cp) (sp:=some 1) (j:=.i64) (z:=Int.ofNat i) (n:=i) e32 e34 rfl hi ?_
  refine WO.step (i:=.load 37 4 true (.t 36)) (v:=.agg ⟨actK (out,cf,ct,z)⟩) (m':=⟨[],tb,nb⟩) (estep_ldK rfl (winK_load F.l0 ha) rfl) (WO.nst4 rfl (WO.nil (zN ?_)))
  have FA:TSt off l ka k nb0 x q ((nb,AObj.cells [.bool out,.int .u8 (.ofNat cf),.int .u8 (.ofNat ct),.int .u64 (.ofNat z)])::tb) (nb+1):=F.kq (Kq.refl.cons (Nat.le_refl _) (Nat.le_succ _))
  have ca:look nb ((nb,AObj.cells [.bool out,.int .u8 (.ofNat cf),.int .u8 (.ofNat ct),.int .u64 (.ofNat z)])::tb)=some (.cells [.bool out,.int .u8 (.ofNat cf),.int .u8 (.ofNat ct),.int .u64 (.ofNat z)]):=by rw[zC,if_pos rfl]
  generalize((nb,AObj.cells [.bool out,.int .u8 (.ofNat cf),.int .u8 (.ofNat ct),.int .u64 (.ofNat z)])::tb)=TA at FA ca ⊢
  generalize hci:cf % k=ci
  generalize hcj:ct % k=cj
  have hi12:ci<k:=by rw[← hci];exact Nat.mod_lt _ hk0
  have hj12:cj<k:=by rw[← hcj];exact Nat.mod_lt _ hk0
  have pci:∀{env:List (Nat×Value)} {x y:Opd} {e:EqK},evo env x=some (vI cf)→evo env y=some (vI k)→peval env (.bin .rem e x y)=some (vI ci):=fun h1 h2=>(pv_remN h1 h2 hk0).trans (by rw[hci])
  have pcj:∀{env:List (Nat×Value)} {x y:Opd} {e:EqK},evo env x=some (vI ct)→evo env y=some (vI k)→peval env (.bin .rem e x y)=some (vI cj):=fun h1 h2=>(pv_remN h1 h2 hk0).trans (by rw[hcj])
  have ld1:∀m,(⟨[],TA,m⟩:Mem Ar).load ⟨nb,0+1,none⟩ 1=some [.int .u8 (.ofNat cf)]:=fun m=>mem_load ca rfl rfl
  have ld2:∀m,(⟨[],TA,m⟩:Mem Ar).load ⟨nb,0+2,none⟩ 1=some [.int .u8 (.ofNat ct)]:=fun m=>mem_load ca rfl rfl
  have c8:∀y:Nat,ceqs [Value.int .u8 (.ofNat y)] [Value.int .u8 (.ofNat y)]=true:=fun y=>by simp[ceqs,ceq,ieqF_refl]
  refine WC.seq (WC.drawnW ?_)
  have U0:Kq TA (nb+1) TA (nb+1+22):=Kq.refl.up (Nat.le_add_right _ _)
  have FB:=FA.kq U0
  have r1:look (nb+1+18) ((nb+1+18,AObj.cells ndZ12)::(nb+1+19,.cells ndZ12)::TA)=some (.cells ndZ12):=by rw[zC,if_pos rfl]
  have r2:look (nb+1+19) ((nb+1+18,AObj.cells ndZ12)::(nb+1+19,.cells ndZ12)::TA)=some (.cells ndZ12):=by rw[lookN (by omega),zC,if_pos rfl]
  have s1:(⟨[],(nb+1+18,AObj.cells ndZ12)::(nb+1+19,.cells ndZ12)::TA,nb+1+22⟩:Mem Ar).store ⟨nb+1+18,0,none⟩ (ndN ci)=some ⟨[],upd (nb+1+18) (.cells (ndN ci)) ((nb+1+18,AObj.cells ndZ12)::(nb+1+19,.cells ndZ12)::TA),nb+1+22⟩:=mem_store r1 rfl (zL rfl) rfl
  have s2:(⟨[],upd (nb+1+18) (.cells (ndN ci)) ((nb+1+18,AObj.cells ndZ12)::(nb+1+19,.cells ndZ12)::TA),nb+1+22⟩:Mem Ar).store ⟨nb+1+19,0,none⟩ (ndN cj)=some ⟨[],upd (nb+1+19) (.cells (ndN cj)) (upd (nb+1+18) (.cells (ndN ci)) ((nb+1+18,AObj.cells ndZ12)::(nb+1+19,.cells ndZ12)::TA)),nb+1+22⟩:=mem_store ((zU (by omega)).trans r2) rfl (zL rfl) rfl
  have q1:Kq TA (nb+1) (upd (nb+1+18) (.cells (ndN ci)) ((nb+1+18,AObj.cells ndZ12)::(nb+1+19,.cells ndZ12)::TA)) (nb+1+22):=⟨Nat.le_add_right _ _,fun p hp=>(zU (by omega)).trans ((lookN (by omega)).trans (lookN (by omega)))⟩
  have q2:Kq TA (nb+1) (upd (nb+1+19) (.cells (ndN cj)) (upd (nb+1+18) (.cells (ndN ci)) ((nb+1+18,AObj.cells ndZ12)::(nb+1+19,.cells ndZ12)::TA))) (nb+1+22):=⟨Nat.le_add_right _ _,fun p hp=>(zU (by omega)).trans (q1.2 p hp)⟩
  have w1:=(zU (i:=nb+1+19) (j:=nb+1+18) (o':=AObj.cells (ndN cj)) (by omega)).trans (zS (o':=AObj.cells (ndN ci)) r1)
  have w2:=zS (o':=AObj.cells (ndN cj)) ((zU (i:=nb+1+18) (j:=nb+1+19) (o':=AObj.cells (ndN ci)) (by omega)).trans r2)
  have ld2':(⟨[],upd (nb+1+18) (.cells (ndN ci)) ((nb+1+18,AObj.cells ndZ12)::(nb+1+19,.cells ndZ12)::TA),nb+1+22⟩:Mem Ar).load ⟨nb,0+2,none⟩ 1=some [.int .u8 (.ofNat ct)]:=mem_load ((q1.2 nb (Nat.lt_succ_self _)).trans ca) rfl rfl
  have ndj':=(FA.kq q1).nd hj12
  refine WD.pure (v:=.slice (some ⟨ka,0,none⟩) k k) (evOut (by exact e5) rfl rfl) (WD.pure (v:=.pointer (some ⟨nb,0+1,none⟩)) (pv_faddP (evOut rfl rfl rfl)) (WD.load (m:=⟨[],TA,nb+1+22⟩) (ms:=[]) (v:=.int .u8 (.ofNat cf)) rfl (ld1 _) rfl (WD.pure (pv_conv8 rfl hcf) ?_)))
  refine WD.pure (v:=.slice (some ⟨ka,0,none⟩) k k) (evOut (by exact e5) rfl rfl) (WD.pure (v:=vI k) rfl (WD.pure (pci rfl rfl) (WD.pure (pv_idxW rfl rfl hi12) ?_)))
  refine WD.load (m:=⟨[],TA,nb+1+22⟩) (ms:=[]) (v:=vN ci) rfl (FB.nd hi12) rfl ?_
  refine WD.pure (v:=.slice (some ⟨ka,0,none⟩) k k) (evOut (by exact e5) rfl rfl) (WD.pure (v:=.pointer (some ⟨nb,0+2,none⟩)) (pv_faddP (evOut rfl rfl rfl)) (WD.load (m:=⟨[],TA,nb+1+22⟩) (ms:=[]) (v:=.int .u8 (.ofNat ct)) rfl (ld2 _) rfl (WD.pure (pv_conv8 rfl hct) ?_)))
  refine WD.pure (v:=.slice (some ⟨ka,0,none⟩) k k) (evOut (by exact e5) rfl rfl) (WD.pure (v:=vI k) rfl (WD.pure (pcj rfl rfl) (WD.pure (pv_idxW rfl rfl hj12) ?_)))
  refine WD.load (m:=⟨[],TA,nb+1+22⟩) (ms:=[]) (v:=vN cj) rfl (FB.nd hj12) rfl ?_
  refine WD.alloc rfl rfl (WD.alloc rfl rfl ?_)
  refine WD.chn (m:=⟨[],TA,nb+1+22⟩) (v:=undef) rfl rfl rfl (estep_store rfl rfl rfl rfl s1) ?_
  refine WD.chn (v:=undef) rfl rfl rfl (estep_store rfl rfl rfl rfl s2) (WD.nil ⟨?_,_,_,rfl,?_⟩)
  ·simp only[heldAll,loadsIn,ld1,ld2,ld2',FB.nd hi12,FB.nd hj12,ndj',c8,ceqs_nd]
   rfl
  have FC:=FA.kq q2
  have cc:=(q2.2 nb (Nat.lt_succ_self _)).trans ca
  refine zN (WC.seq (WC.ops ?_))
  generalize(upd (nb+1+19) (AObj.cells (ndN cj)) (upd (nb+1+18) (.cells (ndN ci)) ((nb+1+18,AObj.cells ndZ12)::(nb+1+19,.cells ndZ12)::TA)))=TC at FC cc w1 w2 ⊢
  refine WO.fadd (by exact rfl) (WO.load (ob:=.cells [.bool out,.int .u8 (.ofNat cf),.int .u8 (.ofNat ct),.int .u64 (.ofNat z)]) (v:=.bool out) rfl cc rfl rfl rfl (WO.nil (zN ?_)))
  cases out with
  |true =>
   refine WC.cond_true rfl (WC.ops (WO.load (ob:=.cells (ndN ci)) (v:=vN ci) rfl w1 rfl rfl rfl (WO.load (ob:=.cells (ndN cj)) (v:=vN cj) rfl w2 rfl rfl rfl ?_)))
   refine WO.fcall_ex (vs:=[vN ci,vN cj]) rfl rfl (untie_kn (nx:=nb+1+22) (n:=2006) hh (by decide) hk12 hi12 hj12 FC.l2 (by omega) FC.kn) ?_
   rintro u ⟨t1,n1⟩ ⟨x1,rfl,k1,m1,kn1⟩
   refine WO.nil (zB (zN (WC.ops (WO.add (by exact e34) rfl (by simp only[zO];omega) (by simp only[zO];omega) (WO.mv rfl (WO.nil ?_))))))
   exact⟨y-1,by omega,rfl,i+1,x1,_,by omega,by exact e5,by exact e32,by exact e33,rfl,FC.kx k1 m1 kn1⟩
  |false =>
   refine WC.cond_false rfl (WC.ops (WO.load (ob:=.cells (ndN ci)) (v:=vN ci) rfl w1 rfl rfl rfl (WO.load (ob:=.cells (ndN cj)) (v:=vN cj) rfl w2 rfl rfl rfl (WO.fadd rfl (WO.load (ob:=.cells [.bool false,.int .u8 (.ofNat cf),.int .u8 (.ofNat ct),.int .u64 (.ofNat z)]) (v:=.int .u64 (.ofNat z)) rfl cc rfl rfl rfl ?_)))))
   refine WO.fcall_ex (vs:=[vN ci,vN cj,.int .u64 (.ofNat z)]) rfl rfl (tie_kn (nx:=nb+1+22) (n:=2006) hh (by decide) hk12 hi12 hj12 hz FC.l2 (by omega) FC.kn) ?_
   rintro u ⟨t1,n1⟩ ⟨x1,rfl,k1,m1,kn1⟩
   refine WO.nil (zB (zN (WC.ops (WO.add (by exact e34) rfl (by simp only[zO];omega) (by simp only[zO];omega) (WO.mv rfl (WO.nil ?_))))))
   exact⟨y-1,by omega,rfl,i+1,x1,_,by omega,by exact e5,by exact e32,by exact e33,rfl,FC.kx k1 m1 kn1⟩
 ·refine WO.nil (zN (WC.seq (WC.cond_false rfl (WC.exit (thenC_exit (blockC_exit ?_))))))
  refine zN (WC.seq (WC.ops (WO.mv (m:=⟨[],tb,nb⟩) rfl (WO.mv rfl (WO.nil (zN ?_))))))
  refine WC.seq (WC.seq (WC.ops (WO.mv (by exact e5) (WO.len rfl (WO.mv rfl (WO.nil (zN (WC.block ?_))))))))
  refine WC.loop (fun y e tb nb=>∃p,p+y=k∧e 5=some (.slice (some ⟨ka,0,none⟩) k k)∧e 11=some (vI (sTq q p))∧e 12=some (vI (sH q p))∧e 67=some (.slice (some ⟨ka,0,none⟩) k k)∧e 68=some (vI k)∧e 69=some (vI p)∧TSt off l ka k nb0 x q tb nb) (k:=k) (by omega)
   ⟨0,by omega,by exact e5,rfl,rfl,rfl,rfl,rfl,F⟩ ?_
  clear e5 e32 e33 e34 F gb gc gd hz hiy
  rintro y2 e2 tc nc ⟨p,hpy,a5,a11,a12,a67,a68,a69,FC⟩
  dsimp only at a5 a11 a12 a67 a68 a69
  have g0:=FC.h3
  have g1:=FC.h2
  have g2:=FC.h1
  refine WC.seq (WC.ops (WO.lssS a69 a68 (fun hz=>?_) (fun hz=>?_)))
  ·have hp:p<k:=by simp only[zO] at hz;omega
   have l8:=FC.kn.tlen hp
   have h8:=FC.kn.hlen hp
   have hsT:=sT_le FC.kn (p:=p) (by omega)
   have hsH:=sH_le FC.kn (p:=p) (by omega)
   refine WO.nil (zN (WC.seq (WC.cond_true rfl (WC.skip (zN (WC.seq (WC.block (WC.seq (WC.ops ?_)))))))))
   refine WO.mv (by exact a69) (WO.pure (pv_idxW (by exact a67) (by exact a69) hp) (WO.step (i:=.load 73 12 true (.t 72)) (v:=vN p) (m':=⟨[],tc,nc⟩) (estep_ldK rfl (FC.nd hp) rfl) (WO.new (WO.mv rfl ?_))))
   refine WO.step (i:=.store 12 (.t 14) (.t 73)) (v:=undef) (m':=⟨[],(nc,.cells (ndN p))::tc,nc+1⟩) ?_ (WO.nil (zN ?_))
   ·have hm:=mem_store (nx:=nc+1) (vs:=ndN p) (o:=0) (ob':=.cells (ndN p)) (tbl:=(nc,AObj.cells ndZ12)::tc) (i:=nc) (by rw[zC,if_pos rfl]) rfl (zL rfl) rfl
    rw[updH] at hm
    exact estep_store rfl rfl rfl rfl hm
   have FD:=FC.kq (Kq.refl.cons (k:=nc) (m:=nc+1) (o:=.cells (ndN p)) (Nat.le_refl _) (Nat.le_succ _))
   have cc:look nc ((nc,AObj.cells (ndN p))::tc)=some (.cells (ndN p)):=by rw[zC,if_pos rfl]
   generalize((nc,AObj.cells (ndN p))::tc)=TC at FD cc ⊢
   refine WC.seq (WC.seq (WC.ops (WO.load (ob:=.cells (ndN p)) (v:=vN p) rfl cc rfl rfl rfl ?_)))
   refine WO.fcall_ex (vs:=[vN p]) rfl rfl (tgt_kn (nx:=nc+1) (n:=2009) hh.toTHk (by decide) hk12 hp FD.l2 (by omega) FD.kn) ?_
   rintro u1 ⟨d1,o1⟩ ⟨S1,j1⟩
   dsimp only at S1 j1
   have FE:=FD.kq j1
   have ce:=(j1.2 nc (Nat.lt_succ_self _)).trans cc
   have go1:nc+1≤o1:=j1.1
   have S1':=S1.toT
   obtain⟨ad1,rfl,hrow⟩:=S1'.get
   refine WO.len rfl (WO.mv rfl (WO.nil (zN (WC.block ?_))))
   refine WC.loop (fun y e tb nb=>∃s,s+y=(Tg q (p+1)).length∧e 5=some (.slice (some ⟨ka,0,none⟩) k k)∧e 11=some (vI (sTq q p+s))∧e 12=some (vI (sH q p))∧e 13=some (vI p)∧e 14=some (.pointer (some ⟨nc,0,none⟩))∧e 67=some (.slice (some ⟨ka,0,none⟩) k k)∧e 68=some (vI k)∧e 69=some (vI p)∧e 75=some (.slice ad1 (Tg q (p+1)).length (Tg q (p+1)).length)∧e 76=some (vI (Tg q (p+1)).length)∧e 77=some (vI s)∧Kq d1 o1 tb nb) (k:=(Tg q (p+1)).length) (by omega)
    ⟨0,by omega,by exact a5,by exact a11,by exact a12,rfl,rfl,by exact a67,by exact a68,by exact a69,rfl,rfl,rfl,Kq.refl⟩ ?_
   rintro y3 e3 td nd ⟨s,hsy,b5,b11,b12,b13,b14,b67,b68,b69,b75,b76,b77,Kd⟩
   dsimp only at b5 b11 b12 b13 b14 b67 b68 b69 b75 b76 b77
   have FF:=FE.kq Kd
   have cf:=(Kd.2 nc (by omega)).trans ce
   have gnd:o1≤nd:=Kd.1
   refine WC.seq (WC.ops (WO.lssS b77 b76 (fun hz=>?_) (fun hz=>?_)))
   ·have hs:s<(Tg q (p+1)).length:=by simp only[zO] at hz;omega
    obtain⟨c,hc⟩:∃c,(Tg q (p+1))[s]? = some c:=⟨(Tg q (p+1))[s],List.getElem?_eq_getElem hs⟩
    have hcm:c∈Tg q (p+1):=List.mem_of_getElem? hc
    have hcq:(p+1,c.1,c.2)∈q:=Tg_mem.1 hcm
    obtain⟨o1',o2',o3',o4'⟩:=FF.kn.ok.ok _ hcq
    dsimp only at o1' o2' o3' o4'
    have hcH:(p+1,c.2)∈Hd q (c.1-1+1):=by
     rw[Nat.sub_add_cancel o3'.1];exact Hd_mem.2 hcq
    obtain⟨r,hr1,hr2,rfl,hr4⟩:=hrow (fun e=>by rw[e] at hs;simp at hs)
    have hrb:=(Kd.2 r hr2).trans hr4
    refine WO.nil (zN (WC.seq (WC.cond_true rfl (WC.skip (zN (WC.seq (WC.block (WC.seq (WC.ops ?_)))))))))
    refine WO.idxL (b:=r) (o:=0) (len:=(Tg q (p+1)).length) (c:=(Tg q (p+1)).length) (sp:=none) (j:=.i64) (z:=Int.ofNat s) (n:=s) b75 b77 rfl hs ?_
    refine WO.load (ob:=.grown 2 67 (lkC (Tg q (p+1)))) (v:=vLk c.1 c.2) rfl hrb rfl (by rw[Nat.zero_add];exact lkC_get hc) rfl (WO.nst rfl (WO.nil (zN ?_)))
    have KA:Kq d1 o1 ((nd,AObj.cells [.int .u64 (.ofNat c.1),.int .u64 (.ofNat c.2)])::td) (nd+1):=Kd.cons Kd.1 (Nat.le_succ _)
    have ck:look nd ((nd,AObj.cells [.int .u64 (.ofNat c.1),.int .u64 (.ofNat c.2)])::td)=some (.cells [.int .u64 (.ofNat c.1),.int .u64 (.ofNat c.2)]):=by rw[zC,if_pos rfl]
    generalize((nd,AObj.cells [.int .u64 (.ofNat c.1),.int .u64 (.ofNat c.2)])::td)=TD at KA ck ⊢
    have FG:=FE.kq KA
    refine WC.seq (WC.seq (WC.drawnW ?_))
    have UD:Kq TD (nd+1) TD (nd+1+36):=Kq.refl.up (Nat.le_add_right _ _)
    have FH:=FG.kq UD
    have hc1:c.1-1<k:=by omega
    obtain⟨v1,⟨f1,m1⟩,z1,T1,i1⟩:=hld_kn (nx:=nd+1+36) (n:=2009) hh.toTHk (by decide) hk12 hc1 FH.l2 (by omega) FH.kn
    dsimp only at T1 i1
    have I1:=UD.trans i1
    obtain⟨v2,⟨f2,m2⟩,z2,rfl,i2⟩:=contains_run (n:=2011) (c:=(p+1,c.2)) hcn (by decide) (by have:=FH.kn.hlen hc1;omega) T1.toT hcH
    dsimp only at i2
    have xw:∀m,(⟨[],TD,m⟩:Mem Ar).load ⟨nd,0+0,none⟩ 1=some [.int .u64 (.ofNat c.1)]:=fun m=>mem_load ck rfl rfl
    have xz:∀m,(⟨[],TD,m⟩:Mem Ar).load ⟨nd,0+1,none⟩ 1=some [.int .u64 (.ofNat c.2)]:=fun m=>mem_load ck rfl rfl
    have xz1:(⟨[],f1,m1⟩:Mem Ar).load ⟨nd,0+1,none⟩ 1=some [.int .u64 (.ofNat c.2)]:=mem_load ((I1.2 nd (Nat.lt_succ_self _)).trans ck) rfl rfl
    have c64:∀y:Nat,ceqs [Value.int .u64 (.ofNat y)] [Value.int .u64 (.ofNat y)]=true:=fun y=>by simp[ceqs,ceq,ieqF_refl]
    have p1:decide (Int.ofNat c.1<Int.ofNat 1)=false:=decide_eq_false (by simp only[zO];omega)
    have p2:decide (Int.ofNat k<Int.ofNat c.1)=false:=decide_eq_false (by simp only[zO];omega)
    have p3:decide (Int.ofNat c.1=Int.ofNat (p+1))=false:=decide_eq_false (fun h=>by have:=Int.ofNat.inj h;omega)
    refine WD.pure (v:=.pointer (some ⟨nd,0+0,none⟩)) rfl (WD.load (m:=⟨[],TD,nd+1+36⟩) (ms:=[]) (v:=.int .u64 (.ofNat c.1)) rfl (xw _) rfl (WD.pure (v:=.bool false) ((pv_lssI rfl rfl).trans (by rw[p1])) (WD.pure (v:=.bool false) rfl ?_)))
    refine WD.take rfl (WD.pure (v:=.pointer (some ⟨nd,0+0,none⟩)) rfl (WD.take rfl (WD.load (m:=⟨[],TD,nd+1+36⟩) (ms:=[]) (v:=.int .u64 (.ofNat c.1)) rfl (xw _) rfl (WD.take rfl (WD.pure (v:=.slice (some ⟨ka,0,none⟩) k k) (evOut (by exact b5) rfl rfl) (WD.take rfl (WD.pure (v:=vI k) rfl (WD.take rfl (WD.pure (v:=.int .u64 (.ofNat k)) (pv_cvU64 rfl (by omega)) (WD.take rfl (WD.pure (v:=.bool false) ((pv_gtrI rfl rfl).trans (by rw[p2])) ?_)))))))))))
    refine WD.pure (v:=.bool false) rfl (WD.pure (v:=.bool false) rfl ?_)
    refine WD.take rfl (WD.pure (v:=.pointer (some ⟨nd,0+0,none⟩)) (pv_faddP (evOut rfl rfl rfl)) (WD.take rfl (WD.load (m:=⟨[],TD,nd+1+36⟩) (ms:=[]) (v:=.int .u64 (.ofNat c.1)) rfl (xw _) rfl (WD.take rfl (WD.pure (v:=vI p) (evOut (by exact b13) rfl rfl) (WD.take rfl (WD.pure (v:=vI (p+1)) (pv_addN rfl rfl (by omega)) (WD.take rfl (WD.pure (v:=.int .u64 (.ofNat (p+1))) (pv_cvU64 rfl (by omega)) (WD.take rfl (WD.pure (v:=.bool false) ((pv_eqI rfl rfl).trans (by rw[p3])) ?_)))))))))))
    refine WD.pure (v:=.bool false) rfl (WD.pure (v:=.bool false) rfl ?_)
    refine WD.take rfl (WD.pure (v:=.slice (some ⟨ka,0,none⟩) k k) (evOut (by exact b5) rfl rfl) (WD.take rfl (WD.pure (v:=.pointer (some ⟨nd,0+0,none⟩)) (pv_faddP (evOut rfl rfl rfl)) (WD.take rfl (WD.load (m:=⟨[],TD,nd+1+36⟩) (ms:=[]) (v:=.int .u64 (.ofNat c.1)) rfl (xw _) rfl (WD.take rfl (WD.pure (v:=.int .u64 (.ofNat (c.1-1))) (pv_subU rfl rfl (by omega) (by omega)) (WD.take rfl (WD.pure (pv_idxU rfl rfl hc1) (WD.take rfl (WD.load (m:=⟨[],TD,nd+1+36⟩) (ms:=[]) (v:=vN (c.1-1)) rfl (FH.nd hc1) rfl ?_)))))))))))
    refine WD.take rfl (WD.chn (m:=⟨[],TD,nd+1+36⟩) (m':=⟨[],f1,m1⟩) (v:=v1) rfl rfl rfl (estep_call (m:=⟨[],TD,nd+1+36⟩) (h:=⟨f1,m1⟩) (vs:=[vN (c.1-1)]) rfl rfl z1) ?_)
    refine WD.take rfl (WD.pure (v:=vI p) (evOut (by exact b13) rfl rfl) (WD.take rfl (WD.pure (v:=vI (p+1)) (pv_addN rfl rfl (by omega)) (WD.take rfl (WD.pure (v:=.int .u64 (.ofNat (p+1))) (pv_cvU64 rfl (by omega)) (WD.take rfl (WD.pure (v:=.pointer (some ⟨nd,0+1,none⟩)) (pv_faddP (evOut rfl rfl rfl)) (WD.take rfl (WD.load (m:=⟨[],f1,m1⟩) (v:=.int .u64 (.ofNat c.2)) rfl xz1 rfl (WD.take rfl (WD.pure (v:=vLk (p+1) c.2) rfl ?_)))))))))))
    refine WD.take rfl (WD.chn (m:=⟨[],f1,m1⟩) (m':=⟨[],f2,m2⟩) (v:=.bool true) rfl rfl rfl (estep_call (m:=⟨[],f1,m1⟩) (h:=⟨f2,m2⟩) (vs:=[v1,vLk (p+1) c.2]) rfl rfl z2) ?_)
    refine WD.take rfl (WD.pure (v:=.bool false) rfl (WD.pure (v:=.bool false) rfl (WD.nil ⟨?_,_,_,rfl,?_⟩)))
    ·simp only[heldAll,loadsIn,xw,xz,xz1,FH.nd hc1,c64,ceqs_nd]
     rfl
    have KB:=KA.trans (I1.trans i2)
    refine zN (WC.cond_false (m:=⟨[],f2,m2⟩) rfl (WC.skip (zN (WC.ops (WO.mv (by exact b11) (WO.add rfl rfl (by simp only[zO];omega) (by simp only[zO];omega) (WO.mv rfl (WO.nil ?_))))))))
    refine zB (zN (WC.ops (WO.add (by exact b77) rfl (by simp only[zO];omega) (by simp only[zO];omega) (WO.mv rfl (WO.nil ?_)))))
    exact⟨y3-1,by omega,rfl,s+1,by omega,by exact b5,rfl,by exact b12,by exact b13,by exact b14,by exact b67,by exact b68,by exact b69,by exact b75,by exact b76,rfl,KB⟩
   ·have hs:s=(Tg q (p+1)).length:=by simp only[zO] at hz;omega
    subst hs
    refine WO.nil (zN (WC.seq (WC.cond_false rfl (WC.exit (thenC_exit (blockC_exit ?_))))))
    refine zN (WC.seq (WC.ops (WO.mv (m:=⟨[],td,nd⟩) (by exact b12) (WO.load (ob:=.cells (ndN p)) (v:=vN p) (by exact b14) cf rfl rfl rfl ?_))))
    refine WO.fcall_ex (vs:=[vN p]) rfl rfl (hld_kn (nx:=nd) (n:=2009) hh.toTHk (by decide) hk12 hp FF.l2 (by omega) FF.kn) ?_
    rintro v1 ⟨f1,m1⟩ ⟨T1,i1⟩
    dsimp only at T1 i1
    obtain⟨ad2,rfl,_⟩:=T1.toT.get
    refine WO.len rfl (WO.add rfl rfl (by simp only[zO];omega) (by simp only[zO];omega) (WO.mv rfl (WO.nil (zN ?_))))
    have F1:=FF.kq i1
    have cf1:=(i1.2 nc (by omega)).trans cf
    have gm1:nd≤m1:=i1.1
    refine WC.seq (WC.ops (WO.load (ob:=.cells (ndN p)) (v:=vN p) (by exact b14) cf1 rfl rfl rfl ?_))
    refine WO.fcall_ex (vs:=[vN p]) rfl rfl (tgt_kn (nx:=m1) (n:=2009) hh.toTHk (by decide) hk12 hp F1.l2 (by omega) F1.kn) ?_
    rintro v2 ⟨f2,m2⟩ ⟨T2,i2⟩
    dsimp only at T2 i2
    obtain⟨ad3,rfl,_⟩:=T2.toT.get
    have F2:=F1.kq i2
    have cf2:=(i2.2 nc (by omega)).trans cf1
    have gm2:m1≤m2:=i2.1
    refine WO.len rfl (WO.gtrS rfl rfl (fun h=>absurd h (by simp only[zO];omega)) (fun _=>?_))
    refine WO.mv rfl (WO.take rfl rfl (WO.load (ob:=.cells (ndN p)) (v:=vN p) (by exact b14) cf2 rfl rfl rfl (WO.take rfl rfl ?_)))
    refine WO.fcall_ex (vs:=[vN p]) rfl rfl (hld_kn (nx:=m2) (n:=2009) hh.toTHk (by decide) hk12 hp F2.l2 (by omega) F2.kn) ?_
    rintro v3 ⟨f3,m3⟩ ⟨T3,i3⟩
    dsimp only at T3 i3
    obtain⟨ad4,rfl,_⟩:=T3.toT.get
    refine WO.take rfl rfl (WO.len rfl (WO.take rfl rfl (WO.gtrS rfl rfl (fun h=>absurd h (by simp only[zO];omega)) (fun _=>?_))))
    refine WO.pure (v:=.bool false) rfl (WO.nil (zN (WC.cond_false rfl (WC.skip ?_))))
    refine zB (zN (WC.ops (WO.add (by exact b69) rfl (by simp only[zO];omega) (by simp only[zO];omega) (WO.mv rfl (WO.nil ?_)))))
    exact⟨y2-1,by omega,rfl,p+1,by omega,by exact b5,by exact b11,rfl,by exact b67,by exact b68,rfl,F2.kq i3⟩
  ·have hp:p=k:=by simp only[zO] at hz;omega
   subst hp
   refine WO.nil (zN (WC.seq (WC.cond_false rfl (WC.exit (thenC_exit (blockC_exit ?_))))))
   refine zN (WC.seq (WC.ops (WO.mv (m:=⟨[],tc,nc⟩) (by exact a11) (WO.mv (by exact a12) (WO.eqlS rfl rfl (fun _=>?_) (fun h=>absurd (by rw[FC.kn.ok.sums]) h))))))
   exact WO.mv rfl (WO.nil (zN (WC.ret ⟨_,_,rfl,rfl,rfl⟩)))
end Go.AI
