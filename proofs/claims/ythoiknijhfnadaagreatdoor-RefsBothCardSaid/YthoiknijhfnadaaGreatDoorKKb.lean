/- Links: what check says. -/
import Derived.Test.YthoiknijhfnadaaGreatDoorKKa
set_option maxRecDepth 4000
namespace Go.AI
open Go.Proofs
section
variable {call:CallFn Ar}{bf:List (List Nat)}{base k:Nat}{ds:List (Nat×Option Nat)}{env0:List (Nat×Value)}{r:List (Option (Nat×Bool)×IOp)}{vals:List (Nat×Option Nat×Value)}{snaps:List (Mem Ar)}{chain:List Nat}{fls:List (Nat×Bool×AObj Ar)}{lds:List (Nat×Rq×List Value)}{Q:DS Ar→Prop}
theorem WD.take{g:Nat×Bool}{i:IOp}(hg:wanted (envAt bf ds env0 vals k) (some g)=some true)(q:WD call bf base ds env0 k ((none,i)::r) ⟨vals,snaps,chain,fls,lds⟩ Q):WD call bf base ds env0 k ((some g,i)::r) ⟨vals,snaps,chain,fls,lds⟩ Q:=by
 obtain⟨Z',h1,h2⟩:=q
 refine⟨Z',?_,h2⟩
 have e:dstep call bf base ds env0 k (some g) i ⟨vals,snaps,chain,fls,lds⟩=dstep call bf base ds env0 k none i ⟨vals,snaps,chain,fls,lds⟩:=by
  unfold dstep
  rw[hg];rfl
 unfold drun at h1 ⊢
 rw[e];exact h1
theorem WD.skip{g:Nat×Bool}{i:IOp}(hg:wanted (envAt bf ds env0 vals k) (some g)=some false)(q:WD call bf base ds env0 (k+1) r ⟨(k,i.dst,undef)::vals,snaps,chain,fls,lds⟩ Q):WD call bf base ds env0 k ((some g,i)::r) ⟨vals,snaps,chain,fls,lds⟩ Q:=by
 obtain⟨Z',h1,h2⟩:=q
 refine⟨Z',?_,h2⟩
 have e:dstep call bf base ds env0 k (some g) i ⟨vals,snaps,chain,fls,lds⟩=some ⟨(k,i.dst,undef)::vals,snaps,chain,fls,lds⟩:=by
  unfold dstep
  rw[hg]
 unfold drun
 rw[e];exact h1
end
variable {x:Ar}{tbl t' t'':List (Nat×AObj Ar)}{nx n' n'' j a s i w z:Nat}{L:List (Nat×Nat)}
theorem pv_geqN{env:List (Nat×Value)}{e:EqK}{x y:Opd}{a b:Nat}(hx:evo env x=some (.int .i64 (.ofNat a)))(hy:evo env y=some (.int .i64 (.ofNat b))):peval env (.bin .geq e x y)=some (.bool (decide (b≤a))):=by
 have h:(!decide ((Int.ofNat a)<Int.ofNat b))=decide (b≤a):=by rw[← decide_not];exact decide_eq_decide.2 (by simp only[zO];omega)
 simp only[peval,hx,hy,binVal,intBin,if_true,iltF_eq,h]
theorem pv_lssN{env:List (Nat×Value)}{e:EqK}{x y:Opd}{k:IntKind}{a b:Nat}(hx:evo env x=some (.int k (.ofNat a)))(hy:evo env y=some (.int k (.ofNat b))):peval env (.bin .lss e x y)=some (.bool (decide (a<b))):=by
 have h:decide ((Int.ofNat a)<Int.ofNat b)=decide (a<b):=decide_eq_decide.2 (by simp only[zO];omega)
 simp only[peval,hx,hy,binVal,intBin,if_true,iltF_eq,h]
theorem pv_leqN{env:List (Nat×Value)}{e:EqK}{x y:Opd}{k:IntKind}{a b:Nat}(hx:evo env x=some (.int k (.ofNat a)))(hy:evo env y=some (.int k (.ofNat b))):peval env (.bin .leq e x y)=some (.bool (decide (a≤b))):=by
 have h:(!decide ((Int.ofNat b)<Int.ofNat a))=decide (a≤b):=by rw[← decide_not];exact decide_eq_decide.2 (by simp only[zO];omega)
 simp only[peval,hx,hy,binVal,intBin,if_true,iltF_eq,h]
def chkN(L:List (Nat×Nat))(m w z:Nat):Nat:=if w=0∨z=0 then 2 else if L.any (fun p=>decide (p.1=w))=true then 9 else if m≤L.length then 10 else 0
structure WHk4(hk:List (HookF Ar)):Prop extends WHk3 hk where
 chk:hookL hk 39=none
abbrev vLk(w z:Nat):Value:=.agg ⟨[.int .u64 (.ofNat w),.int .u64 (.ofNat z)]⟩
theorem chk_run{hk:List (HookF Ar)}(hh:WHk4 hk){n:Nat}(hn:105≤n)(hl:look j tbl=some (.ext x))(hj:j<nx)(hx:x.refuse<9223372036854775808)(hv:bytesE x (.ofNat a) (.ofNat s)=0)(ha:a+s<4611686018427387904)(hs:s≤1600) :
  ∃u h',RW hk (n+5) 39 [vW j a s,vLk w z] ⟨tbl,nx⟩=some (u,h')∧(u=errV (chkN (lks x a (s / 16) 0) (s / 16) w z)∧Kq tbl nx h'.tbl h'.next):=by
 refine run_fn hh.chk fKcheck (zL rfl) ?_
 dsimp only[iKcheck,argsE]
 have K0:Kq tbl nx ((nx+1,AObj.cells [.int .u64 (.ofNat w),.int .u64 (.ofNat z)])::(nx,AObj.cells [.pointer (some ⟨j,0,none⟩),vI a,vI s])::tbl) (nx+1+1):=(Kq.refl.cons (Nat.le_refl _) (Nat.le_succ _)).cons (by omega) (by omega)
 refine WC.seq (WC.ops (WO.box (v:=vW j a s) (cs:=[.pointer (some ⟨j,0,none⟩),vI a,vI s]) rfl rfl (WO.box (v:=vLk w z) (cs:=[.int .u64 (.ofNat w),.int .u64 (.ofNat z)]) rfl rfl (WO.mv rfl (WO.nil (zN ?_))))))
 have c0:look nx ((nx+1,AObj.cells [.int .u64 (.ofNat w),.int .u64 (.ofNat z)])::(nx,AObj.cells [.pointer (some ⟨j,0,none⟩),vI a,vI s])::tbl)=some (.cells [.pointer (some ⟨j,0,none⟩),vI a,vI s]):=by rw[zC,if_neg (by show¬nx=nx+1;omega),zC,if_pos rfl]
 have c1:look (nx+1) ((nx+1,AObj.cells [.int .u64 (.ofNat w),.int .u64 (.ofNat z)])::(nx,AObj.cells [.pointer (some ⟨j,0,none⟩),vI a,vI s])::tbl)=some (.cells [.int .u64 (.ofNat w),.int .u64 (.ofNat z)]):=by rw[zC,if_pos rfl]
 generalize((nx+1,AObj.cells [.int .u64 (.ofNat w),.int .u64 (.ofNat z)])::(nx,AObj.cells [.pointer (some ⟨j,0,none⟩),vI a,vI s])::tbl)=T at K0 c0 c1 ⊢
 refine WC.seq (WC.block (WC.seq (WC.ops (WO.fadd rfl (WO.fadd rfl (WO.load (ob:=.cells [.pointer (some ⟨j,0,none⟩),vI a,vI s]) (v:=.pointer (some ⟨j,0,none⟩)) rfl c0 rfl rfl rfl (WO.pure (v:=.bool false) rfl (WO.mv rfl (WO.nil (zN (WC.cond_false rfl ?_)))))))))))
 -- no one,or no serial
 have h2:w=0∨z=0→chkN (lks x a (s / 16) 0) (s / 16) w z=2:=fun h=>if_pos h
 refine WC.seq (WC.ops (WO.fadd rfl (WO.load (ob:=.cells [.int .u64 (.ofNat w),.int .u64 (.ofNat z)]) (v:=.int .u64 (.ofNat w)) rfl c1 rfl rfl rfl (WO.eqlS rfl rfl (fun h0=>?_) (fun h0=>?_)))))
 ·have h0:w=0:=Int.ofNat.inj h0
  refine WO.mv rfl (WO.skip rfl rfl (WO.skip rfl rfl (WO.skip rfl rfl (WO.pure (v:=.bool true) rfl (WO.mv rfl (WO.nil (zN (WC.cond_true rfl ?_))))))))
  refine WC.seq (WC.ops (WO.mv rfl (WO.nil (zN (WC.ret (blockC_ret (thenC_ret ?_)))))))
  exact⟨_,_,rfl,rfl,by rw[h2 (.inl h0)];rfl,K0⟩
 have hw0:w≠0:=fun e=>h0 (by rw[e])
 refine WO.mv rfl (WO.take rfl rfl (WO.fadd rfl (WO.take rfl rfl (WO.load (ob:=.cells [.int .u64 (.ofNat w),.int .u64 (.ofNat z)]) (v:=.int .u64 (.ofNat z)) rfl c1 rfl rfl rfl (WO.take rfl rfl (WO.eqlS rfl rfl (fun h0=>?_) (fun h0=>?_)))))))
 ·have h0:z=0:=Int.ofNat.inj h0
  refine WO.pure (v:=.bool true) rfl (WO.mv rfl (WO.nil (zN (WC.cond_true rfl ?_))))
  refine WC.seq (WC.ops (WO.mv rfl (WO.nil (zN (WC.ret (blockC_ret (thenC_ret ?_)))))))
  exact⟨_,_,rfl,rfl,by rw[h2 (.inr h0)];rfl,K0⟩
 have hz0:z≠0:=fun e=>h0 (by rw[e])
 refine WO.pure (v:=.bool false) rfl (WO.mv rfl (WO.nil (zN (WC.cond_false rfl ?_))))
 have hnn:¬(w=0∨z=0):=fun h=>h.elim hw0 hz0
 refine WC.seq (WC.ops (WO.load (ob:=.cells [.pointer (some ⟨j,0,none⟩),vI a,vI s]) (v:=vW j a s) rfl c0 rfl rfl rfl (WO.fadd rfl (WO.load (ob:=.cells [.int .u64 (.ofNat w),.int .u64 (.ofNat z)]) (v:=.int .u64 (.ofNat w)) rfl c1 rfl rfl rfl ?_))))
 refine WO.fcall_ex (vs:=[vW j a s,.int .u64 (.ofNat w)]) rfl rfl (has_run (n:=n) hh.toWHk2 (by omega) ((K0.2 j hj).trans hl) (by show j<nx+1+1;omega) hx hv ha hs) ?_
 rintro u ⟨t2,n2⟩ ⟨rfl,k2⟩
 have K2:Kq tbl nx t2 n2:=K0.trans k2
 have d0:look nx t2=_:=(k2.2 nx (by show nx<nx+1+1;omega)).trans c0
 have g2:nx+2≤n2:=k2.1
 cases hany:(lks x a (s / 16) 0).any fun p=>decide (p.1=w) with
 |true =>
  refine WO.mv rfl (WO.nil (zN (WC.cond_true rfl (WC.seq (WC.ops (WO.mv rfl (WO.nil (zN (WC.ret (blockC_ret (thenC_ret ?_)))))))))))
  have h9:chkN (lks x a (s / 16) 0) (s / 16) w z=9:=by unfold chkN;rw[if_neg hnn,if_pos hany]
  exact⟨_,_,rfl,rfl,by rw[h9];rfl,K2⟩
 |false =>
  refine WO.mv rfl (WO.nil (zN (WC.cond_false rfl (WC.seq (WC.drawnW ?_)))))
  show WD _ _ n2 _ _ _ _ ⟨[],[⟨[],t2,n2+7⟩],[],[],[]⟩ _
  obtain⟨u3,⟨t3,n3⟩,r3,q3,k3⟩:=allk_run (n:=n+1) (nx:=n2+7) hh.toWHk (by omega) ((K2.2 j hj).trans hl) (by have:=K2.1;omega) hx hv ha hs
  dsimp only at r3 q3 k3
  obtain⟨ad,rfl,_⟩:=q3.get
  obtain⟨u4,⟨t4,n4⟩,r4,rfl,k4⟩:=slots_run (n:=n+2) (tbl:=t3) (nx:=n3) (j:=j) (a:=a) (s:=s) hh.toWHk (by omega)
  dsimp only at r4 k4
  have d1:look nx t3=_:=(k3.2 nx (by omega)).trans d0
  have d2:look nx t4=_:=(k4.2 nx (by have:=k3.1;omega)).trans d1
  have hld:∀m t,look nx t=some (.cells [.pointer (some ⟨j,0,none⟩),vI a,vI s])→(⟨[],t,m⟩:Mem Ar).load ⟨nx,0,none⟩ 3=some [.pointer (some ⟨j,0,none⟩),vI a,vI s]:=fun m t h=>mem_load h rfl rfl
  refine WD.load (m:=⟨[],t2,n2+7⟩) (ms:=[]) (v:=vW j a s) rfl (hld _ _ d0) rfl ?_
  refine WD.chn (m:=⟨[],t2,n2+7⟩) (m':=⟨[],t3,n3⟩) (ms:=[]) (v:=.slice ad (lks x a (s / 16) 0).length (lks x a (s / 16) 0).length) rfl rfl rfl (estep_call (m:=⟨[],t2,n2+7⟩) (h:=⟨t3,n3⟩) (vs:=[vW j a s]) rfl rfl r3) ?_
  refine WD.pure (v:=vI (lks x a (s / 16) 0).length) rfl ?_
  refine WD.load (m:=⟨[],t3,n3⟩) (v:=vW j a s) (evOut rfl rfl rfl) (hld _ _ d1) rfl ?_
  refine WD.chn (m:=⟨[],t3,n3⟩) (m':=⟨[],t4,n4⟩) (v:=vI (s / 16)) rfl rfl rfl (estep_call (m:=⟨[],t3,n3⟩) (h:=⟨t4,n4⟩) (vs:=[vW j a s]) rfl rfl r4) ?_
  refine WD.pure (v:=.bool (decide (s / 16≤(lks x a (s / 16) 0).length))) (pv_geqN rfl rfl) (WD.pure (v:=.bool (decide (s / 16≤(lks x a (s / 16) 0).length))) rfl (WD.nil ⟨?_,_,_,rfl,?_⟩))
  ·simp only[heldAll,loadsIn,hld _ _ d0,hld _ _ d1,hld _ _ d2,ceqs_vw]
   rfl
  have K4:Kq tbl nx t4 n4:=((K2.up (m:=n2+7) (by omega)).trans k3).trans k4
  have hgo:¬(lks x a (s / 16) 0).any (fun p=>decide (p.1=w))=true:=by rw[hany];exact fun h=>by cases h
  refine zN ?_
  by_cases h10:s / 16≤(lks x a (s / 16) 0).length
  ·refine WC.cond_true (by rw[decide_eq_true h10];rfl) (WC.seq (WC.ops (WO.mv rfl (WO.nil (zN (WC.ret (blockC_ret (thenC_ret ?_))))))))
   have h9:chkN (lks x a (s / 16) 0) (s / 16) w z=10:=by unfold chkN;rw[if_neg hnn,if_neg hgo,if_pos h10]
   exact⟨_,_,rfl,rfl,by rw[h9];rfl,K4⟩
  ·refine WC.cond_false (by rw[decide_eq_false h10];rfl) (WC.skip (zB (zN (WC.seq (WC.ops (WO.mv rfl (WO.nil (zN (WC.ret ?_)))))))))
   have h9:chkN (lks x a (s / 16) 0) (s / 16) w z=0:=by unfold chkN;rw[if_neg hnn,if_neg hgo,if_neg h10]
   exact⟨_,_,rfl,rfl,by rw[h9];rfl,K4⟩
end Go.AI
/- Links: Add, walked. -/
namespace Go.AI
open Go.Proofs
variable {x:Ar}{tbl t' t'':List (Nat×AObj Ar)}{nx n' n'' j a s i w z p P off lo:Nat}{L:List (Nat×Nat)}
theorem pv_idxK{env:List (Nat×Value)}{e:Nat}{x i:Opd}{b o len c n:Nat}{sp:Option Nat}{j:IntKind}(hx:evo env x=some (.slice (some ⟨b,o,sp⟩) len c))(hi:evo env i=some (.int j (.ofNat n)))(hn:n<len):peval env (.idxL e x i)=some (.pointer (some ⟨b,o+n*e,none⟩)):=by
 have h:Nat.blt n len=true:=by rw[blt_iff];exact decide_eq_true hn
 simp only[peval,hx,hi,natOf,h,cond_true]
theorem pv_faddK{env:List (Nat×Value)}{k:Nat}{x:Opd}{b o:Nat}(hx:evo env x=some (.pointer (some ⟨b,o,none⟩))):peval env (.fadd k x)=some (.pointer (some ⟨b,o+k,none⟩)):=by
 simp only[peval,hx]
def insI(z:Nat):List (Nat×Nat)→Nat
 |[]=>0
 |c::r=>if c.2≤z then insI z r+1 else 0
theorem insI_le:∀(L:List (Nat×Nat)),insI z L≤L.length
 |[]=>Nat.le_refl _
 |c::r=>by
  show(if c.2≤z then insI z r+1 else 0)≤r.length+1
  split
  ·exact Nat.succ_le_succ (insI_le r)
  ·exact Nat.zero_le _
theorem insI_eq:∀(L:List (Nat×Nat)) (i:Nat),i≤L.length→(∀c,c∈L.take i→c.2≤z)→(∀c,L[i]? = some c→¬c.2≤z)→insI z L=i
 |[],i,h,_,_=>(Nat.le_zero.1 h).symm
 |c::r,0,_,_,h=>if_neg (h c rfl)
 |c::r,i+1,h,h1,h2=>by
  show(if c.2≤z then insI z r+1 else 0)=_
  rw[if_pos (h1 c (by simp)),insI_eq r i (by simpa using h) (fun d hd=>h1 d (by simp[hd])) (fun d hd=>h2 d (by simpa using hd))]
def insK(L:List (Nat×Nat))(w z:Nat):List (Nat×Nat):=L.take (insI z L)++(w,z)::L.drop (insI z L)
theorem insK_len:(insK L w z).length=L.length+1:=by
 have:=insI_le (z:=z) L
 unfold insK
 rw[List.length_append,List.length_cons,List.length_take,List.length_drop]
 omega
theorem insK_mem{c:Nat×Nat}(h:c∈insK L w z):c=(w,z)∨c∈L:=by
 unfold insK at h
 rcases List.mem_append.1 h with h|h
 ·exact .inr (List.mem_of_mem_take h)
 ·rcases List.mem_cons.1 h with h|h
  ·exact .inl h
  ·exact .inr (List.mem_of_mem_drop h)
theorem lkC_take:∀(L:List (Nat×Nat)) (k:Nat),(lkC L).take (k*2)=lkC (L.take k)
 |[],k=>by simp[lkC]
 |c::r,0=>rfl
 |c::r,k+1=>by
  rw[show(k+1)*2=k*2+1+1 by omega]
  show _::_::(lkC r).take (k*2)=_::_::lkC (r.take k)
  rw[lkC_take r k]
theorem lkC_drop:∀(L:List (Nat×Nat)) (k:Nat),(lkC L).drop (k*2)=lkC (L.drop k)
 |[],k=>by simp[lkC]
 |c::r,0=>rfl
 |c::r,k+1=>by
  rw[show(k+1)*2=k*2+1+1 by omega]
  show(lkC r).drop (k*2)=lkC (r.drop k)
  exact lkC_drop r k
theorem lkC_ins(k:Nat):insL (lkC L) (k*2) [.int .u64 (.ofNat w),.int .u64 (.ofNat z)]=lkC (L.take k++(w,z)::L.drop k):=by
 rw[lkC_app]
 unfold insL
 rw[lkC_take,lkC_drop]
 rfl
theorem lkC_int:∀(L:List (Nat×Nat)),(lkC L).all isInt=true
 |[]=>rfl
 |c::r=>lkC_int r
theorem lkC_two:∀{L:List (Nat×Nat)} {i:Nat} {c:Nat×Nat},L[i]? = some c→takeN (lkC L) (i*2+1) 1=some [.int .u64 (.ofNat c.2)]
 |[],_,_,h=>by simp at h
 |d::r,0,c,h=>by
  simp only[List.getElem?_cons_zero,zI] at h
  subst h;rfl
 |d::r,i+1,c,h=>by
  have ih:=lkC_two (L:=r) (i:=i) (c:=c) (by simpa using h)
  rw[show(i+1)*2+1=i*2+1+1+1 by omega]
  exact ih
theorem ins_at{v:Value}{jj k:Nat}(hk:k≤L.length)(hL:L.length≤100)(hR:RowK lo tbl nx v L)(hj:look jj tbl=some (.cells [.int .u64 (.ofNat w),.int .u64 (.ofNat z)])) :
  ∃t1,insertH (X:=Ar) 2 67 [v,vI k,.slice (some ⟨jj,0,none⟩) 1 1] ⟨tbl,nx⟩=some (.slice (some ⟨nx,0,none⟩) (L.length+1) (L.length+1),⟨t1,nx+1⟩)∧look nx t1=some (.grown 2 67 (lkC (L.take k++(w,z)::L.drop k)))∧∀q,q<lo→q<nx→q≠jj→look q t1=look q tbl:=by
 have b0:Nat.beq 0 0=true:=rfl
 have b1:Nat.beq 1 1=true:=rfl
 have b2:Nat.beq 2 2=true:=rfl
 have b3:Nat.beq 67 67=true:=rfl
 have xi:([Value.int .u64 (.ofNat w),.int .u64 (.ofNat z)].all isInt)=true:=rfl
 have xl:Nat.beq ([Value.int .u64 (.ofNat w),.int .u64 (.ofNat z)]).length 2=true:=rfl
 rcases hR with⟨rfl,rfl⟩|⟨h0,r,h1,h2,rfl,h4⟩
 ·have hk:k=0:=Nat.le_zero.1 hk
  subst hk
  refine⟨_,by simp only[insertH,hj,b0,b1,b2,b3,xi,xl,Bool.and_self,cond_true];rfl,?_,fun q h1 h2 h3=>?_⟩
  ·rw[zC,if_pos rfl];rfl
  ·rw[zC,if_neg (by show¬q=nx;omega),look_del_ne h3,look_del_ne h3]
 ·have hrj:Nat.beq r jj=false:=beq_not fun e=>by subst e;rw[h4] at hj;cases hj
  have c1:Nat.beq L.length L.length=true:=Nat.beq_refl _
  have c2:Nat.beq (lkC L).length (L.length*2)=true:=by rw[Nat.beq_eq];exact lkC_len L
  have c3:Nat.ble k L.length=true:=ble_yes hk
  have c4:Nat.blt 0 L.length=true:=by rw[Nat.blt_eq];exact List.length_pos_iff.2 h0
  have c5:Nat.ble L.length 1000=true:=ble_yes (by omega)
  refine⟨_,by simp only[insertH,h4,hj,hrj,cond_false,b0,b1,b2,b3,xi,xl,c1,c2,c3,c4,c5,lkC_int,Bool.and_self,cond_true];rfl,?_,fun q q1 q2 q3=>?_⟩
  ·rw[zC,if_pos rfl,lkC_ins]
  ·rw[zC,if_neg (by show¬q=nx;omega),look_del_ne q3,look_del_ne (by omega)]
theorem pgL_mem{P off:Nat}{c:Nat×Nat}:∀{n i:Nat},c∈pgL P off n i→c.1≠0∧c.1<18446744073709551616∧c.2<18446744073709551616
 |0,_,h=>by simp[pgL] at h
 |n+1,i,h=>by
  unfold pgL at h
  split at h
  ·simp at h
  ·rename_i h0
   rcases List.mem_cons.1 h with h|h
   ·subst h
    exact⟨h0,pgW_lt P _ 8,pgW_lt P _ 8⟩
   ·exact pgL_mem h
structure WHk5(hk:List (HookF Ar)):Prop extends WHk4 hk where
 ins:hookL hk 49=some (insertH 2 67)
 add:hookL hk 24=none
def addP(P off s w z:Nat):Nat:=layP off (zP P off (s / 16*16)) 0 (insK (pgL P off (s / 16) 0) w z)
theorem add_run{hk:List (HookF Ar)}(hh:WHk5 hk){n:Nat}(hn:106≤n)(hl:look j tbl=some (.ext x))(hj:j<nx)(hx:x.refuse<9223372036854775808)(hp:pgAt x.pages p=some P)(ho:off+s≤4096)(ha:4096*p+4096<4611686018427387904)(hs:s≤1600)(hw:w<18446744073709551616)(hz:z<18446744073709551616) :
  ∃u h',RW hk (n+6) 24 [vW j (4096*p+off) s,vLk w z] ⟨tbl,nx⟩=some (u,h')∧(u=errV (chkN (pgL P off (s / 16) 0) (s / 16) w z)∧Kx j tbl nx h'.tbl h'.next∧look j h'.tbl=some (.ext (if chkN (pgL P off (s / 16) 0) (s / 16) w z=0 then pX x p (addP P off s w z) else x))):=by
 have hlk:lks x (4096*p+off) (s / 16) 0=pgL P off (s / 16) 0:=lks_pg hp _ _ (by omega)
 have hv:bytesE x (.ofNat (4096*p+off)) (.ofNat s)=0:=bytesE_in hp ho
 refine run_fn hh.add fKAdd (zL rfl) ?_
 dsimp only[iKAdd,argsE]
 have K0:Kq tbl nx ((nx+1,AObj.cells [.int .u64 (.ofNat w),.int .u64 (.ofNat z)])::(nx,AObj.cells [.pointer (some ⟨j,0,none⟩),vI (4096*p+off),vI s])::tbl) (nx+1+1):=(Kq.refl.cons (Nat.le_refl _) (Nat.le_succ _)).cons (by omega) (by omega)
 refine WC.seq (WC.ops (WO.box (v:=vW j (4096*p+off) s) (cs:=[.pointer (some ⟨j,0,none⟩),vI (4096*p+off),vI s]) rfl rfl (WO.box (v:=vLk w z) (cs:=[.int .u64 (.ofNat w),.int .u64 (.ofNat z)]) rfl rfl (WO.mv rfl (WO.nil (zN ?_))))))
 have c0:look nx ((nx+1,AObj.cells [.int .u64 (.ofNat w),.int .u64 (.ofNat z)])::(nx,AObj.cells [.pointer (some ⟨j,0,none⟩),vI (4096*p+off),vI s])::tbl)=some (.cells [.pointer (some ⟨j,0,none⟩),vI (4096*p+off),vI s]):=by rw[zC,if_neg (by show¬nx=nx+1;omega),zC,if_pos rfl]
 have c1:look (nx+1) ((nx+1,AObj.cells [.int .u64 (.ofNat w),.int .u64 (.ofNat z)])::(nx,AObj.cells [.pointer (some ⟨j,0,none⟩),vI (4096*p+off),vI s])::tbl)=some (.cells [.int .u64 (.ofNat w),.int .u64 (.ofNat z)]):=by rw[zC,if_pos rfl]
 generalize((nx+1,AObj.cells [.int .u64 (.ofNat w),.int .u64 (.ofNat z)])::(nx,AObj.cells [.pointer (some ⟨j,0,none⟩),vI (4096*p+off),vI s])::tbl)=T at K0 c0 c1 ⊢
 -- may it be added?
 refine WC.seq (WC.seq (WC.ops (WO.load (ob:=.cells [.pointer (some ⟨j,0,none⟩),vI (4096*p+off),vI s]) (v:=vW j (4096*p+off) s) rfl c0 rfl rfl rfl (WO.load (ob:=.cells [.int .u64 (.ofNat w),.int .u64 (.ofNat z)]) (v:=vLk w z) rfl c1 rfl rfl rfl ?_))))
 refine WO.fcall_ex (vs:=[vW j (4096*p+off) s,vLk w z]) rfl rfl (chk_run (n:=n) hh.toWHk4 (by omega) ((K0.2 j hj).trans hl) (by show j<nx+1+1;omega) hx hv (by omega) hs) ?_
 rintro u ⟨t2,n2⟩ ⟨rfl,k2⟩
 rw[hlk]
 have K2:Kq tbl nx t2 n2:=K0.trans k2
 have d0:look nx t2=_:=(k2.2 nx (by show nx<nx+1+1;omega)).trans c0
 have d1:look (nx+1) t2=_:=(k2.2 (nx+1) (by show nx+1<nx+1+1;omega)).trans c1
 have g2:nx+2≤n2:=k2.1
 refine WO.mv rfl (WO.nil (zN (WC.seq (WC.ops (WO.mv rfl (WO.neqS rfl rfl (fun he=>?_) (fun he=>?_)))))))
 ·have he:chkN (pgL P off (s / 16) 0) (s / 16) w z≠0:=fun e=>he (by rw[e])
  refine WO.nil (zN (WC.cond_true rfl (WC.seq (WC.ops (WO.mv rfl (WO.mv rfl (WO.nil (zN (WC.ret (thenC_ret ?_))))))))))
  exact⟨_,_,rfl,rfl,rfl,K2.toX,by rw[if_neg he];exact(K2.2 j hj).trans hl⟩
 have he:chkN (pgL P off (s / 16) 0) (s / 16) w z=0:=Int.ofNat.inj he
 refine WO.nil (zN (WC.cond_false rfl (WC.skip (zN (WC.seq (WC.ops (WO.load (ob:=.cells [.pointer (some ⟨j,0,none⟩),vI (4096*p+off),vI s]) (v:=vW j (4096*p+off) s) rfl d0 rfl rfl rfl ?_)))))))
 refine WO.fcall_ex (vs:=[vW j (4096*p+off) s]) rfl rfl (allk_run (n:=n+2) hh.toWHk (by omega) ((K2.2 j hj).trans hl) (by have:=K2.1;show j<n2;omega) hx hv (by omega) hs) ?_
 rintro u ⟨t3,n3⟩ ⟨hR,k3⟩
 rw[hlk] at hR
 dsimp only at hR k3
 obtain⟨hp0,hm⟩:(∀c,c∈pgL P off (s / 16) 0→c.1≠0∧c.1<18446744073709551616∧c.2<18446744073709551616)∧(pgL P off (s / 16) 0).length<s / 16:=by
  refine⟨fun c hc=>pgL_mem hc,?_⟩
  unfold chkN at he
  split at he
  ·cases he
  ·split at he
   ·cases he
   ·split at he
    ·cases he
    ·omega
 generalize hLd:pgL P off (s / 16) 0=L at hR hp0 hm he ⊢
 have hL100:L.length≤100:=by omega
 obtain⟨ad,hve,hrow⟩:=hR.get
 have hR2:=hR
 subst hve
 have K3:Kq tbl nx t3 n3:=K2.trans k3
 have e0:look nx t3=_:=(k3.2 nx (by omega)).trans d0
 have e1:look (nx+1) t3=_:=(k3.2 (nx+1) (by omega)).trans d1
 have g3:nx+2≤n3:=by have:=k3.1;omega
 refine WO.mv rfl (WO.nil (zN (WC.seq (WC.ops (WO.mv rfl (WO.nil (zN ?_)))))))
 refine WC.seq (WC.mono (Q:=fun y e m=>y = .norm∧look 2 e=some (.pointer (some ⟨nx,0,none⟩))∧look 3 e=some (.pointer (some ⟨nx+1,0,none⟩))∧look 6 e=some (.slice ad L.length L.length)∧look 7 e=some (vI (insI z L))∧∃nb,m=⟨[],t3,nb⟩∧n3≤nb) (WC.block ?_) ?_)
 rotate_left
 ·rintro y e m ⟨rfl,q2,q3,q6,q7,nb,rfl,hnb⟩
  refine zN (WC.seq (WC.drawnW ?_))
  show WD _ _ nb _ _ _ _ ⟨[],[⟨[],t3,nb+7⟩],[],[],[]⟩ _
  have KC:Kq t3 n3 ((nb+4,AObj.cells [.int .u64 (.ofNat w),.int .u64 (.ofNat z)])::t3) (nb+7):=Kq.refl.cons (by omega) (by omega)
  obtain⟨t4,hi1,hi2,hi3⟩:=ins_at (w:=w) (z:=z) (tbl:=(nb+4,AObj.cells [.int .u64 (.ofNat w),.int .u64 (.ofNat z)])::t3) (nx:=nb+7) (jj:=nb+4) (insI_le (z:=z) L) hL100 (hR2.kq KC) (by rw[zC,if_pos rfl])
  have hi4:∀q,q<n2→look q t4=look q t3:=fun q hq=>by
   have h3:=k3.1
   rw[hi3 q hq (by omega) (by omega),zC,if_neg (by show¬q=nb+4;omega)]
  have hj2:j<n2:=Nat.lt_of_lt_of_le hj K2.1
  obtain⟨u5,⟨t5,n5⟩,r5,k5,l5⟩:=lay_run (n:=n+2) (tbl:=t4) (nx:=nb+8) (v:=.slice (some ⟨nb+7,0,none⟩) (L.length+1) (L.length+1)) (L:=insK L w z) hh.toWHk3 (by omega) ((hi4 j hj2).trans ((K3.2 j hj).trans hl)) (by have:=k3.1;omega) hx hp ho ha hs (by rw[insK_len];omega) (fun c hc=>by
   rcases insK_mem hc with rfl|hc
   ·exact⟨hw,hz⟩
   ·exact(hp0 c hc).2) ⟨some ⟨nb+7,0,none⟩,L.length+1,by rw[insK_len],fun _=>⟨nb+7,[],by omega,rfl,by rw[List.append_nil];exact hi2⟩⟩
  dsimp only at r5 k5 l5
  have f0:look nx t4=_:=(hi4 nx (by omega)).trans e0
  have f1:look (nx+1) t4=_:=(hi4 (nx+1) (by omega)).trans e1
  have h0:look nx t5=_:=(k5.2 nx (by have:=k3.1;omega) (by omega)).trans f0
  have h1:look (nx+1) t5=_:=(k5.2 (nx+1) (by have:=k3.1;omega) (by omega)).trans f1
  have lv:∀m t,look nx t=some (.cells [.pointer (some ⟨j,0,none⟩),vI (4096*p+off),vI s])→(⟨[],t,m⟩:Mem Ar).load ⟨nx,0,none⟩ 3=some [.pointer (some ⟨j,0,none⟩),vI (4096*p+off),vI s]:=fun m t h=>mem_load h rfl rfl
  have ll:∀m t,look (nx+1) t=some (.cells [.int .u64 (.ofNat w),.int .u64 (.ofNat z)])→(⟨[],t,m⟩:Mem Ar).load ⟨nx+1,0,none⟩ 2=some [.int .u64 (.ofNat w),.int .u64 (.ofNat z)]:=fun m t h=>mem_load h rfl rfl
  refine WD.load (m:=⟨[],t3,nb+7⟩) (ms:=[]) (v:=vW j (4096*p+off) s) (evOut q2 rfl rfl) (lv _ _ e0) rfl ?_
  refine WD.pure (v:=.slice ad L.length L.length) (evOut q6 rfl rfl) (WD.pure (v:=vI (insI z L)) (evOut q7 rfl rfl) ?_)
  refine WD.load (m:=⟨[],t3,nb+7⟩) (v:=vLk w z) (evOut q3 rfl rfl) (ll _ _ e1) rfl ?_
  refine WD.alloc (hp:=true) (cs:=[.int .u64 (.ofNat w),.int .u64 (.ofNat z)]) (nn:=some 1) rfl rfl ?_
  refine WD.chn (m:=⟨[],t3,nb+7⟩) (m':=⟨[],t4,nb+8⟩) (v:=.slice (some ⟨nb+7,0,none⟩) (L.length+1) (L.length+1)) rfl rfl rfl (estep_call (m:=⟨[],(nb+4,.cells [.int .u64 (.ofNat w),.int .u64 (.ofNat z)])::t3,nb+7⟩) (h:=⟨t4,nb+8⟩) (vs:=[.slice ad L.length L.length,vI (insI z L),.slice (some ⟨nb+4,0,none⟩) 1 1]) rfl rfl ((run_hook (n:=n+4) hh.ins).trans hi1)) ?_
  refine WD.chn (m:=⟨[],t4,nb+8⟩) (m':=⟨[],t5,n5⟩) (v:=u5) rfl rfl rfl (estep_call (m:=⟨[],t4,nb+8⟩) (h:=⟨t5,n5⟩) (vs:=[vW j (4096*p+off) s,.slice (some ⟨nb+7,0,none⟩) (L.length+1) (L.length+1)]) rfl rfl r5) (WD.nil ⟨?_,_,_,rfl,?_⟩)
  ·have cc:∀y y2:Nat,ceqs [Value.int .u64 (.ofNat y),Value.int .u64 (.ofNat y2)] [Value.int .u64 (.ofNat y),Value.int .u64 (.ofNat y2)]=true:=fun y y2=>by simp[ceqs,ceq,ieqF_refl]
   simp only[heldAll,loadsIn,lv _ _ e0,lv _ _ f0,lv _ _ h0,ll _ _ e1,ll _ _ f1,ll _ _ h1,ceqs_vw,cc]
   rfl
  refine zN (WC.seq (WC.ops (WO.mv rfl (WO.nil (zN (WC.ret ?_))))))
  have KZ:Kx j tbl nx t5 n5:=⟨by have:=k5.1;have:=k3.1;omega,fun q hq hqj=>by
   have h3:=k3.1
   rw[k5.2 q (by omega) hqj,hi4 q (by omega)]
   exact K3.2 q hq⟩
  refine⟨_,_,rfl,rfl,by rw[he];rfl,KZ,?_⟩
  rw[if_pos he]
  unfold addP
  rw[hLd]
  exact l5
 refine WC.loop (fun q e tb nb=>∃i,i+q=L.length∧e 2=some (.pointer (some ⟨nx,0,none⟩))∧e 3=some (.pointer (some ⟨nx+1,0,none⟩))∧e 6=some (.slice ad L.length L.length)∧e 7=some (vI i)∧(∀c,c∈L.take i→c.2≤z)∧tb=t3∧n3≤nb) (k:=L.length) (by omega)
  ⟨0,by omega,rfl,rfl,rfl,rfl,fun c hc=>by simp at hc,rfl,Nat.le_refl _⟩ ?_
 rintro q e tb nb ⟨i,hiq,q2,q3,q6,q7,hle,rfl,hnb⟩
 dsimp only at q2 q3 q6 q7
 have hld1:∀m,(⟨[],tb,m⟩:Mem Ar).load ⟨nx+1,0+1,none⟩ 1=some [.int .u64 (.ofNat z)]:=fun m=>mem_load e1 rfl rfl
 refine WC.seq (WC.seq (WC.drawnW ?_))
 by_cases hi:i<L.length
 ·obtain⟨c,hc⟩:∃c,L[i]? = some c:=⟨L[i],List.getElem?_eq_getElem hi⟩
  obtain⟨r,hr1,hr2,rfl,hr4⟩:=hrow (fun e=>by rw[e] at hi;simp at hi)
  have hld2:∀m,(⟨[],tb,m⟩:Mem Ar).load ⟨r,0+i*2+1,none⟩ 1=some [.int .u64 (.ofNat c.2)]:=fun m=>mem_load hr4 rfl (by rw[Nat.zero_add];exact lkC_two hc)
  refine WD.pure (v:=vI i) (evOut q7 rfl rfl) (WD.pure (v:=.slice (some ⟨r,0,none⟩) L.length L.length) (evOut q6 rfl rfl) (WD.pure (v:=vI L.length) rfl (WD.pure (v:=.bool (decide (i<L.length))) (pv_lssN rfl rfl) ?_)))
  rw[decide_eq_true hi]
  refine WD.pure (v:=.bool true) rfl (WD.take rfl (WD.pure (v:=.slice (some ⟨r,0,none⟩) L.length L.length) (evOut q6 rfl rfl) (WD.take rfl (WD.pure (v:=vI i) (evOut q7 rfl rfl) ?_))))
  refine WD.take rfl (WD.pure (v:=.pointer (some ⟨r,0+i*2,none⟩)) (pv_idxK rfl rfl hi) (WD.take rfl (WD.pure (v:=.pointer (some ⟨r,0+i*2+1,none⟩)) rfl ?_)))
  refine WD.take rfl (WD.load (m:=⟨[],tb,nb+14⟩) (ms:=[]) (v:=.int .u64 (.ofNat c.2)) rfl (hld2 _) rfl ?_)
  refine WD.take rfl (WD.pure (v:=.pointer (some ⟨nx+1,0+1,none⟩)) (pv_faddK (evOut q3 rfl rfl)) ?_)
  refine WD.take rfl (WD.load (m:=⟨[],tb,nb+14⟩) (ms:=[]) (v:=.int .u64 (.ofNat z)) rfl (hld1 _) rfl ?_)
  refine WD.take rfl (WD.pure (v:=.bool (decide (c.2≤z))) (pv_leqN rfl rfl) (WD.pure (v:=.bool (decide (c.2≤z))) rfl (WD.nil ⟨?_,_,_,rfl,?_⟩)))
  ·have cc:∀y:Nat,ceqs [Value.int .u64 (.ofNat y)] [Value.int .u64 (.ofNat y)]=true:=fun y=>by simp[ceqs,ceq,ieqF_refl]
   simp only[heldAll,loadsIn,hld1,hld2,cc]
   rfl
  refine zN ?_
  by_cases hcz:c.2≤z
  ·refine WC.cond_true (by rw[decide_eq_true hcz];rfl) (WC.skip (zN (WC.block (WC.ops (WO.mv (m:=⟨[],tb,nb+14⟩) q7 (WO.add rfl rfl (by simp only[zO];omega) (by simp only[zO];omega) (WO.mv rfl (WO.nil (zB ?_)))))))))
   refine⟨q-1,by omega,rfl,i+1,by omega,q2,q3,q6,rfl,fun d hd=>?_,rfl,by show n3≤nb+14;omega⟩
   rw[List.take_add_one,hc] at hd
   rcases List.mem_append.1 hd with hd|hd
   ·exact hle d hd
   ·rw[show d=c by simpa using hd];exact hcz
  ·refine WC.cond_false (by rw[decide_eq_false hcz];rfl) (WC.exit (thenC_exit (blockC_exit ?_)))
   refine⟨rfl,q2,q3,q6,?_,nb+14,rfl,by omega⟩
   rw[insI_eq L i (by omega) hle (fun d hd=>by rw[hc] at hd;injection hd with hd;rw[← hd];exact hcz)]
   exact q7
 ·have hi:i=L.length:=by omega
  refine WD.pure (v:=vI i) (evOut q7 rfl rfl) (WD.pure (v:=.slice ad L.length L.length) (evOut q6 rfl rfl) (WD.pure (v:=vI L.length) rfl (WD.pure (v:=.bool (decide (i<L.length))) (pv_lssN rfl rfl) ?_)))
  rw[decide_eq_false (by omega:¬i<L.length)]
  refine WD.pure (v:=.bool false) rfl (WD.skip rfl (WD.skip rfl (WD.skip rfl (WD.skip rfl (WD.skip rfl (WD.skip rfl (WD.skip rfl (WD.skip rfl (WD.pure (v:=.bool false) rfl (WD.nil ⟨rfl,_,_,rfl,?_⟩))))))))))
  refine zN (WC.cond_false rfl (WC.exit (thenC_exit (blockC_exit ?_))))
  refine⟨rfl,q2,q3,q6,?_,nb+14,rfl,by omega⟩
  rw[insI_eq L i (by omega) hle (fun d hd=>by rw[hi] at hd;simp at hd)]
  exact q7
end Go.AI
/- Links: one taken out of a row (slices.Delete), walked. -/
namespace Go.AI
open Go.Proofs
variable {x:Ar}{tbl t' t'':List (Nat×AObj Ar)}{nx n' n'' j a s i w z p P off lo k r:Nat}{L:List (Nat×Nat)}
theorem pv_slPhi{env:List (Nat×Value)}{e i o len c q:Nat}{x y:Opd}(hx:evo env x=some (.slice (some ⟨i,o,none⟩) len c))(hy:evo env y=some (.int .i64 (.ofNat q)))(hq:q≤c):peval env (.slL e x none (some y) none)=some (.slice (some ⟨i,o+0*e,none⟩) (q-0) (c-0)):=by
 have h1:=ble_yes (Nat.le_refl c)
 have h2:=ble_yes hq
 have h3:=ble_yes (Nat.zero_le q)
 have h4:Nat.beq 0 0=true:=rfl
 simp only[peval,hx,evopt,hy,Option.map,bounds,natOpt,natOf,h1,h2,h3,h4,sliceL,Option.isSome,Option.isNone,Bool.and_true,Bool.or_true,Bool.true_or,cond_true]
theorem pv_slPmx{env:List (Nat×Value)}{e i o len c q h m:Nat}{x y u v:Opd}(hx:evo env x=some (.slice (some ⟨i,o,none⟩) len c))(hy:evo env y=some (.int .i64 (.ofNat q)))(hu:evo env u=some (.int .i64 (.ofNat h)))(hv:evo env v=some (.int .i64 (.ofNat m)))(hq:q≤h)(hh:h≤m)(hm:m≤c)(hl:q<m):peval env (.slL e x (some y) (some u) (some v))=some (.slice (some ⟨i,o+q*e,some 1⟩) (h-q) (m-q)):=by
 have h1:=ble_yes hm
 have h2:=ble_yes hh
 have h3:=ble_yes hq
 have h4:Nat.beq m q=false:=beq_not (by omega)
 simp only[peval,hx,evopt,hy,hu,hv,Option.map,bounds,natOpt,natOf,h1,h2,h3,h4,sliceL,Option.isSome,Option.isNone,Bool.and_true,Bool.or_false,cond_true,cond_false]
theorem pv_slPlh{env:List (Nat×Value)}{e i o len c q h:Nat}{x y u:Opd}(hx:evo env x=some (.slice (some ⟨i,o,none⟩) len c))(hy:evo env y=some (.int .i64 (.ofNat q)))(hu:evo env u=some (.int .i64 (.ofNat h)))(hq:q≤h)(hh:h≤c)(hl:q<c):peval env (.slL e x (some y) (some u) none)=some (.slice (some ⟨i,o+q*e,none⟩) (h-q) (c-q)):=by
 have h1:=ble_yes (Nat.le_refl c)
 have h2:=ble_yes hh
 have h3:=ble_yes hq
 have h4:Nat.blt q c=true:=by rw[Nat.blt_eq];exact hl
 simp only[peval,hx,evopt,hy,hu,Option.map,bounds,natOpt,natOf,h1,h2,h3,h4,sliceL,Option.isSome,Option.isNone,Bool.and_true,Bool.true_or,cond_true]
def tailV(r q l:Nat):Value:=if q<l then .slice (some ⟨r,0+q*2,none⟩) (l-q) (l-q) else .slice (some ⟨r,0,some 0⟩) 0 0
theorem pv_tail{env:List (Nat×Value)}{x y:Opd}{q l:Nat}(hx:evo env x=some (.slice (some ⟨r,0,none⟩) l l))(hy:evo env y=some (.int .i64 (.ofNat q)))(hq:q≤l)(h0:q≠0):peval env (.slL 2 x (some y) none none)=some (tailV r q l):=by
 unfold tailV
 by_cases h:q<l
 ·rw[if_pos h]
  exact pv_slPlo hx hy hq (Nat.le_refl l) h
 ·rw[if_neg h]
  have e:q=l:=by omega
  subst e
  have h1:=ble_yes (Nat.le_refl q)
  have h4:Nat.blt q q=false:=by rw[← Bool.not_eq_true,Nat.blt_eq];omega
  have h5:Nat.beq q 0=false:=beq_not h0
  simp only[peval,hx,evopt,hy,Option.map,bounds,natOpt,natOf,h1,h4,h5,sliceL,Option.isSome,Option.isNone,Bool.and_true,Bool.or_true,Bool.or_false,cond_true,cond_false]
theorem src_tail{nn q l:Nat}{cs:List Value}{ob:AObj Ar}(hq:q≤l)(hr:look r tbl=some ob)(hc:cellsO ob=some cs)(hl:cs.length=l*2):source (⟨[],tbl,nn⟩:Mem Ar) 2 (tailV r q l)=some (l-q,cs.drop (q*2)):=by
 unfold tailV
 by_cases h:q<l
 ·rw[if_pos h]
  have:(⟨[],tbl,nn⟩:Mem Ar).loads (some ⟨r,0+q*2,none⟩) ((l-q)*2)=some (cs.drop (q*2)):=mem_lds hr hc (by omega) (by
   rw[takeN_mid (by omega),Nat.zero_add,List.take_of_length_le (by rw[List.length_drop];omega)])
  show(Mem.loads _ _ ((l-q)*2)).map _=_
  rw[this];rfl
 ·rw[if_neg h]
  have e:q=l:=by omega
  subst e
  rw[List.drop_of_length_le (by omega),Nat.sub_self];rfl
theorem estep_appM1{call:CallFn Ar}{env:List (Nat×Value)}{m m':Mem Ar}{d e b t l n:Nat}{x y:Opd}{src cs:List Value}{v:Value}(hx:evo env x=some (.slice (some ⟨r,0,none⟩) k l))(hy:evo env y=some v)(hsr:source m e v=some (n,src))(hi:m.get r=some (.grown e t cs))(hc:cs.length=l*e)(hsl:src.length=n*e)(hk:k+n≤l)(hs:n=0∧m'=m∨n≠0∧m.store ⟨r,0+k*e,none⟩ src=some m') :
  estep call env m (.append d e b t x y)=some (.slice (some ⟨r,0,none⟩) (k+n) l,m'):=by
 have q1:=ble_yes hk
 have q2:Nat.beq cs.length (l*e)=true:=by rw[Nat.beq_eq];exact hc
 have q3:Nat.beq src.length (n*e)=true:=by rw[Nat.beq_eq];exact hsl
 have q4:=ble_yes (by omega:k≤l)
 have q5:Nat.beq 0 0=true:=rfl
 have q6:mineB e t 0 l k n src none (.grown e t cs:AObj Ar)=true:=by
  simp only[mineB,Nat.beq_refl,q2,q3,q4,Bool.and_self]
 rcases hs with⟨h0,rfl⟩|⟨h0,hs⟩
 ·subst h0
  simp only[estep,mstep,hx,hy,appendM,hsr,hi,q6,Bool.or_true,cond_true,q1,Nat.beq_refl]
 ·have q0:Nat.beq n 0=false:=beq_not h0
  simp only[estep,mstep,hx,hy,appendM,hsr,hi,q6,Bool.or_true,cond_true,q1,q0,cond_false,hs,Option.map]
theorem estep_clear{call:CallFn Ar}{env:List (Nat×Value)}{m m':Mem Ar}{d:Option Nat}{e o l c:Nat}{z:List Value}{x:Opd}(hx:evo env x=some (.slice (some ⟨r,o,none⟩) l c))(h0:l≠0)(hs:m.store ⟨r,o,none⟩ (rows l z)=some m'):estep call env m (.clear d e z x)=some (.tuple ⟨[]⟩,m'):=by
 have q0:Nat.beq l 0=false:=beq_not h0
 simp only[estep,mstep,hx,q0,cond_false,hs,Option.map]
theorem eraseIdx_split:∀(L:List (Nat×Nat)) (k:Nat),L.eraseIdx k=L.take k++L.drop (k+1)
 |[],k=>by simp
 |c::r,0=>rfl
 |c::r,k+1=>by
  show c::r.eraseIdx k=c::(r.take k++r.drop (k+1))
  rw[eraseIdx_split r k]
abbrev zz2:List Value:=[.int .u64 (.ofNat 0),.int .u64 (.ofNat 0)]
theorem del_run{hk:List (HookF Ar)}(h48:hookL hk 48=none){n:Nat}(hkL:k<L.length)(hL:L.length≤1000)(hr:look r tbl=some (.grown 2 67 (lkC L)))(hrn:r<nx) :
  ∃u h',RW hk (n+1) 48 [.slice (some ⟨r,0,none⟩) L.length L.length,vI k,vI (k+1)] ⟨tbl,nx⟩=some (u,h')∧(u = .slice (some ⟨r,0,none⟩) (L.length-1) L.length∧look r h'.tbl=some (.grown 2 67 (lkC (L.eraseIdx k)++zz2))∧nx≤h'.next∧∀q,q≠r→q<nx→look q h'.tbl=look q tbl):=by
 have hcl:=lkC_len L
 refine run_fn h48 fDelete (zL rfl) ?_
 dsimp only[iDelete,argsE]
 refine WC.seq (WC.ops (WO.mv rfl (WO.nil (zN ?_))))
 refine WC.seq (WC.ops (WO.mv rfl (WO.mv rfl (WO.mv rfl (WO.mv rfl (WO.len rfl (WO.pure (v:=.slice (some ⟨r,0+k*2,some 1⟩) (k+1-k) (L.length-k)) (pv_slPmx rfl rfl rfl rfl (by omega) (by omega) (Nat.le_refl _) hkL) (WO.nil (zN ?_)))))))))
 refine WC.seq (WC.seq (WC.ops (WO.mv rfl (WO.mv rfl (WO.eqlS rfl rfl (fun h=>?_) (fun _=>?_))))))
 ·exfalso
  have h:k=k+1:=Int.ofNat.inj h
  omega
 refine WO.nil (zN (WC.cond_false rfl (WC.skip (zN (WC.seq (WC.ops (WO.mv rfl (WO.len rfl (WO.mv rfl (WO.nil (zN ?_)))))))))))
 -- what is behind it comes forward
 obtain⟨t1,ht1,hr1,ho1⟩:∃t1,(L.length-(k+1)=0∧(⟨[],t1,nx+8⟩:Mem Ar)=⟨[],tbl,nx+8⟩∨L.length-(k+1)≠0∧(⟨[],tbl,nx+8⟩:Mem Ar).store ⟨r,0+k*2,none⟩ ((lkC L).drop ((k+1)*2))=some ⟨[],t1,nx+8⟩)∧look r t1=some (.grown 2 67 (splice (lkC L) (k*2) ((lkC L).drop ((k+1)*2))))∧∀q,q≠r→look q t1=look q tbl:=by
  by_cases h:L.length-(k+1)=0
  ·refine⟨tbl,.inl ⟨h,rfl⟩,?_,fun _ _=>rfl⟩
   rw[List.drop_of_length_le (by omega:(lkC L).length≤(k+1)*2),splice_eq _ _ _ (by show _+0≤_;omega),List.append_nil]
   show _=some (AObj.grown 2 _ ((lkC L).take (k*2)++(lkC L).drop (k*2)))
   rw[List.take_append_drop]
   exact hr
  ·refine⟨upd r (.grown 2 67 (splice (lkC L) (k*2) ((lkC L).drop ((k+1)*2)))) tbl,.inr ⟨h,?_⟩,zS hr,fun q hq=>zU hq⟩
   rw[Nat.zero_add]
   exact mem_store hr rfl (by rw[List.length_drop];omega) rfl
 have hsp:splice (lkC L) (k*2) ((lkC L).drop ((k+1)*2))=(lkC (L.eraseIdx k))++(lkC L).drop ((L.length-1)*2):=by
  rw[splice_eq _ _ _ (by rw[List.length_drop];omega),eraseIdx_split,lkC_app,lkC_take,lkC_drop,← lkC_drop L (k+1)]
  congr 2
  rw[List.length_drop]
  omega
 have hel:(L.eraseIdx k).length=L.length-1:=by rw[List.length_eraseIdx_of_lt hkL]
 refine WC.seq (WC.drawnW ?_)
 show WD _ _ nx _ _ _ _ ⟨[],[⟨[],tbl,nx+8⟩],[],[],[]⟩ _
 refine WD.pure (v:=.slice (some ⟨r,0,none⟩) L.length L.length) (evOut rfl rfl rfl) (WD.pure (v:=vI k) (evOut rfl rfl rfl) (WD.pure (v:=.slice (some ⟨r,0+0*2,none⟩) (k-0) (L.length-0)) (pv_slPhi rfl rfl (by omega)) ?_))
 refine WD.pure (v:=.slice (some ⟨r,0,none⟩) L.length L.length) (evOut rfl rfl rfl) (WD.pure (v:=vI (k+1)) (evOut rfl rfl rfl) (WD.pure (v:=tailV r (k+1) L.length) (pv_tail rfl rfl (by omega) (by omega)) ?_))
 refine WD.chn (m:=⟨[],tbl,nx+8⟩) (m':=⟨[],t1,nx+8⟩) (v:=.slice (some ⟨r,0,none⟩) (k+(L.length-(k+1))) L.length) rfl rfl rfl (estep_appM1 (m:=⟨[],tbl,nx+8⟩) (k:=k) (l:=L.length) rfl rfl (src_tail (by omega) hr rfl hcl) hr hcl (by rw[List.length_drop];omega) (by omega) ht1) (WD.pure (v:=.slice (some ⟨r,0,none⟩) (k+(L.length-(k+1))) L.length) rfl (WD.nil ⟨rfl,_,_,rfl,?_⟩))
 rw[show k+(L.length-(k+1))=L.length-1 by omega]
 refine zN ?_
 show WC _ _ _ _ ⟨[],t1,nx+8⟩ _
 have hlen:(splice (lkC L) (k*2) ((lkC L).drop ((k+1)*2))).length=L.length*2:=by rw[splice_length (by rw[List.length_drop];omega),hcl]
 refine WC.seq (WC.ops (WO.mv rfl (WO.mv rfl (WO.len rfl (WO.mv rfl (WO.pure (v:=.slice (some ⟨r,0+(L.length-1)*2,none⟩) (L.length-(L.length-1)) (L.length-(L.length-1))) (pv_slPlh rfl rfl rfl (by omega) (Nat.le_refl _) (by omega)) ?_))))))
 have hst:(⟨[],t1,nx+8⟩:Mem Ar).store ⟨r,0+(L.length-1)*2,none⟩ (rows (L.length-(L.length-1)) zz2)=some ⟨[],upd r (.grown 2 67 (lkC (L.eraseIdx k)++zz2)) t1,nx+8⟩:=by
  rw[show L.length-(L.length-1)=1 by omega]
  refine mem_store hr1 rfl (by rw[hlen];show 0+(L.length-1)*2+2≤_;omega) ?_
  rw[hsp,Nat.zero_add]
  show some (AObj.grown 2 _ (splice _ _ zz2))=_
  have hl1:(lkC (L.eraseIdx k)).length=(L.length-1)*2:=by rw[lkC_len,hel]
  have hl2:((lkC L).drop ((L.length-1)*2)).length=2:=by rw[List.length_drop];omega
  rw[splice_end (by rw[List.length_append,hl1,hl2];rfl),List.take_append_of_le_length (by omega),List.take_of_length_le (by omega)]
 refine WO.step (i:=.clear none 2 zz2 (.t 31)) (v:=.tuple ⟨[]⟩) (m':=⟨[],upd r (.grown 2 67 (lkC (L.eraseIdx k)++zz2)) t1,nx+8⟩) (estep_clear rfl (by omega) hst) (WO.nil (zN ?_))
 refine WC.seq (WC.ops (WO.mv rfl (WO.mv rfl (WO.nil (zN (WC.ret ?_))))))
 exact⟨_,_,rfl,rfl,rfl,zS hr1,by show nx≤nx+8;omega,fun q hq _=>(zU hq).trans (ho1 q hq)⟩
end Go.AI
/- Links: Drop, walked. -/
namespace Go.AI
open Go.Proofs
variable {x:Ar}{tbl t' t'':List (Nat×AObj Ar)}{nx n' n'' j a s i w z p P off lo k r:Nat}{L:List (Nat×Nat)}
theorem idxF_some:∀(L:List (Nat×Nat)) (i:Nat),(L.any fun c=>decide (c.1=w))=true→∃k,k<L.length∧idxF w L i = .ofNat (i+k)
 |[],_,h=>by simp at h
 |c::r,i,h=>by
  by_cases hc:c.1=w
  ·exact⟨0,by simp,if_pos hc⟩
  ·rw[List.any_cons,decide_eq_false hc,Bool.false_or] at h
   obtain⟨k,h1,h2⟩:=idxF_some r (i+1) h
   refine⟨k+1,by simpa using h1,?_⟩
   show(if c.1=w then _ else _)=_
   rw[if_neg hc,h2,show i+1+k=i+(k+1) by omega]
theorem idxF_none(h:(L.any fun c=>decide (c.1=w))=false):idxF w L i = .negSucc 0 :=
 idxF_no L i fun c hc e=>by
  have:(L.any fun c=>decide (c.1=w))=true:=List.any_eq_true.2 ⟨c,hc,decide_eq_true e⟩
  rw[h] at this;cases this
def delK(L:List (Nat×Nat))(w:Nat):List (Nat×Nat):=L.eraseIdx (idxF w L 0).toNat
structure WHk6(hk:List (HookF Ar)):Prop extends WHk5 hk where
 del:hookL hk 48=none
 drop:hookL hk 22=none
def dropP(P off s w:Nat):Nat:=layP off (zP P off (s / 16*16)) 0 (delK (pgL P off (s / 16) 0) w)
theorem pgL_len{P off:Nat}:∀(n i:Nat),(pgL P off n i).length≤n
 |0,_=>Nat.le_refl _
 |n+1,i=>by
  unfold pgL
  split
  ·exact Nat.zero_le _
  ·exact Nat.succ_le_succ (pgL_len n (i+1))
theorem drop_run{hk:List (HookF Ar)}(hh:WHk6 hk){n:Nat}(hn:106≤n)(hl:look j tbl=some (.ext x))(hj:j<nx)(hx:x.refuse<9223372036854775808)(hp:pgAt x.pages p=some P)(ho:off+s≤4096)(ha:4096*p+4096<4611686018427387904)(hs:s≤1600) :
  ∃u h',RW hk (n+6) 22 [vW j (4096*p+off) s,.int .u64 (.ofNat w)] ⟨tbl,nx⟩=some (u,h')∧(u=errV (if((pgL P off (s / 16) 0).any fun c=>decide (c.1=w))=true then 0 else 8)∧Kx j tbl nx h'.tbl h'.next∧look j h'.tbl=some (.ext (if((pgL P off (s / 16) 0).any fun c=>decide (c.1=w))=true then pX x p (dropP P off s w) else x))):=by
 have hlk:lks x (4096*p+off) (s / 16) 0=pgL P off (s / 16) 0:=lks_pg hp _ _ (by omega)
 have hv:bytesE x (.ofNat (4096*p+off)) (.ofNat s)=0:=bytesE_in hp ho
 refine run_fn hh.drop fKDrop (zL rfl) ?_
 dsimp only[iKDrop,argsE]
 have K0:Kq tbl nx ((nx,AObj.cells [.pointer (some ⟨j,0,none⟩),vI (4096*p+off),vI s])::tbl) (nx+1):=Kq.refl.cons (Nat.le_refl _) (Nat.le_succ _)
 refine WC.seq (WC.ops (WO.box (v:=vW j (4096*p+off) s) (cs:=[.pointer (some ⟨j,0,none⟩),vI (4096*p+off),vI s]) rfl rfl (WO.mv rfl (WO.nil (zN ?_)))))
 have c0:look nx ((nx,AObj.cells [.pointer (some ⟨j,0,none⟩),vI (4096*p+off),vI s])::tbl)=some (.cells [.pointer (some ⟨j,0,none⟩),vI (4096*p+off),vI s]):=by rw[zC,if_pos rfl]
 generalize((nx,AObj.cells [.pointer (some ⟨j,0,none⟩),vI (4096*p+off),vI s])::tbl)=T at K0 c0 ⊢
 refine WC.seq (WC.seq (WC.ops (WO.fadd rfl (WO.fadd rfl (WO.load (ob:=.cells [.pointer (some ⟨j,0,none⟩),vI (4096*p+off),vI s]) (v:=.pointer (some ⟨j,0,none⟩)) rfl c0 rfl rfl rfl (WO.pure (v:=.bool false) rfl (WO.nil (zN (WC.cond_false rfl (WC.skip (zN ?_)))))))))))
 refine WC.seq (WC.ops (WO.load (ob:=.cells [.pointer (some ⟨j,0,none⟩),vI (4096*p+off),vI s]) (v:=vW j (4096*p+off) s) rfl c0 rfl rfl rfl ?_))
 refine WO.fcall_ex (vs:=[vW j (4096*p+off) s]) rfl rfl (allk_run (n:=n+2) hh.toWHk (by omega) ((K0.2 j hj).trans hl) (by show j<nx+1;omega) hx hv (by omega) hs) ?_
 rintro u ⟨t2,n2⟩ ⟨hR,k2⟩
 rw[hlk] at hR
 dsimp only at hR k2
 have hp0:∀c,c∈pgL P off (s / 16) 0→c.1≠0∧c.1<18446744073709551616∧c.2<18446744073709551616:=fun c hc=>pgL_mem hc
 have hm:(pgL P off (s / 16) 0).length≤s / 16:=pgL_len _ _
 generalize hLd:pgL P off (s / 16) 0=L at hR hp0 hm ⊢
 have hL100:L.length≤100:=by omega
 have K2:Kq tbl nx t2 n2:=K0.trans k2
 have d0:look nx t2=_:=(k2.2 nx (Nat.lt_succ_self nx)).trans c0
 have g2:nx+1≤n2:=k2.1
 refine WO.mv rfl (WO.nil (zN (WC.seq (WC.ops (WO.mv rfl (WO.mv rfl ?_))))))
 refine WO.fcall_ex (vs:=[u,.int .u64 (.ofNat w)]) rfl rfl (of_run (n:=n+2) (lo:=nx+1) hh.toWHk2 (by omega) hL100 hR) ?_
 rintro u3 ⟨t3,n3⟩ ⟨rfl,k3⟩
 dsimp only at k3
 have K3:Kq tbl nx t3 n3:=K2.trans k3
 have e0:look nx t3=_:=(k3.2 nx (by show nx<n2;omega)).trans d0
 have g3:n2≤n3:=k3.1
 refine WO.mv rfl (WO.nil (zN ?_))
 cases hany:L.any fun c=>decide (c.1=w) with
 |false =>
  rw[idxF_none hany]
  refine WC.seq (WC.seq (WC.ops (WO.mv rfl (WO.lssS rfl rfl (fun _=>?_) (fun h=>absurd (by decide) h)))))
  refine WO.nil (zN (WC.cond_true rfl (WC.seq (WC.ops (WO.mv rfl (WO.nil (zN (WC.ret (thenC_ret ?_)))))))))
  exact⟨_,_,rfl,rfl,rfl,K3.toX,(K3.2 j hj).trans hl⟩
 |true =>
  obtain⟨k,hk,hidx⟩:=idxF_some (w:=w) L 0 hany
  rw[hidx,Nat.zero_add]
  have hdk:delK L w=L.eraseIdx k:=by
   unfold delK
   rw[hidx,Nat.zero_add];rfl
  have hdl:(delK L w).length=L.length-1:=by rw[hdk,List.length_eraseIdx_of_lt hk]
  refine WC.seq (WC.seq (WC.ops (WO.mv rfl (WO.lssS rfl rfl (fun h=>?_) (fun _=>?_)))))
  ·exfalso
   simp only[zO] at h
   omega
  refine WO.nil (zN (WC.cond_false rfl (WC.skip (zN (WC.seq (WC.drawnW ?_))))))
  show WD _ _ n3 _ _ _ _ ⟨[],[⟨[],t3,n3+7⟩],[],[],[]⟩ _
  rcases hR with⟨hL0,_⟩|⟨_,r,hr1,hr2,rfl,hr4⟩
  ·rw[hL0] at hk;simp at hk
  have hr5:look r t3=some (.grown 2 67 (lkC L)):=(k3.2 r hr2).trans hr4
  obtain⟨u4,⟨t4,n4⟩,r4,rfl,hd1,hd2,hd3⟩:=del_run (nx:=n3+7) (n:=n+4) hh.del hk (by omega) hr5 (by omega)
  dsimp only at r4 hd1 hd2 hd3
  have hjr:j≠r:=fun e=>by
   have:=(K3.2 j hj).trans hl
   rw[e,hr5] at this;cases this
  have hnr:nx≠r:=by omega
  have f0:look nx t4=_:=(hd3 nx hnr (by omega)).trans e0
  obtain⟨u5,⟨t5,n5⟩,r5,k5,l5⟩:=lay_run (n:=n+2) (tbl:=t4) (nx:=n4) (v:=.slice (some ⟨r,0,none⟩) (L.length-1) L.length) (L:=delK L w) hh.toWHk3 (by omega) ((hd3 j hjr (by have:=K3.1;omega)).trans ((K3.2 j hj).trans hl)) (by have:=K3.1;omega) hx hp ho ha hs (by rw[hdl];omega) (fun c hc=>by
   rw[hdk] at hc
   exact(hp0 c (List.mem_of_mem_eraseIdx hc)).2) ⟨some ⟨r,0,none⟩,L.length,by rw[hdl],fun _=>⟨r,zz2,by omega,rfl,by rw[hdk];exact hd1⟩⟩
  dsimp only at r5 k5 l5
  have h0:look nx t5=_:=(k5.2 nx (by omega) (by omega)).trans f0
  have lv:∀m t,look nx t=some (.cells [.pointer (some ⟨j,0,none⟩),vI (4096*p+off),vI s])→(⟨[],t,m⟩:Mem Ar).load ⟨nx,0,none⟩ 3=some [.pointer (some ⟨j,0,none⟩),vI (4096*p+off),vI s]:=fun m t h=>mem_load h rfl rfl
  refine WD.load (m:=⟨[],t3,n3+7⟩) (ms:=[]) (v:=vW j (4096*p+off) s) (evOut rfl rfl rfl) (lv _ _ e0) rfl ?_
  refine WD.pure (v:=.slice (some ⟨r,0,none⟩) L.length L.length) (evOut rfl rfl rfl) (WD.pure (v:=vI k) (evOut rfl rfl rfl) (WD.pure (v:=vI k) (evOut rfl rfl rfl) (WD.pure (v:=vI (k+1)) (pv_addN rfl rfl (by omega)) ?_)))
  refine WD.chn (m:=⟨[],t3,n3+7⟩) (m':=⟨[],t4,n4⟩) (v:=.slice (some ⟨r,0,none⟩) (L.length-1) L.length) rfl rfl rfl (estep_call (m:=⟨[],t3,n3+7⟩) (h:=⟨t4,n4⟩) (vs:=[.slice (some ⟨r,0,none⟩) L.length L.length,vI k,vI (k+1)]) rfl rfl r4) ?_
  refine WD.chn (m:=⟨[],t4,n4⟩) (m':=⟨[],t5,n5⟩) (v:=u5) rfl rfl rfl (estep_call (m:=⟨[],t4,n4⟩) (h:=⟨t5,n5⟩) (vs:=[vW j (4096*p+off) s,.slice (some ⟨r,0,none⟩) (L.length-1) L.length]) rfl rfl r5) (WD.nil ⟨?_,_,_,rfl,?_⟩)
  ·simp only[heldAll,loadsIn,lv _ _ e0,lv _ _ f0,lv _ _ h0,ceqs_vw]
   rfl
  refine zN (WC.seq (WC.ops (WO.mv rfl (WO.nil (zN (WC.ret ?_))))))
  have KZ:Kx j tbl nx t5 n5:=⟨by have:=k5.1;omega,fun q hq hqj=>by
   rw[k5.2 q (by omega) hqj,hd3 q (by omega) (by omega)]
   exact K3.2 q hq⟩
  refine⟨_,_,rfl,rfl,rfl,KZ,?_⟩
  unfold dropP
  rw[hLd]
  exact l5
end Go.AI
