/- A tree tells what the document says: the walk. -/
import Derived.Test.YtodcomgkpifpfaaGreatDoorKRf
import Derived.Test.YtodcomgkpifpfaaGreatDoorKLa
import Derived.Test.YtodcomgkpifpfaaGreatDoorKAs
import Derived.Test.YtodcomgkpifpfaaGreatDoorKRi
set_option maxRecDepth 4000
namespace Go.AI
open Go.Proofs
open Go.Fo (Wd Un Pre)
variable {x:Ar}{S:List Nat}{off ka tb:Nat}{acts:List Value}{tbl t' t'':List (Nat×AObj Ar)}{nx n' n'' lo:Nat}
theorem Lw.kp(F:Lw S off acts ka tb tbl nx x)(K:Kp tbl nx t' n'):Lw S off acts ka tb t' n' x:=by
 have a:=F.h1
 have b:=F.h2
 have c:=F.h3
 exact⟨(K.2 _ (by omega)).trans F.l0,(K.2 _ (by omega)).trans F.li,(K.2 _ (by omega)).trans F.lb,(K.2 _ (by omega)).trans F.lr,(K.2 _ (by omega)).trans F.la,(K.2 _ (by omega)).trans F.lt,a,b,Nat.lt_of_lt_of_le c K.1⟩
structure Lv(q:B3)(S:List Nat)(ka:Nat)(rr rb rr' rb':List Value)(tbl:List (Nat×AObj Ar))(nx:Nat)(x:Ar):Prop where
 li:look q.i tbl=some (.ext x)
 lb:look q.b tbl=some (.cells (.pointer (some ⟨q.i,0,none⟩)::rb))
 lr:look q.r tbl=some (.cells (.pointer (some ⟨q.b,0,none⟩)::rr))
 la:look ka tbl=some (.grown 1 3 (S.map nI))
 hi:q.i<nx
 hb:q.b<nx
 hr:q.r<nx
 hka:ka<nx
 cr:can3Fs q rr=some rr'
 cb:can3Fs q rb=some rb'
 ne1:q.r≠q.b
 ne2:q.r≠q.i
abbrev trV(q:B3):Value:=.agg ⟨[.pointer (some ⟨q.r,0,none⟩)]⟩
section
variable {q:B3}{rr rb rr' rb':List Value}
theorem Lv.kp(F:Lv q S ka rr rb rr' rb' tbl nx x)(K:Kp tbl nx t' n'):Lv q S ka rr rb rr' rb' t' n' x :=
 ⟨(K.2 _ F.hi).trans F.li,(K.2 _ F.hb).trans F.lb,(K.2 _ F.hr).trans F.lr,(K.2 _ F.hka).trans F.la,Nat.lt_of_lt_of_le F.hi K.1,Nat.lt_of_lt_of_le F.hb K.1,Nat.lt_of_lt_of_le F.hr K.1,Nat.lt_of_lt_of_le F.hka K.1,F.cr,F.cb,F.ne1,F.ne2⟩
theorem Lv.c1(F:Lv q S ka rr rb rr' rb' tbl nx x)(a:Nat):can3L q [trV q,vI a]=some [trC,vI a]:=by
 have e1:=beq_no F.ne1
 have e2:=beq_no F.ne2
 have e3:=Nat.beq_refl q.r
 simp only[can3L,can3V,can3Fs,can3F,e1,e2,e3,cond_false,cond_true]
theorem Lv.c2(F:Lv q S ka rr rb rr' rb' tbl nx x)(a b:Nat):can3L q [trV q,vI a,vI b]=some [trC,vI a,vI b]:=by
 have e1:=beq_no F.ne1
 have e2:=beq_no F.ne2
 have e3:=Nat.beq_refl q.r
 simp only[can3L,can3V,can3Fs,can3F,e1,e2,e3,cond_false,cond_true]
theorem Lw.lv(F:Lw S off acts ka tb tbl nx x):Lv qO S ka rrO rbO ((can3Fs qO rrO).getD []) ((can3Fs qO rbO).getD []) tbl nx x:=by
 have a:=F.h1
 have b:=F.h2
 have c:=F.h3
 exact⟨F.li,F.lb,F.lr,F.la,by show 2<nx;omega,by show 3<nx;omega,by show 241<nx;omega,by omega,rfl,rfl,by decide,by decide⟩
variable {F:Nat→Option IFn}{cl:Nat→Bool}{hk:Hook Ar}{n:Nat}{K:List (Nat×Value)→Mem Ar→Prop}{env:List (Nat×Value)}{l:List (Option (Nat×Bool)×IOp)}
theorem WO.rdV{d:Option Nat}{f:Opd}{xs:List Opd}{kf:Nat}{vs vs0:List Value}{v v0:Value}{spec:Spec}{spec0:List Value→Option Value}(H:Lv q S ka rr rb rr' rb' tbl nx x)(hx:x.refuse<9223372036854775808)
  (hs:spec x vs0=some (v0,x)) (hf:evo env f=some (.func (.func kf) #[] #[])) (hxs:evs env xs=some vs) (hh:hk kf=some (liftR spec spec0)) (h1:firstV vs=some q.r) (h2:can3L q vs=some vs0)
  (hb:back3V q v0=some v) (k:WO (run F cl hk (n+1)) l (putEnv d v env) ⟨[],tbl,nx⟩ K):WO (run F cl hk (n+1)) ((none,.call d f xs)::l) env ⟨[],tbl,nx⟩ K:=by
 refine .fcall (v:=v) (h:=⟨tbl,nx⟩) hf hxs ?_ k
 have he:vs++(#[]:Array Value).toList=vs:=List.append_nil vs
 have hl:liftR spec spec0 vs ⟨tbl,nx⟩=some (v,⟨upd q.i (.ext x) tbl,nx⟩):=liftR_at (q:=q) h1 (find3_at h1 H.lr H.lb H.li H.ne1) hx h2 H.cr H.cb hs hb
 rw[upd_self H.li] at hl
 rw[he,run_hook hh,hl]
theorem WO.rowV{d:Option Nat}{f:Opd}{xs:List Opd}{kf:Nat}{vs vs0:List Value}{spec:SpecL}{L:List Nat}(H:Lv q S ka rr rb rr' rb' tbl nx x)(hx:x.refuse<9223372036854775808)
  (hs:spec x vs0=some L) (hf:evo env f=some (.func (.func kf) #[] #[])) (hxs:evs env xs=some vs) (hh:hk kf=some (liftL 3 spec)) (h1:firstV vs=some q.r) (h2:can3L q vs=some vs0)
  (k:∀v tb' nb,KidV nx tb' nb v L→Kp tbl nx tb' nb→WO (run F cl hk (n+1)) l (putEnv d v env) ⟨[],tb',nb⟩ K):WO (run F cl hk (n+1)) ((none,.call d f xs)::l) env ⟨[],tbl,nx⟩ K:=by
 have he:vs++(#[]:Array Value).toList=vs:=List.append_nil vs
 have hl:liftL 3 spec vs ⟨tbl,nx⟩=some (rowOut 3 ⟨tbl,nx⟩ L):=liftL_at (q:=q) (find3_at h1 H.lr H.lb H.li H.ne1) hx h2 H.cr H.cb hs
 cases L with
 |nil =>
  refine .fcall (v:=.slice none 0 0) (h:=⟨tbl,nx⟩) hf hxs ?_ (k _ _ _ (.inl ⟨rfl,rfl⟩) Kp.refl)
  rw[he,run_hook hh,hl]
  rfl
 |cons y ys =>
  refine .fcall (v:=.slice (some ⟨nx,0,none⟩) (y::ys).length (y::ys).length) (h:=⟨(nx,.grown 1 3 ((y::ys).map nI))::tbl,nx+1⟩) hf hxs ?_ (k _ _ _ (.inr ⟨nx,Nat.le_refl _,Nat.lt_succ_self _,by simp,rfl,by rw[zC,if_pos rfl]⟩) (Kp.refl.cons (Nat.le_refl _) (Nat.le_succ _)))
  rw[he,run_hook hh,hl]
  rfl
end
theorem pv_neqB{env:List (Nat×Value)}{x y:Opd}{b:Bool}(hx:evo env x=some (.bool b))(hy:evo env y=some (.bool b)):peval env (.bin .neq .num x y)=some (.bool false):=by
 simp only[peval,hx,hy]
 cases b<;>rfl
noncomputable def hP(S:List Nat):List (HookF Ar):=(40,cloneH)::hL S
theorem noHk_hL:NoHk (hP S):=⟨rfl,rfl,rfl,rfl,rfl,rfl,rfl,rfl,rfl⟩
theorem kids_len(h:TW x S){a:Nat}(ha:a∈S):(kidsX x S a).length≤S.length :=
 Go.Fo.nodup_len _ _ ((depX_inv h).nd a ha) fun _ hy=>((depX_inv h).kid ha hy).1
theorem told_run(hS:S.length<800)(hnd:S.Nodup)(h:TW x S){q:B3}{rr rb rr' rb':List Value}(F:Lv q S ka rr rb rr' rb' tbl nx x){v:Value}(B:Bk lo tbl nx v (refN (wds x S) S (kidsX x S))){n:Nat}(hn:2001≤n) :
  ∃u h',RF1 (hP S) (n+3) 20 [trV q,v,.slice (some ⟨ka,0,none⟩) S.length S.length] ⟨tbl,nx⟩=some (u,h')∧(u = .bool true∧Kp tbl nx h'.tbl h'.next):=by
 have I:=depX_inv h
 have hh:=noHk_hL (S:=S)
 refine run_fn rfl fRTold (zL rfl) ?_
 dsimp only[iRTold,argsE]
 refine WC.seq (WC.ops (WO.box (v:=trV q) (cs:=[.pointer (some ⟨q.r,0,none⟩)]) rfl rfl (WO.mv rfl (WO.nil (zN (WC.seq (WC.seq (WC.ops (WO.mv rfl (WO.len rfl (WO.mv rfl (WO.nil (zN (WC.block ?_))))))))))))))
 have hb:look nx ((nx,AObj.cells [.pointer (some ⟨q.r,0,none⟩)])::tbl)=some (.cells [.pointer (some ⟨q.r,0,none⟩)]):=by rw[zC,if_pos rfl]
 have hKb:Kp tbl nx ((nx,AObj.cells [.pointer (some ⟨q.r,0,none⟩)])::tbl) (nx+1):=Kp.refl.cons (Nat.le_refl _) (Nat.le_succ _)
 have F0:=F.kp hKb
 have B0:=B.kp hKb
 generalize ht0:((nx,AObj.cells [.pointer (some ⟨q.r,0,none⟩)])::tbl)=t0 at hb hKb F0 B0 ⊢
 refine WC.loop (fun j e tb' nb=>∃qi,qi+j=S.length∧e 1=some v∧e 2=some (.slice (some ⟨ka,0,none⟩) S.length S.length)∧e 3=some (.pointer (some ⟨nx,0,none⟩))∧e 11=some (.slice (some ⟨ka,0,none⟩) S.length S.length)∧e 12=some (.int .i64 (Int.ofNat S.length))∧e 13=some (.int .i64 (Int.ofNat qi))∧Kp t0 (nx+1) tb' nb) (k:=S.length) (by omega)
  ⟨0,by omega,rfl,rfl,rfl,rfl,rfl,rfl,Kp.refl⟩ ?_
 rintro j e t1 n1 ⟨qi,hj,e1,e2,e3,e11,e12,e13,hK⟩
 dsimp only at e1 e2 e3 e11 e12 e13
 refine WC.seq (WC.ops (WO.lssS e13 e12 (fun hz=>?_) (fun hz=>?_)))
 ·have hq:qi<S.length:=by simp only[zO] at hz;omega
  obtain⟨a,ha⟩:∃a,S[qi]? = some a:=⟨S[qi],List.getElem?_eq_getElem hq⟩
  have haS:a∈S:=List.mem_of_getElem? ha
  obtain⟨i,hi,hf⟩:=refN_at (w:=wds x S) (kids:=kidsX x S) hnd haS
  have F1:=F0.kp hK
  have B1:=B0.kp hK
  have hbx:=(hK.2 nx (Nat.lt_succ_self _)).trans hb
  refine WO.nil (zN (WC.seq (WC.cond_true rfl (WC.skip (zN (WC.seq (WC.block (WC.seq (WC.ops ?_)))))))))
  refine WO.idxL e11 e13 rfl hq (WO.load rfl F1.la rfl (row_get ha) rfl (WO.mv rfl (WO.nil (zN (WC.seq (WC.seq (WC.ops ?_)))))))
  refine WO.load e3 hbx rfl rfl rfl (WO.mv rfl (WO.rdV F1 h.ref (h.par haS) rfl rfl rfl rfl (F1.c1 a) rfl (WO.mv e1 (WO.mv rfl ?_))))
  refine WO.fcall_ex (vs:=[v,vI a]) rfl rfl (parent_run hh.find hh.par (n:=n) (y:=(a,(wds x S).par a,kidsX x S a)) (by rw[refN_len];omega) (by omega) B1 hi hf) ?_
  rintro u ⟨t2,n2⟩ ⟨rfl,k2⟩
  have F2:=F1.kp k2
  have B2:=B1.kp k2
  have hK2:=hK.trans k2
  have hbx2:=(hK2.2 nx (Nat.lt_succ_self _)).trans hb
  refine WO.neqS rfl rfl (fun he=>absurd rfl he) (fun _=>WO.mv rfl ?_)
  refine WO.take rfl rfl (WO.load e3 hbx2 rfl rfl rfl (WO.take rfl rfl (WO.mv rfl (WO.take rfl rfl ?_))))
  refine WO.rowV F2 h.ref (h.kids haS) rfl rfl rfl rfl (F2.c1 a) (fun v3 t3 n3 kv3 k3=>?_)
  have F3:=F2.kp k3
  have B3:=B2.kp k3
  have hK3:=hK2.trans k3
  refine WO.take rfl rfl (WO.mv e1 (WO.take rfl rfl (WO.mv rfl (WO.take rfl rfl ?_))))
  refine WO.fcall_ex (vs:=[v,vI a]) rfl rfl (children_run hh.find hh.kids (n:=n) (y:=(a,(wds x S).par a,kidsX x S a)) (by rw[refN_len];omega) (by omega) B3 hi hf) ?_
  rintro v4 ⟨t4,n4⟩ ⟨kv4,k4⟩
  have B4:=B3.kp k4
  have hK4:=hK3.trans k4
  have F4:=F3.kp k4
  refine WO.take rfl rfl (WO.fcall_ex (vs:=[v3,v4]) rfl rfl (requal_run rfl (n:=n+1) (by have:=kids_len h haS;omega) (by omega) (kv3.kp k4) kv4) ?_)
  rintro u ⟨t5,n5⟩ ⟨rfl,k5⟩
  have B5:=B4.kp k5
  have hK5:=hK4.trans k5
  have F5:=F4.kp k5
  have hbx5:=(hK5.2 nx (Nat.lt_succ_self _)).trans hb
  refine WO.take rfl rfl (WO.pure rfl (WO.pure rfl (WO.mv rfl ?_)))
  refine WO.take rfl rfl (WO.load e3 hbx5 rfl rfl rfl (WO.take rfl rfl (WO.mv rfl (WO.take rfl rfl ?_))))
  refine WO.rowV F5 h.ref (h.down haS) rfl rfl rfl rfl (F5.c1 a) (fun v6 t6 n6 kv6 k6=>?_)
  have F6:=F5.kp k6
  have B6:=B5.kp k6
  have hK6:=hK5.trans k6
  have hpl:=pre_length I haS
  refine WO.take rfl rfl (WO.mv e1 (WO.take rfl rfl (WO.mv rfl (WO.take rfl rfl ?_))))
  refine WO.fcall_ex (vs:=[v,vI a]) rfl rfl (rdown_run hh I hS hnd S.length (n+1) a t6 n6 (by omega) (by omega) haS B6) ?_
  rintro v7 ⟨t7,n7⟩ ⟨kv7,k7⟩
  have B7:=B6.kp k7
  have hK7:=hK6.trans k7
  have F7:=F6.kp k7
  refine WO.take rfl rfl (WO.fcall_ex (vs:=[v6,v7]) rfl rfl (requal_run rfl (n:=n+1) (by omega) (by omega) (kv6.kp k7) kv7) ?_)
  rintro u ⟨t8,n8⟩ ⟨rfl,k8⟩
  have B8:=B7.kp k8
  have hK8:=hK7.trans k8
  have F8:=F7.kp k8
  have hbx8:=(hK8.2 nx (Nat.lt_succ_self _)).trans hb
  refine WO.take rfl rfl (WO.pure rfl (WO.pure rfl (WO.mv rfl ?_)))
  refine WO.take rfl rfl (WO.load e3 hbx8 rfl rfl rfl (WO.take rfl rfl (WO.mv rfl (WO.take rfl rfl ?_))))
  refine WO.rowV F8 h.ref (h.up haS) rfl rfl rfl rfl (F8.c1 a) (fun v9 t9 n9 kv9 k9=>?_)
  have F9:=F8.kp k9
  have B9:=B8.kp k9
  have hK9:=hK8.trans k9
  refine WO.take rfl rfl (WO.mv e1 (WO.take rfl rfl (WO.mv rfl (WO.take rfl rfl ?_))))
  refine WO.fcall_ex (vs:=[v,vI a]) rfl rfl (rup_run hh I hS hnd S.length (n+1) a t9 n9 (by omega) (by omega) haS B9) ?_
  rintro va ⟨ta,na⟩ ⟨kva,k10⟩
  have Ba:=B9.kp k10
  have hKa:=hK9.trans k10
  have Fa:=F9.kp k10
  refine WO.take rfl rfl (WO.fcall_ex (vs:=[v9,va]) rfl rfl (requal_run rfl (n:=n+1) (by rw[List.length_reverse];omega) (by omega) (kv9.kp k10) kva) ?_)
  rintro u ⟨tc,nc⟩ ⟨rfl,k11⟩
  have Bc:=Ba.kp k11
  have hKc:=hKa.trans k11
  have Fc:=Fa.kp k11
  refine WO.take rfl rfl (WO.pure rfl (WO.pure rfl (WO.nil (zN (WC.cond_false rfl (WC.skip (zN (WC.seq (WC.ops ?_)))))))))
  refine WO.mv e2 (WO.len rfl (WO.mv rfl (WO.nil (zN (WC.block ?_)))))
  refine WC.loop (fun j2 e tb' nb=>∃q2,q2+j2=S.length∧e 1=some v∧e 2=some (.slice (some ⟨ka,0,none⟩) S.length S.length)∧e 3=some (.pointer (some ⟨nx,0,none⟩))∧e 8=some (vI a)∧e 11=some (.slice (some ⟨ka,0,none⟩) S.length S.length)∧e 12=some (.int .i64 (Int.ofNat S.length))∧e 13=some (.int .i64 (Int.ofNat qi))∧e 54=some (.slice (some ⟨ka,0,none⟩) S.length S.length)∧e 55=some (.int .i64 (Int.ofNat S.length))∧e 56=some (.int .i64 (Int.ofNat q2))∧Kp t0 (nx+1) tb' nb) (k:=S.length) (by omega)
   ⟨0,by omega,e1,e2,e3,rfl,e11,e12,e13,rfl,rfl,rfl,hKc⟩ ?_
  clear e1 e2 e3 e11 e12 e13
  rintro j2 e td nd ⟨q2,hj2,e1,e2,e3,e8,e11,e12,e13,e54,e55,e56,hKd⟩
  dsimp only at e1 e2 e3 e8 e11 e12 e13 e54 e55 e56
  have Fd:=F0.kp hKd
  have Bd:=B0.kp hKd
  have hbxd:=(hKd.2 nx (Nat.lt_succ_self _)).trans hb
  refine WC.seq (WC.ops (WO.lssS e56 e55 (fun hz=>?_) (fun hz=>?_)))
  ·have hq2:q2<S.length:=by simp only[zO] at hz;omega
   obtain⟨top,htop⟩:∃a,S[q2]? = some a:=⟨S[q2],List.getElem?_eq_getElem hq2⟩
   have htS:top∈S:=List.mem_of_getElem? htop
   refine WO.nil (zN (WC.seq (WC.cond_true rfl (WC.skip (zN (WC.seq (WC.block (WC.seq (WC.ops ?_)))))))))
   refine WO.idxL e54 e56 rfl hq2 (WO.load rfl Fd.la rfl (row_get htop) rfl (WO.mv rfl (WO.nil (zN (WC.seq (WC.ops ?_))))))
   refine WO.load e3 hbxd rfl rfl rfl (WO.mv e8 (WO.mv rfl ?_))
   refine WO.rdV Fd h.ref (h.under haS htS (b:=decide (a∈Pre S (kidsX x S) top)) (by rw[decide_eq_true_iff];exact(I.un_iff htS haS).symm)) rfl rfl rfl rfl (Fd.c2 a top) rfl ?_
   refine WO.mv e1 (WO.mv e8 (WO.mv rfl ?_))
   refine WO.fcall_ex (vs:=[v,vI a,vI top]) rfl rfl (runder_run hh I hS hnd (n:=n) (a:=a) (top:=top) (by omega) htS Bd) ?_
   rintro u ⟨tf,nf⟩ ⟨rfl,kf⟩
   refine WO.pure (pv_neqB (b:=decide (a∈Pre S (kidsX x S) top)) rfl rfl) (WO.nil (zN (WC.cond_false rfl (WC.skip (zB (zN (WC.ops ?_)))))))
   refine WO.add e56 rfl (by simp only[zO];omega) (by simp only[zO];omega) (WO.mv rfl (WO.nil ?_))
   exact⟨j2-1,by omega,rfl,q2+1,by omega,e1,e2,e3,e8,e11,e12,e13,e54,e55,rfl,hKd.trans kf⟩
  ·refine WO.nil (zN (WC.seq (WC.cond_false rfl (WC.exit (thenC_exit (blockC_exit ?_))))))
   refine zB (zN (WC.ops ?_))
   refine WO.add e13 rfl (by simp only[zO];omega) (by simp only[zO];omega) (WO.mv rfl (WO.nil ?_))
   exact⟨j-1,by omega,rfl,qi+1,by omega,e1,e2,e3,e11,e12,rfl,hKd⟩
 ·refine WO.nil (zN (WC.seq (WC.cond_false rfl (WC.exit (thenC_exit (blockC_exit ?_))))))
  exact zN (WC.seq (WC.ops (WO.mv rfl (WO.nil (zN (WC.ret ⟨_,_,rfl,rfl,rfl,hKb.trans hK⟩))))))
end Go.AI
/- What of an arena stays whatever its trees do. -/
namespace Go.AI
open Go.Proofs
open Go.Fo (Wd Un Pre)
variable {x:Ar}{S:List Nat}
structure Bd(x:Ar):Prop where
 len:x.pages.length=30
 p0:∃P,pgAt x.pages 0=some P
 p1:∃P,pgAt x.pages 1=some P
 mg:loadV x (.ofNat 104) (.ofNat 8)=6432341300767115597
theorem Bd.stw(h:Bd x){b o v:Nat}(hb:NodeAt x b)(h1:40≤o)(h2:o+8≤80):Bd (stw x (b+o) v):=by
 obtain⟨q,Q,rfl,hq⟩:=hb.page
 obtain⟨P0,h0⟩:=h.p0
 obtain⟨P1,hp1⟩:=h.p1
 refine⟨?_,stw_there h0 hq (by omega),stw_there hp1 hq (by omega),?_⟩
 ·have:(AI.stw x (4096*q+o) v).pages.length=x.pages.length:=by
   unfold AI.stw
   rw[storeX_in hq (by omega) rfl (by decide)]
   exact setPg_len ..
  rw[this];exact h.len
 ·exact(stw_other (p:=0) (off:=104) (k:=8) h0 hq h1 h2 (by omega) (by omega) rfl (by omega)).trans h.mg
structure Bn(x:Ar)(S:List Nat):Prop where
 nds:Nds x S
 bd:Bd x
theorem Bn.stw(h:Bn x S){b o v:Nat}(hb:b∈S)(h1:40≤o)(h2:o+8≤80):Bn (AI.stw x (b+o) v) S:=⟨h.nds.stw hb h1 h2,h.bd.stw (h.nds.node b hb) h1 h2⟩
theorem Bn.addX(h:Bn x S){p c:Nat}(hp:p∈S)(hc:c∈S)(hl:InS S (wd x (p+56))):Bn (addX x p c) S:=by
 have n4:=(((h.stw (v:=p) hc (o:=40) (by decide) (by decide)).stw (v:=wd x (p+56)) hc (o:=72) (by decide) (by decide)).stw (v:=0) hc (o:=64) (by decide) (by decide)).stw (v:=c) hp (o:=56) (by decide) (by decide)
 unfold AI.addX
 dsimp only
 by_cases e:wd x (p+56)=0
 ·rw[if_pos e];exact n4.stw hp (by decide) (by decide)
 ·rw[if_neg e];exact n4.stw (hl.resolve_left e) (by decide) (by decide)
theorem Bn.cutX(h:Bn x S){c:Nat}(hc:c∈S)(hp:wd x (c+40)∈S)(hv:InS S (wd x (c+72)))(hn:InS S (wd x (c+64))):Bn (cutX x c) S:=by
 have tail:∀{y:Ar},Bn y S→Bn (AI.stw (AI.stw (AI.stw y (c+40) 0) (c+72) 0) (c+64) 0) S:=fun hy=>((hy.stw hc (by decide) (by decide)).stw hc (by decide) (by decide)).stw hc (by decide) (by decide)
 unfold AI.cutX
 dsimp only
 refine tail ?_
 have h1:Bn (if wd x (c+72)=0 then AI.stw x (wd x (c+40)+48) (wd x (c+64)) else AI.stw x (wd x (c+72)+64) (wd x (c+64))) S:=by
  split
  ·exact h.stw hp (by decide) (by decide)
  ·rename_i e;exact h.stw (hv.resolve_left e) (by decide) (by decide)
 split
 ·exact h1.stw hp (by decide) (by decide)
 ·rename_i e;exact h1.stw (hn.resolve_left e) (by decide) (by decide)
theorem TW.cutBd(h:TW x S)(b:Bd x){c:Nat}(hc:c∈S)(h0:wd x (c+40)≠0):Bd (cutX x c):=by
 have I:=depX_inv h
 have e0:(wds x S).par c=wd x (c+40):=wdS_in hc
 have e1:(wds x S).nxt c=wd x (c+64):=wdS_in hc
 have e2:(wds x S).prv c=wd x (c+72):=wdS_in hc
 have hp:=(I.par c hc (by rw[e0];exact h0)).1
 obtain⟨q1,q2⟩:=inv_nxt_in I hc (by rw[e0];exact h0)
 rw[e0] at hp
 rw[e1] at q1
 rw[e2] at q2
 exact(Bn.cutX ⟨h.nds,b⟩ hc hp q2 q1).bd
theorem TW.addBd(h:TW x S)(b:Bd x){p c:Nat}(hp:p∈S)(hc:c∈S):Bd (addX x p c):=by
 have e1:(wds x S).lst p=wd x (p+56):=wdS_in hp
 have hl:=inv_lst_in (depX_inv h) hp
 rw[e1] at hl
 exact(Bn.addX ⟨h.nds,b⟩ hp hc hl).bd
end Go.AI
/- The acts, done to both: the walk. -/
namespace Go.AI
open Go.Proofs
open Go.Fo (Wd Un Pre)
variable {x:Ar}{S:List Nat}{off ka tb:Nat}{acts:List Value}{tbl t' t'':List (Nat×AObj Ar)}{nx n' n'' lo:Nat}
theorem Bk.upd2{v:Value}{N:List NodeT}{x':Ar}(h:Bk lo tbl nx v N)(h2:look 2 tbl=some (.ext x)):Bk lo (upd 2 (.ext x') tbl) nx v N:=by
 have hne:∀k e T cs,look k tbl=some (AObj.grown e T cs)→look k (upd 2 (.ext x') tbl)=some (.grown e T cs):=by
  intro k e T cs hk
  have:k≠2:=fun e=>by rw[e,h2] at hk;cases hk
  rw[zU this];exact hk
 obtain⟨k,M,h0,h1,h3,h4,h5⟩:=h
 refine⟨k,M,h0,h1,h3,hne _ _ _ _ h4,h5.mono fun m n hm=>⟨hm.1,hm.2.1,?_⟩⟩
 rcases hm.2.2 with q|⟨c,c0,c1,c2,c3,c4⟩
 ·exact .inl q
 ·exact .inr ⟨c,c0,c1,c2,c3,hne _ _ _ _ c4⟩
theorem refN_congr{w:Wd}{k1 k2:Nat→List Nat}(h:∀a,a∈S→k1 a=k2 a):refN w S k1=refN w S k2 :=
 List.map_congr_left fun a ha=>by rw[h a ha]
theorem TW.cutB(h:TW x S){c:Nat}(hc:c∈S):∃e x',spTCut S x [trC,vI c]=some (errV e,x')∧TW x' S∧(Bd x→Bd x')∧((wds x S).par c=0∧e=8∧x'=x∨(wds x S).par c≠0∧e=0∧refN (wds x' S) S (kidsX x' S)=refN (Go.Fo.cutW (wds x S) c) S (Go.Fo.cutK (kidsX x S) ((wds x S).par c) c)):=by
 have hcc:TW x S∧c∈S:=⟨h,hc⟩
 have hp:(wds x S).par c=wd x (c+40):=wdS_in hc
 by_cases h0:wd x (c+40)=0
 ·exact⟨8,x,by simp only[spTCut,if_pos hcc,if_pos h0],h,id,.inl ⟨hp.trans h0,rfl,rfl⟩⟩
 ·obtain⟨q1,q2⟩:=h.cut hc h0
  refine⟨0,cutX x c,by simp only[spTCut,if_pos hcc,if_neg h0],q2,fun b=>h.cutBd b hc h0,.inr ⟨by rw[hp];exact h0,rfl,?_⟩⟩
  obtain⟨d',I'⟩:=(depX_inv h).cut hc (by rw[hp];exact h0)
  rw[← q1] at I' ⊢
  exact refN_congr fun a ha=>TW.kids_of I' ha
theorem TW.addB(h:TW x S){p c:Nat}(hp:p∈S)(hc:c∈S):∃e x',spTAdd S x [trC,vI p,vI c]=some (errV e,x')∧TW x' S∧(Bd x→Bd x')∧((wds x S).par c≠0∧e=9∧x'=x∨(wds x S).par c=0∧Un (wds x S) c p∧e=12∧x'=x∨(wds x S).par c=0∧¬Un (wds x S) c p∧e=0∧refN (wds x' S) S (kidsX x' S)=refN (Go.Fo.addW (wds x S) p c) S (Go.Fo.addK (kidsX x S) p c)):=by
 have hcc:TW x S∧p∈S∧c∈S:=⟨h,hp,hc⟩
 have hpp:(wds x S).par c=wd x (c+40):=wdS_in hc
 by_cases h0:wd x (c+40)=0
 ·by_cases hu:Un (wds x S) c p
  ·exact⟨12,x,by simp only[spTAdd,if_pos hcc,h0,ne_eq,not_true_eq_false,if_false,if_pos hu],h,id,.inr (.inl ⟨hpp.trans h0,hu,rfl,rfl⟩)⟩
  ·obtain⟨q1,q2⟩:=h.add hp hc h0 hu
   refine⟨0,addX x p c,by simp only[spTAdd,if_pos hcc,h0,ne_eq,not_true_eq_false,if_false,if_neg hu],q2,fun b=>h.addBd b hp hc,.inr (.inr ⟨hpp.trans h0,hu,rfl,?_⟩)⟩
   obtain⟨d',I'⟩:=(depX_inv h).add hp hc (hpp.trans h0) hu
   rw[← q1] at I' ⊢
   exact refN_congr fun a ha=>TW.kids_of I' ha
 ·exact⟨9,x,by simp only[spTAdd,if_pos hcc,ne_eq,h0,not_false_eq_true,if_true],h,id,.inl ⟨by rw[hpp];exact h0,rfl,rfl⟩⟩
end Go.AI
/- The acts, done to both: the loop. -/
namespace Go.AI
open Go.Proofs
open Go.Fo (Wd Un Pre)
variable {x:Ar}{S:List Nat}{off ka tb:Nat}{acts:List Value}{tbl t' t'':List (Nat×AObj Ar)}{nx n' n'' lo:Nat}
theorem loopP{n:Nat}(hn:2001≤n)(hS:S.length<800)(hnd:S.Nodup){l:List ActT}(hl:l.length≤60)(hu:∀a,a∈l→a.2.1<256∧a.2.2<256)(hSl:0<S.length)(h:TW x S)(F:Lw S off (actsC l) ka tb tbl nx x){e:List (Nat×Value)}{Q:Ex→List (Nat×Value)→Mem Ar→Prop}{cp:Nat}{ad:Option Addr}(had:l.length≠0→ad=some ⟨0,off,some 1⟩){w5 v:Value}{o9:AObj Ar}
  (hBd:Bd x) (l9:look 249 tbl=some o9) (B:Bk 0 tbl nx v (refN (wds x S) S (kidsX x S))) (e5:look 5 e=some w5) (e6:look 6 e=some (.slice (some ⟨ka,0,none⟩) S.length S.length)) (e8:look 8 e=some (.pointer (some ⟨tb,0,none⟩))) (e9:look 9 e=some v) (e39:look 39 e=some (.slice ad l.length cp)) (e40:look 40 e=some (vI l.length)) (e41:look 41 e=some (vI 0))
  (hQ:∀e' tbl' nx' x' v',look 5 e'=some w5→look 6 e'=some (.slice (some ⟨ka,0,none⟩) S.length S.length)→look 8 e'=some (.pointer (some ⟨tb,0,none⟩))→look 9 e'=some v'→TW x' S→Bd x'→look 249 tbl'=some o9→Lw S off (actsC l) ka tb tbl' nx' x'→Bk 0 tbl' nx' v' (refN (wds x' S) S (kidsX x' S))→Q .norm e' ⟨[],tbl',nx'⟩) :
  WC (RF1 (hP S) (n+3)) (n+3) cTreePlays0 e ⟨[],tbl,nx⟩ Q:=by
 have hh:=noHk_hL (S:=S)
 obtain⟨n0,rfl⟩:∃m,n=m+1:=⟨n-1,by omega⟩
 unfold cTreePlays0
 refine WC.block ?_
 refine WC.loop (fun j e tbl nx=>∃i x v,i+j=l.length∧e 5=some w5∧e 6=some (.slice (some ⟨ka,0,none⟩) S.length S.length)∧e 8=some (.pointer (some ⟨tb,0,none⟩))∧e 9=some v∧e 39=some (.slice ad l.length cp)∧e 40=some (vI l.length)∧e 41=some (vI i)∧TW x S∧Bd x∧look 249 tbl=some o9∧Lw S off (actsC l) ka tb tbl nx x∧Bk 0 tbl nx v (refN (wds x S) S (kidsX x S))) (k:=l.length) (by omega)
  ⟨0,x,v,by omega,e5,e6,e8,e9,e39,e40,e41,h,hBd,l9,F,B⟩ ?_
 clear e5 e6 e8 e9 e39 e40 e41 h hBd l9 F B
 rintro j e tbl nx ⟨i,x,v,hj,e5,e6,e8,e9,e39,e40,e41,h,hBd,l9,F,B⟩
 dsimp only at e5 e6 e8 e9 e39 e40 e41
 refine WC.seq (WC.ops (WO.lssS e41 e40 (fun hz=>?_) (fun hz=>?_)))
 ·have hi:i<l.length:=by simp only[zO] at hz;omega
  obtain⟨a,ha⟩:∃a,l[i]? = some a:=⟨l[i],List.getElem?_eq_getElem hi⟩
  obtain⟨u1,u2⟩:=hu a (List.mem_of_getElem? ha)
  obtain⟨ob,p1,p2⟩:=a
  refine WO.nil (zN (WC.seq (WC.cond_true rfl (WC.skip (zN (WC.seq (WC.block (WC.seq (WC.ops ?_)))))))))
  have e39':=e39
  rw[had (by omega)] at e39'
  refine WO.idxL e39' e41 rfl hi ?_
  refine WO.step (i:=.load 44 3 true (.t 43)) (v:=.agg ⟨actC (ob,p1,p2)⟩) (m':=⟨[],tbl,nx⟩) (by simp only[estep,mstep,evo,zC,if_true,win_load F.l0 ha];rfl) ?_
  refine WO.new (WO.step (i:=.store 3 (.t 11) (.t 44)) (v:=undef) (m':=⟨[],(nx,.cells (actC (ob,p1,p2)))::tbl,nx+1⟩) ?_ ?_)
  ·have hm:=mem_store (nx:=nx+1) (vs:=actC (ob,p1,p2)) (o:=0) (ob':=.cells (splice [.bool false,.int .u8 (.ofNat 0),.int .u8 (.ofNat 0)] 0 (actC (ob,p1,p2)))) (tbl:=(nx,.cells [.bool false,.int .u8 (.ofNat 0),.int .u8 (.ofNat 0)])::tbl) (i:=nx) (by rw[zC,if_pos rfl]) rfl (zL rfl) rfl
   rw[upd_head] at hm
   exact estep_store rfl rfl rfl rfl hm
  have hKb:Kp tbl nx ((nx,AObj.cells (actC (ob,p1,p2)))::tbl) (nx+1):=Kp.refl.cons (Nat.le_refl _) (Nat.le_succ _)
  have F1':=F.kp hKb
  have g9:249<nx+1+20:=by have:=F.h1;have:=F.h2;have:=F.h3;omega
  have l91:=(hKb.2 249 (by have:=F.h1;have:=F.h2;have:=F.h3;omega)).trans l9
  have B1':=B.kp hKb
  have hlk:look nx ((nx,AObj.cells (actC (ob,p1,p2)))::tbl)=some (.cells (actC (ob,p1,p2))):=by rw[zC,if_pos rfl]
  generalize ht1:((nx,AObj.cells (actC (ob,p1,p2)))::tbl)=t1 at F1' B1' hlk l91 ⊢
  have ld:∀(m k:Nat) (v:Value),takeN (actC (ob,p1,p2)) k 1=some [v]→(⟨[],t1,m⟩:Mem Ar).load ⟨nx,k,none⟩ 1=some [v]:=fun m k v hv=>mem_load hlk rfl hv
  have la:∀(m q y:Nat),S[q]? = some y→(⟨[],t1,m⟩:Mem Ar).load ⟨ka,0+q*1,none⟩ 1=some [nI y]:=fun m q y hq=>mem_load F1'.la rfl (row_get hq)
  have ixl:∀p,p % S.length<S.length:=fun p=>Nat.mod_lt _ hSl
  have ix:∀p,∃y,S[p % S.length]? = some y:=fun p=>⟨S[p % S.length]'(ixl p),List.getElem?_eq_getElem _⟩
  obtain⟨y1,hy1⟩:=ix p1
  obtain⟨y2,hy2⟩:=ix p2
  have m1:y1∈S:=List.mem_of_getElem? hy1
  have m2:y2∈S:=List.mem_of_getElem? hy2
  have ld1:=fun m=>ld m (0+1) (.int .u8 (.ofNat p1)) rfl
  have ld2:=fun m=>ld m (0+2) (.int .u8 (.ofNat p2)) rfl
  have la1:=fun m=>la m _ _ hy1
  have la2:=fun m=>la m _ _ hy2
  have ci:∀y,ceqs [nI y] [nI y]=true:=fun y=>ceqs_int _ _
  have cu:∀p,ceqs [Value.int .u8 (.ofNat p)] [Value.int .u8 (.ofNat p)]=true:=fun y=>ceqs_int _ _
  refine WO.nil (zN (WC.seq (WC.drawnW ?_)))
  refine WD.pure (ev_out e6 rfl rfl) (WD.pure (pv_faddZ (ev_out (v:=.pointer (some ⟨nx,0,none⟩)) rfl rfl rfl)) (WD.load rfl (ld _ _ (.int .u8 (.ofNat p1)) rfl) rfl (WD.pure (pv_conv rfl u1) ?_)))
  refine WD.pure (ev_out e6 rfl rfl) (WD.pure (pv_len rfl) (WD.pure (pv_rem rfl rfl hSl) (WD.pure (pv_idxZ rfl rfl rfl (ixl p1)) (WD.load rfl (la _ _ _ hy1) rfl ?_))))
  refine WD.pure (ev_out e6 rfl rfl) (WD.pure (pv_faddZ (ev_out (v:=.pointer (some ⟨nx,0,none⟩)) rfl rfl rfl)) (WD.load rfl (ld _ _ (.int .u8 (.ofNat p2)) rfl) rfl (WD.pure (pv_conv rfl u2) ?_)))
  refine WD.pure (ev_out e6 rfl rfl) (WD.pure (pv_len rfl) (WD.pure (pv_rem rfl rfl hSl) (WD.pure (pv_idxZ rfl rfl rfl (ixl p2)) (WD.load rfl (la _ _ _ hy2) rfl ?_))))
  refine WD.pure rfl (WD.pure rfl (WD.nil ⟨?_,_,_,rfl,?_⟩))
  ·simp only[heldAll,loadsIn,ld1,ld2,la1,la2,ci,cu]
   rfl
  refine zN (WC.seq (WC.ops (WO.mv (m:=⟨[],t1,nx+1+20⟩) rfl (WO.nil (zN (WC.seq (WC.ops (WO.mv rfl (WO.nil (zN (WC.seq (WC.seq (WC.ops ?_)))))))))))))
  have hKd:Kp t1 (nx+1) t1 (nx+1+20):=Kp.refl.up (Nat.le_add_right _ _)
  have F2:=F1'.kp hKd
  have B2:=B1'.kp hKd
  refine WO.fadd rfl (WO.load rfl hlk rfl rfl rfl ?_)
  have I:=depX_inv h
  cases ob with
  |true =>
   obtain⟨er,x',hs,hT',hBd',hcase⟩:=h.cutB m1
   have F3:=F2.set (x':=x') (Nat.lt_of_lt_of_le F2.h3 (Nat.le_refl _))
   have B3:=B2.upd2 (x':=x') F2.li
   refine WO.nil (zN (WC.cond_true rfl (WC.seq (WC.ops (WO.load e8 F2.lt rfl rfl rfl (WO.mv rfl ?_))))))
   refine WO.fcall (m:=(⟨[],t1,nx+1+20⟩:Mem Ar)) (v:=errV er) (h:=(⟨upd 2 (AObj.ext x') t1,nx+1+20⟩:Hp Ar)) (vs:=[trO,vI y1]) rfl rfl (call_O (hk:=hookL (hP S)) F2 h.ref hs rfl rfl rfl rfl) ?_
   refine WO.mv rfl (WO.nil (zN (WC.ops (WO.mv e9 (WO.mv rfl ?_)))))
   refine WO.fcall_ex (vs:=[v,vI y1]) rfl rfl (rcut_run hh I hS hnd (n:=n0+2) (c:=y1) (by omega) m1 B3) ?_
   rintro u ⟨tc,nc⟩ ⟨hR,kc⟩
   rcases hR with⟨c0,rfl⟩|⟨c0,v',rfl,B4⟩
   ·obtain⟨_,rfl,rfl⟩:=hcase.resolve_right fun q=>q.1 c0
    refine WO.mv rfl (WO.pure rfl (WO.pure rfl (WO.mv rfl (WO.mv rfl ?_))))
    refine WO.nil (zN (WC.seq (WC.ops (WO.mv rfl (WO.mv rfl (WO.pure (pv_neqR (a:=8) rfl rfl) (WO.nil (zN (WC.cond_false rfl (WC.skip (zB (zN (WC.ops ?_)))))))))))))
    refine WO.add e41 rfl (by simp only[zO];omega) (by simp only[zO];omega) (WO.mv rfl (WO.nil ?_))
    exact⟨j-1,by omega,rfl,i+1,_,_,by omega,e5,e6,e8,rfl,e39,e40,rfl,hT',hBd' hBd,(kc.2 249 g9).trans ((zU (by decide)).trans l91),(F2.set (Nat.lt_of_lt_of_le F2.h3 (Nat.le_refl _))).kp kc,B3.kp kc⟩
   ·obtain⟨_,rfl,hr⟩:=hcase.resolve_left fun q=>c0 q.1
    refine WO.mv rfl (WO.pure rfl (WO.pure rfl (WO.mv rfl (WO.mv rfl ?_))))
    refine WO.nil (zN (WC.seq (WC.ops (WO.mv rfl (WO.mv rfl (WO.pure (pv_neqR (a:=0) rfl rfl) (WO.nil (zN (WC.cond_false rfl (WC.skip (zB (zN (WC.ops ?_)))))))))))))
    refine WO.add e41 rfl (by simp only[zO];omega) (by simp only[zO];omega) (WO.mv rfl (WO.nil ?_))
    exact⟨j-1,by omega,rfl,i+1,x',_,by omega,e5,e6,e8,rfl,e39,e40,rfl,hT',hBd' hBd,(kc.2 249 g9).trans ((zU (by decide)).trans l91),(F2.set (Nat.lt_of_lt_of_le F2.h3 (Nat.le_refl _))).kp kc,hr▸B4⟩
  |false =>
   obtain⟨er,x',hs,hT',hBd',hcase⟩:=h.addB m2 m1
   have F3:=F2.set (x':=x') (Nat.lt_of_lt_of_le F2.h3 (Nat.le_refl _))
   have B3:=B2.upd2 (x':=x') F2.li
   refine WO.nil (zN (WC.cond_false rfl (WC.seq (WC.ops (WO.load e8 F2.lt rfl rfl rfl (WO.mv rfl (WO.mv rfl ?_)))))))
   refine WO.fcall (m:=(⟨[],t1,nx+1+20⟩:Mem Ar)) (v:=errV er) (h:=(⟨upd 2 (AObj.ext x') t1,nx+1+20⟩:Hp Ar)) (vs:=[trO,vI y2,vI y1]) rfl rfl (call_O (hk:=hookL (hP S)) F2 h.ref hs rfl rfl rfl rfl) ?_
   refine WO.mv rfl (WO.nil (zN (WC.ops (WO.mv e9 (WO.mv rfl (WO.mv rfl ?_))))))
   refine WO.fcall_ex (vs:=[v,vI y2,vI y1]) rfl rfl (radd_run hh I hS hnd (n:=n0+1) (p:=y2) (c:=y1) (by omega) m2 m1 B3) ?_
   rintro u ⟨tc,nc⟩ ⟨hR,kc⟩
   rcases hR with⟨c0,rfl⟩|⟨c0,c1,rfl⟩|⟨c0,c1,v',rfl,B4⟩
   ·obtain⟨_,rfl,rfl⟩:=hcase.resolve_right fun q=>q.elim (fun q=>c0 q.1) (fun q=>c0 q.1)
    refine WO.mv rfl (WO.pure rfl (WO.pure rfl (WO.mv rfl (WO.mv rfl ?_))))
    refine WO.nil (zN (WC.seq (WC.ops (WO.mv rfl (WO.mv rfl (WO.pure (pv_neqR (a:=9) rfl rfl) (WO.nil (zN (WC.cond_false rfl (WC.skip (zB (zN (WC.ops ?_)))))))))))))
    refine WO.add e41 rfl (by simp only[zO];omega) (by simp only[zO];omega) (WO.mv rfl (WO.nil ?_))
    exact⟨j-1,by omega,rfl,i+1,_,_,by omega,e5,e6,e8,rfl,e39,e40,rfl,hT',hBd' hBd,(kc.2 249 g9).trans ((zU (by decide)).trans l91),(F2.set (Nat.lt_of_lt_of_le F2.h3 (Nat.le_refl _))).kp kc,B3.kp kc⟩
   ·obtain⟨_,_,rfl,rfl⟩:=(hcase.resolve_left fun q=>q.1 c0).resolve_right fun q=>q.2.1 c1
    refine WO.mv rfl (WO.pure rfl (WO.pure rfl (WO.mv rfl (WO.mv rfl ?_))))
    refine WO.nil (zN (WC.seq (WC.ops (WO.mv rfl (WO.mv rfl (WO.pure (pv_neqR (a:=12) rfl rfl) (WO.nil (zN (WC.cond_false rfl (WC.skip (zB (zN (WC.ops ?_)))))))))))))
    refine WO.add e41 rfl (by simp only[zO];omega) (by simp only[zO];omega) (WO.mv rfl (WO.nil ?_))
    exact⟨j-1,by omega,rfl,i+1,_,_,by omega,e5,e6,e8,rfl,e39,e40,rfl,hT',hBd' hBd,(kc.2 249 g9).trans ((zU (by decide)).trans l91),(F2.set (Nat.lt_of_lt_of_le F2.h3 (Nat.le_refl _))).kp kc,B3.kp kc⟩
   ·obtain⟨_,_,rfl,hr⟩:=(hcase.resolve_left fun q=>q.1 c0).resolve_left fun q=>c1 q.2.1
    refine WO.mv rfl (WO.pure rfl (WO.pure rfl (WO.mv rfl (WO.mv rfl ?_))))
    refine WO.nil (zN (WC.seq (WC.ops (WO.mv rfl (WO.mv rfl (WO.pure (pv_neqR (a:=0) rfl rfl) (WO.nil (zN (WC.cond_false rfl (WC.skip (zB (zN (WC.ops ?_)))))))))))))
    refine WO.add e41 rfl (by simp only[zO];omega) (by simp only[zO];omega) (WO.mv rfl (WO.nil ?_))
    exact⟨j-1,by omega,rfl,i+1,x',_,by omega,e5,e6,e8,rfl,e39,e40,rfl,hT',hBd' hBd,(kc.2 249 g9).trans ((zU (by decide)).trans l91),(F2.set (Nat.lt_of_lt_of_le F2.h3 (Nat.le_refl _))).kp kc,hr▸B4⟩
 ·refine WO.nil (zN (WC.seq (WC.cond_false rfl (WC.exit (thenC_exit (blockC_exit ?_))))))
  exact hQ _ _ _ x v e5 e6 e8 e9 h hBd l9 F B
end Go.AI
