/- The document's trees: what is said of them; find, Parent, Children: the walks. -/
import Derived.Test.YtodcomgkpifpfaaGreatDoorKTr
import Derived.Test.YtodcomgkpifpfaaGreatDoorKRi
namespace Go.AI
open Go.Proofs
variable {tbl t' t'':List (Nat×AObj Ar)}{nx n' n'' lo:Nat}
def Kp(t:List (Nat×AObj Ar))(n:Nat)(t':List (Nat×AObj Ar))(n':Nat):Prop:=n≤n'∧∀j,j<n→look j t'=look j t
theorem Kp.refl:Kp tbl nx tbl nx:=⟨Nat.le_refl _,fun _ _=>rfl⟩
theorem Kp.trans(a:Kp tbl nx t' n')(b:Kp t' n' t'' n''):Kp tbl nx t'' n'':=⟨Nat.le_trans a.1 b.1,fun j hj=>(b.2 j (Nat.lt_of_lt_of_le hj a.1)).trans (a.2 j hj)⟩
theorem Kp.cons(a:Kp tbl nx t' n'){k m:Nat}{o:AObj Ar}(hk:nx≤k)(hm:n'≤m):Kp tbl nx ((k,o)::t') m:=⟨Nat.le_trans a.1 hm,fun j hj=>by rw[zC,if_neg (by show¬j=k;omega)];exact a.2 j hj⟩
theorem Kp.del(a:Kp tbl nx t' n'){k:Nat}(hk:nx≤k):Kp tbl nx (AI.del k t') n':=⟨a.1,fun j hj=>by rw[look_del_ne (by omega)];exact a.2 j hj⟩
theorem Kp.upd(a:Kp tbl nx t' n'){k:Nat}{o:AObj Ar}(hk:nx≤k):Kp tbl nx (AI.upd k o t') n':=⟨a.1,fun j hj=>by rw[zU (by omega)];exact a.2 j hj⟩
theorem Kp.up(a:Kp tbl nx t' n'){m:Nat}(hm:n'≤m):Kp tbl nx t' m:=⟨Nat.le_trans a.1 hm,a.2⟩
abbrev NodeT:=Nat×Nat×List Nat
abbrev NodeV:=Nat×Nat×Value
def nodeC(m:NodeV):List Value:=[nI m.1,nI m.2.1,m.2.2]
def nodesC(M:List NodeV):List Value:=M.flatMap nodeC
def KidV(lo:Nat)(tbl:List (Nat×AObj Ar))(nx:Nat)(c:Value)(L:List Nat):Prop :=
 (L=[]∧c = .slice none 0 0)∨∃k,lo≤k∧k<nx∧L≠[]∧c = .slice (some ⟨k,0,none⟩) L.length L.length∧look k tbl=some (.grown 1 3 (L.map nI))
def NodeR(tbl:List (Nat×AObj Ar))(nx:Nat)(m:NodeV)(n:NodeT):Prop:=m.1=n.1∧m.2.1=n.2.1∧KidV 0 tbl nx m.2.2 n.2.2
def Bk(lo:Nat)(tbl:List (Nat×AObj Ar))(nx:Nat)(v:Value)(N:List NodeT):Prop :=
 ∃k M,lo≤k∧k<nx∧v = .slice (some ⟨k,0,none⟩) N.length N.length∧look k tbl=some (.grown 3 84 (nodesC M))∧All2 (NodeR tbl nx) M N
theorem KidV.kp{c:Value}{L:List Nat}(h:KidV lo tbl nx c L)(a:Kp tbl nx t' n'):KidV lo t' n' c L:=by
 rcases h with h|⟨k,h0,h1,h2,h3,h4⟩
 ·exact .inl h
 ·exact .inr ⟨k,h0,Nat.lt_of_lt_of_le h1 a.1,h2,h3,(a.2 k h1).trans h4⟩
theorem KidV.low{c:Value}{L:List Nat}{m:Nat}(h:KidV lo tbl nx c L)(hm:m≤lo):KidV m tbl nx c L:=by
 rcases h with h|⟨k,h0,h1,h2,h3,h4⟩
 ·exact .inl h
 ·exact .inr ⟨k,Nat.le_trans hm h0,h1,h2,h3,h4⟩
theorem NodeR.kp{m:NodeV}{n:NodeT}(h:NodeR tbl nx m n)(a:Kp tbl nx t' n'):NodeR t' n' m n:=⟨h.1,h.2.1,h.2.2.kp a⟩
theorem Bk.kp{v:Value}{N:List NodeT}(h:Bk lo tbl nx v N)(a:Kp tbl nx t' n'):Bk lo t' n' v N:=by
 obtain⟨k,M,h0,h1,h2,h3,h4⟩:=h
 exact⟨k,M,h0,Nat.lt_of_lt_of_le h1 a.1,h2,(a.2 k h1).trans h3,h4.mono fun _ _ h=>h.kp a⟩
theorem Bk.low{v:Value}{N:List NodeT}{m:Nat}(h:Bk lo tbl nx v N)(hm:m≤lo):Bk m tbl nx v N:=by
 obtain⟨k,M,h0,h1⟩:=h
 exact⟨k,M,Nat.le_trans hm h0,h1⟩
theorem all2_at{α β:Type}{R:α→β→Prop}:∀{x:List α} {y:List β},All2 R x y→∀{i:Nat} {b:β},y[i]? = some b→∃a,x[i]? = some a∧R a b
 |_,_,.nil,i,b,h=>by simp at h
 |_,_,.cons (a:=a) h t,0,b,e=>by
  simp only[List.getElem?_cons_zero,zI] at e
  subst e
  exact⟨a,rfl,h⟩
 |_,_,.cons h t,i+1,b,e=>by
  simp only[List.getElem?_cons_succ] at e ⊢
  exact all2_at t e
theorem all2_length{α β:Type}{R:α→β→Prop}:∀{x:List α} {y:List β},All2 R x y→x.length=y.length
 |_,_,.nil=>rfl
 |_,_,.cons _ t=>by rw[List.length_cons,List.length_cons,all2_length t]
theorem nodes_get:∀{M:List NodeV} {i:Nat} {m:NodeV},M[i]? = some m→takeN (nodesC M) (i*3) 3=some (nodeC m)
 |[],i,a,h=>by simp at h
 |b::r,0,a,h=>by
  simp only[List.getElem?_cons_zero,zI] at h;subst h
  rfl
 |b::r,i+1,a,h=>by
  have ih:=nodes_get (M:=r) (i:=i) (m:=a) (by simpa using h)
  have e:(nodesC (b::r)).drop ((i+1)*3)=(nodesC r).drop (i*3):=by
   have h1:nodesC (b::r)=nodeC b++nodesC r:=rfl
   rw[h1,List.drop_append]
   have h2:(nodeC b).length=3:=rfl
   rw[h2,List.drop_eq_nil_of_le (by rw[h2];omega),List.nil_append]
   congr 1;omega
  unfold takeN at ih ⊢
  rw[e];exact ih
theorem take_in{cs r:List Value}{o n j:Nat}{v:Value}(h:takeN cs o n=some r)(hv:r[j]? = some v):takeN cs (o+j) 1=some [v]:=by
 unfold takeN at h
 dsimp only at h
 cases hb:Nat.beq ((cs.drop o).take n).length n with
 |false=>rw[hb] at h;cases h
 |true =>
  rw[hb,cond_true] at h
  injection h with h
  subst h
  rw[List.getElem?_take] at hv
  split at hv
  ·rw[List.getElem?_drop] at hv
   exact take_one hv
  ·cases hv
theorem nodesC_len(M:List NodeV):(nodesC M).length=M.length*3:=by
 induction M with
 |nil=>rfl
 |cons a r ih =>
  have:(nodesC (a::r)).length=3+(nodesC r).length:=by
   show(nodeC a++nodesC r).length=_
   rw[List.length_append];rfl
  rw[this,ih,List.length_cons];omega
theorem find_run{hk:List (HookF Ar)}(hh:hookL hk 32=none){n i:Nat}{v:Value}{N:List NodeT}{y:NodeT}(hN:N.length<900)(hn:1001≤n)(B:Bk lo tbl nx v N)(hi:N[i]? = some y)(hf:∀q,q<i→∀z,N[q]? = some z→z.1≠y.1) :
  ∃u h',RF1 hk (n+1) 32 [v,vI y.1] ⟨tbl,nx⟩=some (u,h')∧(u = .int .i64 (Int.ofNat i)∧Kp tbl nx h'.tbl h'.next):=by
 obtain⟨k,M,_,hk1,rfl,hk2,hM⟩:=B
 have hil:i<N.length:=(List.getElem?_eq_some_iff.1 hi).1
 refine run_fn hh fRFind (zL rfl) ?_
 dsimp only[iRFind,argsE]
 refine WC.seq (WC.ops (WO.mv rfl (WO.nil (zN (WC.seq (WC.seq (WC.ops (WO.mv rfl (WO.len rfl (WO.mv rfl (WO.nil (zN (WC.block ?_)))))))))))))
 refine WC.loop (fun j e tbl' nx'=>∃q,q+j=i∧e 1=some (vI y.1)∧e 7=some (.slice (some ⟨k,0,none⟩) N.length N.length)∧e 8=some (.int .i64 (Int.ofNat N.length))∧e 9=some (.int .i64 (Int.ofNat q))∧Kp tbl nx tbl' nx') (k:=i) (by omega)
  ⟨0,by omega,rfl,rfl,rfl,rfl,Kp.refl⟩ ?_
 rintro j e tbl' nx' ⟨q,hj,e1,e7,e8,e9,hK⟩
 dsimp only at e1 e7 e8 e9
 have hq:q<N.length:=by omega
 refine WC.seq (WC.ops (WO.lssS e9 e8 (fun hz=>?_) (fun hz=>absurd (by simp only[zO];omega) hz)))
 obtain⟨z,hz'⟩:∃z,N[q]? = some z:=⟨N[q],List.getElem?_eq_getElem hq⟩
 obtain⟨m,hm,r1,r2,r3⟩:=all2_at hM hz'
 have hlk:look k tbl'=some (.grown 3 84 (nodesC M)):=(hK.2 k hk1).trans hk2
 have htk:takeN (nodesC M) (0+q*3) 3=some (nodeC m):=by rw[Nat.zero_add];exact nodes_get hm
 refine WO.nil (zN (WC.seq (WC.cond_true rfl (WC.skip (zN (WC.seq (WC.block (WC.seq (WC.ops (WO.mv e9 (WO.idxL e7 e9 rfl hq ?_)))))))))))
 refine WO.load (v:=.agg ⟨nodeC m⟩) rfl hlk rfl htk rfl (WO.new (WO.mv rfl (WO.step (i:=.store 3 (.t 6) (.t 13)) (v:=undef) (m':=⟨[],(nx',.cells (nodeC m))::tbl',nx'+1⟩) ?_ ?_)))
 ·have hs:=mem_store (nx:=nx'+1) (vs:=nodeC m) (o:=0) (ob':=.cells (splice [.int .i64 (.ofNat 0),.int .i64 (.ofNat 0),.slice none 0 0] 0 (nodeC m))) (tbl:=(nx',.cells [.int .i64 (.ofNat 0),.int .i64 (.ofNat 0),.slice none 0 0])::tbl') (i:=nx') (by rw[zC,if_pos rfl]) rfl (zL rfl) rfl
  rw[upd_head] at hs
  exact estep_store rfl rfl rfl rfl hs
 have hln:look nx' ((nx',AObj.cells (nodeC m))::tbl')=some (.cells (nodeC m)):=by rw[zC,if_pos rfl]
 have hK':Kp tbl nx ((nx',AObj.cells (nodeC m))::tbl') (nx'+1):=hK.cons hK.1 (Nat.le_succ _)
 refine WO.nil (zN (WC.seq (WC.ops (WO.fadd rfl (WO.load (v:=nI m.1) rfl hln rfl rfl rfl (WO.mv e1 (WO.eqlS rfl rfl (fun he=>?_) (fun he=>?_))))))))
 ·have hzy:z.1=y.1:=by rw[← r1];exact Int.ofNat.inj he
  have hqi:q=i:=by
   rcases Nat.lt_or_ge q i with h|h
   ·exact absurd hzy (hf q h z hz')
   ·omega
  refine WO.nil (zN (WC.cond_true rfl (WC.seq (WC.ops (WO.mv rfl (WO.mv rfl (WO.nil (zN (WC.ret ?_)))))))))
  exact blockC_ret (thenC_ret (blockC_ret (thenC_ret ⟨_,_,rfl,rfl,by rw[hqi],hK'⟩)))
 ·have hqi:q≠i:=fun h=>by
   subst h
   rw[hi] at hz'
   injection hz' with hz'
   subst hz'
   exact he (by rw[r1])
  refine WO.nil (zN (WC.cond_false rfl (WC.skip (zB (zN (WC.ops ?_))))))
  refine WO.add e9 rfl (by simp only[zO];omega) (by simp only[zO];omega) (WO.mv rfl (WO.nil ?_))
  exact⟨j-1,by omega,rfl,q+1,by omega,e1,e7,e8,rfl,hK'⟩
theorem parent_run{hk:List (HookF Ar)}(hh:hookL hk 32=none)(hp:hookL hk 34=none){n i:Nat}{v:Value}{N:List NodeT}{y:NodeT}(hN:N.length<900)(hn:1001≤n)(B:Bk lo tbl nx v N)(hi:N[i]? = some y)(hf:∀q,q<i→∀z,N[q]? = some z→z.1≠y.1) :
  ∃u h',RF1 hk (n+2) 34 [v,vI y.1] ⟨tbl,nx⟩=some (u,h')∧(u=vI y.2.1∧Kp tbl nx h'.tbl h'.next):=by
 have hil:i<N.length:=(List.getElem?_eq_some_iff.1 hi).1
 refine run_fn hp fRParent (zL rfl) ?_
 dsimp only[iRParent,argsE]
 refine WC.seq (WC.ops (WO.mv rfl (WO.nil (zN (WC.seq (WC.ops (WO.mv rfl (WO.mv rfl ?_))))))))
 refine WO.fcall_ex (vs:=[v,vI y.1]) rfl rfl (find_run hh (n:=n) hN hn B hi hf) ?_
 rintro u ⟨t',n'⟩ ⟨rfl,hK⟩
 have B':=B.kp hK
 obtain⟨k,M,_,hk1,rfl,hk2,hM⟩:=B'
 obtain⟨m,hm,r1,r2,r3⟩:=all2_at hM hi
 have htk:takeN (nodesC M) (0+i*3+1) 1=some [nI m.2.1]:=take_in (r:=nodeC m) (by rw[Nat.zero_add];exact nodes_get hm) rfl
 refine WO.mv rfl (WO.nil (zN (WC.seq (WC.seq (WC.ops (WO.mv rfl (WO.lssS rfl rfl (fun hz=>absurd hz (by simp only[zO];omega)) (fun _=>?_))))))))
 refine WO.nil (zN (WC.cond_false rfl (WC.skip (zN (WC.seq (WC.ops (WO.mv rfl (WO.mv rfl (WO.idxL rfl rfl rfl hil (WO.fadd rfl ?_))))))))))
 refine WO.load (v:=nI m.2.1) rfl hk2 rfl htk rfl (WO.mv rfl (WO.nil (zN (WC.ret ⟨_,_,rfl,rfl,by rw[r2],hK⟩))))
theorem children_run{hk:List (HookF Ar)}(hh:hookL hk 32=none)(hp:hookL hk 36=none){n i:Nat}{v:Value}{N:List NodeT}{y:NodeT}(hN:N.length<900)(hn:1001≤n)(B:Bk lo tbl nx v N)(hi:N[i]? = some y)(hf:∀q,q<i→∀z,N[q]? = some z→z.1≠y.1) :
  ∃u h',RF1 hk (n+2) 36 [v,vI y.1] ⟨tbl,nx⟩=some (u,h')∧(KidV 0 h'.tbl h'.next u y.2.2∧Kp tbl nx h'.tbl h'.next):=by
 have hil:i<N.length:=(List.getElem?_eq_some_iff.1 hi).1
 refine run_fn hp fRChildren (zL rfl) ?_
 dsimp only[iRChildren,argsE]
 refine WC.seq (WC.ops (WO.mv rfl (WO.nil (zN (WC.seq (WC.ops (WO.mv rfl (WO.mv rfl ?_))))))))
 refine WO.fcall_ex (vs:=[v,vI y.1]) rfl rfl (find_run hh (n:=n) hN hn B hi hf) ?_
 rintro u ⟨t',n'⟩ ⟨rfl,hK⟩
 have B':=B.kp hK
 obtain⟨k,M,_,hk1,rfl,hk2,hM⟩:=B'
 obtain⟨m,hm,r1,r2,r3⟩:=all2_at hM hi
 have htk:takeN (nodesC M) (0+i*3+2) 1=some [m.2.2]:=take_in (r:=nodeC m) (by rw[Nat.zero_add];exact nodes_get hm) rfl
 refine WO.mv rfl (WO.nil (zN (WC.seq (WC.seq (WC.ops (WO.mv rfl (WO.lssS rfl rfl (fun hz=>absurd hz (by simp only[zO];omega)) (fun _=>?_))))))))
 refine WO.nil (zN (WC.cond_false rfl (WC.skip (zN (WC.seq (WC.ops (WO.mv rfl (WO.mv rfl (WO.idxL rfl rfl rfl hil (WO.fadd rfl ?_))))))))))
 refine WO.load (v:=m.2.2) rfl hk2 rfl htk rfl (WO.mv rfl (WO.nil (zN (WC.ret ⟨_,_,rfl,rfl,r3,hK⟩))))
end Go.AI
/- The document's trees: Down, Under, Up: the walks. -/
namespace Go.AI
open Go.Proofs
open Go.Fo (Wd Un Pre)
variable {tbl t' t'':List (Nat×AObj Ar)}{nx n' n'' lo:Nat}{w:Wd}{S:List Nat}{kids:Nat→List Nat}{d:Nat→Nat}
def refN(w:Wd)(S:List Nat)(kids:Nat→List Nat):List NodeT:=S.map fun a=>(a,w.par a,kids a)
theorem refN_len:(refN w S kids).length=S.length:=List.length_map ..
theorem refN_at{a:Nat}(hn:S.Nodup)(ha:a∈S):∃i:Nat,(refN w S kids)[i]? = some (a,w.par a,kids a)∧∀q,q<i→∀z:NodeT,(refN w S kids)[q]? = some z→z.1≠a:=by
 have h1:=List.idxOf_lt_length_of_mem ha
 have h2:S[S.idxOf a]? = some a:=by rw[List.getElem?_eq_getElem h1,List.getElem_idxOf]
 refine⟨S.idxOf a,by unfold refN;rw[List.getElem?_map,h2];rfl,fun q hq z hz he=>?_⟩
 unfold refN at hz
 rw[List.getElem?_map] at hz
 cases hs:S[q]? with
 |none=>rw[hs] at hz;cases hz
 |some b =>
  rw[hs] at hz
  injection hz with hz
  subst hz
  have hb:b=a:=he
  have h3:=List.not_of_lt_findIdx (p:=(· == a)) (xs:=S) (i:=q) hq
  rw[List.getElem?_eq_getElem (by omega)] at hs
  injection hs with hs
  rw[hs,hb] at h3
  simp at h3
theorem row_src{L:List Nat}{k:Nat}(hL:L≠[])(h:look k tbl=some (.grown 1 3 (L.map nI))):source (⟨[],tbl,nx⟩:Mem Ar) 1 (.slice (some ⟨k,0,none⟩) L.length L.length)=some (L.length,L.map nI):=by
 have hl:(⟨[],tbl,nx⟩:Mem Ar).loads (some ⟨k,0,none⟩) (L.length*1)=some (L.map nI):=by
  refine mem_loads h rfl ?_ (by have:=List.length_pos_iff.2 hL;omega)
  have h1:(L.map nI).drop 0=L.map nI:=rfl
  have h2:(L.map nI).take (L.length*1)=L.map nI:=by rw[Nat.mul_one,List.take_of_length_le (by simp)]
  have h3:Nat.beq (L.map nI).length (L.length*1)=true:=by rw[Nat.beq_eq];simp
  simp only[takeN,h1,h2,h3,cond_true]
 simp only[source,hl,Option.map]
theorem one_src{b k:Nat}(h:look k tbl=some (.cells [vI b])):source (⟨[],tbl,nx⟩:Mem Ar) 1 (.slice (some ⟨k,0,none⟩) 1 1)=some ([b].length,[b].map nI):=by
 have hl:(⟨[],tbl,nx⟩:Mem Ar).loads (some ⟨k,0,none⟩) 1=some [vI b]:=mem_loads h rfl rfl (by decide)
 simp only[source,Nat.mul_one,hl,Option.map]
 rfl
theorem row_app{v y:Value}{P Q:List Nat}(hlo:lo≤nx)(hs:source (⟨[],tbl,nx⟩:Mem Ar) 1 y=some (Q.length,Q.map nI))(hQ:Q≠[])(hv:KidV lo tbl nx v P)(hl:P.length+Q.length<100000) :
  ∃u tb,appendM ⟨[],tbl,nx⟩ 1 8 3 v y=some (u,⟨[],tb,nx+1⟩)∧KidV lo tb (nx+1) u (P++Q)∧Kp tbl lo tb (nx+1):=by
 have hq:=List.length_pos_iff.2 hQ
 rcases hv with⟨rfl,rfl⟩|⟨k,k0,k1,k2,rfl,hk⟩
 ·refine⟨_,_,appendM_new hs hq (by rw[List.length_nil] at hl;omega),.inr ⟨nx,hlo,Nat.lt_succ_self _,by simpa using hQ,rfl,?_⟩,Kp.cons ⟨hlo,fun _ _=>rfl⟩ hlo (Nat.le_succ _)⟩
  rw[zC,if_pos rfl];rfl
 ·have hld:(⟨[],tbl,nx⟩:Mem Ar).loads (some ⟨k,0,none⟩) (P.length*1)=some (P.map nI):=by
   have h:=row_src (nx:=nx) k2 hk
   simp only[source] at h
   cases hh:(⟨[],tbl,nx⟩:Mem Ar).loads (some ⟨k,0,none⟩) (P.length*1) with
   |none=>rw[hh] at h;cases h
   |some r=>rw[hh] at h;injection h with h;injection h with _ h;rw[h]
  refine⟨_,_,appendM_more (b:=8) hs (by simp) hq (by exact hk) (by simp) hld (by omega),.inr ⟨nx,hlo,Nat.lt_succ_self _,by simp[k2],?_,?_⟩,?_⟩
  ·rw[List.length_append]
  ·show look nx ((nx,AObj.grown 1 3 (P.map nI++Q.map nI))::AI.del k tbl)=_
   rw[zC,if_pos rfl,List.map_append]
  ·show Kp tbl lo ((nx,AObj.grown 1 3 (P.map nI++Q.map nI))::AI.del k tbl) (nx+1)
   exact Kp.cons (Kp.del ⟨hlo,fun _ _=>rfl⟩ k0) hlo (Nat.le_succ _)
theorem flat_len{f:Nat→List Nat}{l:List Nat}(q:Nat):((l.take q).flatMap f).length≤(l.flatMap f).length:=by
 have h:l.flatMap f=(l.take q).flatMap f++(l.drop q).flatMap f:=by rw[← List.flatMap_append,List.take_append_drop]
 rw[h,List.length_append];omega
theorem flat_take{f:Nat→List Nat}{l:List Nat}{q b:Nat}(h:l[q]? = some b):(l.take (q+1)).flatMap f=(l.take q).flatMap f++f b:=by
 rw[List.take_add_one,h,List.flatMap_append]
 simp
structure NoHk(hk:List (HookF Ar)):Prop where
 find:hookL hk 32=none
 down:hookL hk 37=none
 par:hookL hk 34=none
 kids:hookL hk 36=none
 up:hookL hk 38=none
 under:hookL hk 35=none
 wth:hookL hk 33=none
 add:hookL hk 19=none
 cut:hookL hk 18=none
theorem pre_length(I:Go.Fo.Inv w S kids d){a:Nat}(ha:a∈S):(Pre S kids a).length≤S.length :=
 Go.Fo.nodup_len _ _ (I.nodup_pre a ha) fun x hx=>((I.mem_pre a ha x).1 hx).1
theorem rdown_run{hk:List (HookF Ar)}(hh:NoHk hk)(I:Go.Fo.Inv w S kids d)(hS:S.length<800)(hnd:S.Nodup){v:Value} :
  ∀(k n a:Nat) (tbl:List (Nat×AObj Ar)) (nx:Nat),S.length≤k+d a→1002+k≤n→a∈S→Bk lo tbl nx v (refN w S kids) →
   ∃u h',RF1 hk (n+1) 37 [v,vI a] ⟨tbl,nx⟩=some (u,h')∧(KidV nx h'.tbl h'.next u (Pre S kids a)∧Kp tbl nx h'.tbl h'.next):=by
 intro k
 induction k with
 |zero=>intro n a tbl nx h _ ha _;have:=I.lt ha;omega
 |succ k ih =>
 intro n a tbl nx hkd hn ha B
 obtain⟨i,hi,hf⟩:=refN_at (w:=w) (kids:=kids) hnd ha
 have hil:i<(refN w S kids).length:=(List.getElem?_eq_some_iff.1 hi).1
 obtain⟨n,rfl⟩:∃m,n=m+1:=⟨n-1,by omega⟩
 have hpl:=pre_length I ha
 rw[I.pre_eq ha,List.length_cons] at hpl
 have h5:=Go.Fo.nodup_len _ _ (I.nd a ha) fun y hy=>(I.kid ha hy).1
 refine run_fn hh.down fRDown (zL rfl) ?_
 dsimp only[iRDown,argsE]
 refine WC.seq (WC.ops (WO.mv rfl (WO.nil (zN (WC.seq (WC.ops (WO.mv rfl (WO.mv rfl ?_))))))))
 obtain⟨kq,M,_,hk1,rfl,hk2,hM⟩:=id B
 obtain⟨m,hm,r1,r2,r3⟩:=all2_at hM hi
 have htk:takeN (nodesC M) (0+i*3+2) 1=some [m.2.2]:=take_in (r:=nodeC m) (by rw[Nat.zero_add];exact nodes_get hm) rfl
 have hr3:∃ad,m.2.2 = .slice ad (kids a).length (kids a).length∧KidV 0 tbl nx (.slice ad (kids a).length (kids a).length) (kids a):=by
  rcases r3 with⟨e1,e2⟩|⟨c,c0,c1,c2,e2,c3⟩
  ·have e1:kids a=[]:=e1
   refine⟨none,by rw[e2,e1];rfl,.inl ⟨e1,by rw[e1];rfl⟩⟩
  ·exact⟨_,e2,.inr ⟨c,c0,c1,c2,rfl,c3⟩⟩
 obtain⟨ad,e2,r3⟩:=hr3
 refine WO.fcall_ex (vs:=[.slice (some ⟨kq,0,none⟩) (refN w S kids).length (refN w S kids).length,vI a]) rfl rfl (find_run hh.find (n:=n) (y:=(a,w.par a,kids a)) (by rw[refN_len];omega) (by omega) B hi hf) ?_
 rintro u ⟨t1,n1⟩ ⟨rfl,hK⟩
 refine WO.mv rfl (WO.nil (zN (WC.seq (WC.seq (WC.ops (WO.mv rfl (WO.lssS rfl rfl (fun hz=>absurd hz (by simp only[zO];omega)) (fun _=>?_))))))))
 refine WO.nil (zN (WC.cond_false rfl (WC.skip (zN (WC.seq (WC.ops (WO.mv rfl (WO.nil (zN (WC.seq (WC.ops (WO.mv rfl (WO.mv rfl ?_)))))))))))))
 refine WO.step (i:=.bslice 16 1 1 [.int .i64 (.ofNat 0)] [(0,.t 15)]) (v:=.slice (some ⟨n1,0,none⟩) 1 1) (m':=⟨[],(n1,.cells [vI a])::t1,n1+1⟩) rfl ?_
 have hK2:Kp tbl nx ((n1,AObj.cells [vI a])::t1) (n1+1):=hK.cons hK.1 (Nat.le_succ _)
 obtain⟨u,tb,q1,q2,q3⟩:=row_app (lo:=nx) (tbl:=(n1,AObj.cells [vI a])::t1) (nx:=n1+1) (v:=.slice none 0 0) (P:=[]) (Q:=[a]) hK2.1 (one_src (b:=a) (k:=n1) (by rw[zC,if_pos rfl])) (by simp) (.inl ⟨rfl,rfl⟩) (by simp)
 have hK3:Kp tbl nx tb (n1+1+1):=⟨Nat.le_succ_of_le hK2.1,fun j hj=>(q3.2 j hj).trans (hK2.2 j hj)⟩
 refine WO.append rfl rfl q1 (WO.mv rfl (WO.nil (zN (WC.seq (WC.seq (WC.ops (WO.mv rfl (WO.mv rfl (WO.idxL rfl rfl rfl hil (WO.fadd rfl ?_))))))))))
 refine WO.load (v:=m.2.2) rfl ((hK3.2 kq hk1).trans hk2) rfl htk rfl ?_
 rw[e2]
 refine WO.len rfl (WO.mv rfl (WO.nil (zN (WC.block ?_))))
 refine WC.loop (fun j e tb nb=>∃q,q+j=(kids a).length∧e 0=some (.slice (some ⟨kq,0,none⟩) (refN w S kids).length (refN w S kids).length)∧(∃u,e 6=some u∧KidV nx tb nb u (a::((kids a).take q).flatMap (Pre S kids)))∧e 22=some (.slice ad (kids a).length (kids a).length)∧e 23=some (.int .i64 (Int.ofNat (kids a).length))∧e 24=some (.int .i64 (Int.ofNat q))∧Kp tbl nx tb nb) (k:=(kids a).length) (by omega)
  ⟨0,by omega,rfl,⟨u,rfl,by simpa using q2⟩,rfl,rfl,rfl,hK3⟩ ?_
 rintro j e tb nb ⟨q,hj,e0,⟨u,e6,hu⟩,e22,e23,e24,hKt⟩
 dsimp only at e0 e6 e22 e23 e24
 refine WC.seq (WC.ops (WO.lssS e24 e23 (fun hz=>?_) (fun hz=>?_)))
 ·have hq:q<(kids a).length:=by simp only[zO] at hz;omega
  obtain⟨b,hb⟩:∃b,(kids a)[q]? = some b:=⟨(kids a)[q],List.getElem?_eq_getElem hq⟩
  have hbm:b∈kids a:=List.mem_of_getElem? hb
  obtain⟨hbS,hbp,hb0,hbd⟩:=I.kid ha hbm
  obtain⟨c,_,c1,_,c2,c3⟩:=(r3.kp hKt).resolve_left fun h=>by rw[h.1] at hbm;cases hbm
  have e22':=e22
  rw[c2] at e22'
  refine WO.nil (zN (WC.seq (WC.cond_true rfl (WC.skip (zN (WC.seq (WC.block (WC.seq (WC.ops ?_)))))))))
  refine WO.idxL e22' e24 rfl hq (WO.load rfl c3 rfl (row_get hb) rfl (WO.mv rfl (WO.nil (zN (WC.ops (WO.mv e6 (WO.mv e0 (WO.mv rfl ?_))))))))
  refine WO.fcall_ex (vs:=[.slice (some ⟨kq,0,none⟩) (refN w S kids).length (refN w S kids).length,vI b]) rfl rfl (ih n b tb nb (by omega) (by omega) hbS (B.kp hKt)) ?_
  rintro u2 ⟨t2,n2⟩ ⟨h1,h2⟩
  have hpb:=I.pre_eq hbS
  have hne:Pre S kids b≠[]:=by rw[hpb];simp
  obtain⟨g,g0,g1,_,rfl,g3⟩:=h1.resolve_left fun h=>hne h.1
  have hlen:(a::((kids a).take q).flatMap (Pre S kids)).length+(Pre S kids b).length<100000:=by
   have:=pre_length I hbS
   have:=flat_len (f:=Pre S kids) (l:=kids a) q
   rw[List.length_cons];omega
  have hnx2:nx≤n2:=Nat.le_trans hKt.1 h2.1
  obtain⟨u3,t3,p1,p2,p3⟩:=row_app (lo:=nx) hnx2 (row_src (nx:=n2) hne g3) hne (hu.kp h2) hlen
  refine WO.append rfl rfl p1 (WO.mv rfl (WO.nil (zB (zN (WC.ops ?_)))))
  refine WO.add e24 rfl (by simp only[zO];omega) (by simp only[zO];omega) (WO.mv rfl (WO.nil ?_))
  refine⟨j-1,by omega,rfl,q+1,by omega,e0,⟨u3,rfl,?_⟩,e22,e23,rfl,?_⟩
  ·rw[flat_take hb];exact p2
  ·exact⟨Nat.le_succ_of_le hnx2,fun j hj=>(p3.2 j hj).trans ((h2.2 j (Nat.lt_of_lt_of_le hj hKt.1)).trans (hKt.2 j hj))⟩
 ·have hq:q=(kids a).length:=by simp only[zO] at hz;omega
  refine WO.nil (zN (WC.seq (WC.cond_false rfl (WC.exit (thenC_exit (blockC_exit ?_))))))
  refine zN (WC.seq (WC.ops (WO.mv e6 (WO.mv rfl (WO.nil (zN (WC.ret ⟨_,_,rfl,rfl,?_,hKt⟩)))))))
  rw[I.pre_eq ha]
  rw[hq,List.take_length] at hu
  exact hu
end Go.AI
/- The document's trees: Under, Up: the walks. -/
namespace Go.AI
open Go.Proofs
open Go.Fo (Wd Un Pre)
variable {tbl t' t'':List (Nat×AObj Ar)}{nx n' n'' lo:Nat}{w:Wd}{S:List Nat}{kids:Nat→List Nat}{d:Nat→Nat}
theorem runder_run{hk:List (HookF Ar)}(hh:NoHk hk)(I:Go.Fo.Inv w S kids d)(hS:S.length<800)(hnd:S.Nodup){v:Value}{n a top:Nat}(hn:2000≤n)(ht:top∈S)(B:Bk lo tbl nx v (refN w S kids)) :
  ∃u h',RF1 hk (n+2) 35 [v,vI a,vI top] ⟨tbl,nx⟩=some (u,h')∧(u = .bool (decide (a∈Pre S kids top))∧Kp tbl nx h'.tbl h'.next):=by
 refine run_fn hh.under fRUnder (zL rfl) ?_
 dsimp only[iRUnder,argsE]
 refine WC.seq (WC.ops (WO.mv rfl (WO.nil (zN (WC.seq (WC.seq (WC.ops (WO.mv rfl (WO.mv rfl ?_)))))))))
 refine WO.fcall_ex (vs:=[v,vI top]) rfl rfl (rdown_run hh I hS hnd S.length n top tbl nx (by omega) (by omega) ht B) ?_
 rintro u ⟨t1,n1⟩ ⟨hu,hK⟩
 have hne:Pre S kids top≠[]:=by rw[I.pre_eq ht];simp
 have hpl:=pre_length I ht
 obtain⟨g,g0,g1,_,rfl,g3⟩:=hu.resolve_left fun h=>hne h.1
 refine WO.len rfl (WO.mv rfl (WO.nil (zN (WC.block ?_))))
 refine WC.loop (fun j e tb nb=>∃q,q+j=(Pre S kids top).length∧e 1=some (vI a)∧e 11=some (.slice (some ⟨g,0,none⟩) (Pre S kids top).length (Pre S kids top).length)∧e 12=some (.int .i64 (Int.ofNat (Pre S kids top).length))∧e 13=some (.int .i64 (Int.ofNat q))∧(∀i,i<q→(Pre S kids top)[i]? ≠ some a)∧tb=t1∧nb=n1) (k:=(Pre S kids top).length) (by omega)
  ⟨0,by omega,rfl,rfl,rfl,rfl,fun i hi=>by omega,rfl,rfl⟩ ?_
 rintro j e tb nb ⟨q,hj,e1,e11,e12,e13,hq,rfl,rfl⟩
 dsimp only at e1 e11 e12 e13
 refine WC.seq (WC.ops (WO.lssS e13 e12 (fun hz=>?_) (fun hz=>?_)))
 ·have hi:q<(Pre S kids top).length:=by simp only[zO] at hz;omega
  obtain⟨b,hb⟩:∃b,(Pre S kids top)[q]? = some b:=⟨(Pre S kids top)[q],List.getElem?_eq_getElem hi⟩
  refine WO.nil (zN (WC.seq (WC.cond_true rfl (WC.skip (zN (WC.seq (WC.block (WC.seq (WC.ops ?_)))))))))
  refine WO.idxL e11 e13 rfl hi (WO.load rfl g3 rfl (row_get hb) rfl (WO.mv rfl (WO.nil (zN (WC.seq (WC.ops (WO.mv rfl (WO.mv e1 (WO.eqlS rfl rfl (fun he=>?_) (fun he=>?_))))))))))
  ·have hba:b=a:=Int.ofNat.inj he
   refine WO.nil (zN (WC.cond_true rfl (WC.seq (WC.ops (WO.mv rfl (WO.nil (zN (WC.ret ?_))))))))
   refine blockC_ret (thenC_ret (blockC_ret (thenC_ret ⟨_,_,rfl,rfl,?_,hK⟩)))
   rw[decide_eq_true (by rw[← hba];exact List.mem_of_getElem? hb)]
  ·have hba:b≠a:=fun e=>he (by rw[e])
   refine WO.nil (zN (WC.cond_false rfl (WC.skip (zB (zN (WC.ops ?_))))))
   refine WO.add e13 rfl (by simp only[zO];omega) (by simp only[zO];omega) (WO.mv rfl (WO.nil ?_))
   refine⟨j-1,by omega,rfl,q+1,by omega,e1,e11,e12,rfl,fun i hi2=>?_,rfl,rfl⟩
   rcases Nat.lt_succ_iff_lt_or_eq.1 hi2 with h1|h1
   ·exact hq i h1
   ·subst h1;rw[hb];intro e;exact hba (Option.some.inj e)
 ·have hi:q=(Pre S kids top).length:=by simp only[zO] at hz;omega
  refine WO.nil (zN (WC.seq (WC.cond_false rfl (WC.exit (thenC_exit (blockC_exit ?_))))))
  refine zN (WC.seq (WC.ops (WO.mv rfl (WO.nil (zN (WC.ret ⟨_,_,rfl,rfl,?_,hK⟩))))))
  rw[decide_eq_false]
  intro hm
  obtain⟨i,hi1,hi2⟩:=List.getElem_of_mem hm
  exact hq i (by omega) (by rw[List.getElem?_eq_getElem hi1,hi2])
theorem rev_step{f:Nat→List Nat}{l:List Nat}{q b:Nat}(h:l[q]? = some b):((l.drop q).reverse).flatMap f=((l.drop (q+1)).reverse).flatMap f++f b:=by
 obtain⟨hq,rfl⟩:=List.getElem?_eq_some_iff.1 h
 rw[List.drop_eq_getElem_cons hq,List.reverse_cons,List.flatMap_append]
 simp
theorem rev_len{f:Nat→List Nat}{l:List Nat}(q:Nat):((l.drop q).reverse.flatMap fun b=>(f b).reverse).length≤(l.flatMap f).length:=by
 have h:l.flatMap f=(l.take q).flatMap f++(l.drop q).flatMap f:=by rw[← List.flatMap_append,List.take_append_drop]
 have h2:((l.drop q).flatMap f).reverse=(l.drop q).reverse.flatMap fun b=>(f b).reverse:=List.reverse_flatMap ..
 rw[← h2,List.length_reverse,h,List.length_append];omega
theorem rup_run{hk:List (HookF Ar)}(hh:NoHk hk)(I:Go.Fo.Inv w S kids d)(hS:S.length<800)(hnd:S.Nodup){v:Value} :
  ∀(k n a:Nat) (tbl:List (Nat×AObj Ar)) (nx:Nat),S.length≤k+d a→1002+k≤n→a∈S→Bk lo tbl nx v (refN w S kids) →
   ∃u h',RF1 hk (n+1) 38 [v,vI a] ⟨tbl,nx⟩=some (u,h')∧(KidV nx h'.tbl h'.next u (Pre S kids a).reverse∧Kp tbl nx h'.tbl h'.next):=by
 intro k
 induction k with
 |zero=>intro n a tbl nx h _ ha _;have:=I.lt ha;omega
 |succ k ih =>
 intro n a tbl nx hkd hn ha B
 obtain⟨i,hi,hf⟩:=refN_at (w:=w) (kids:=kids) hnd ha
 have hil:i<(refN w S kids).length:=(List.getElem?_eq_some_iff.1 hi).1
 obtain⟨n,rfl⟩:∃m,n=m+1:=⟨n-1,by omega⟩
 have hpl:=pre_length I ha
 rw[I.pre_eq ha,List.length_cons] at hpl
 have h5:=Go.Fo.nodup_len _ _ (I.nd a ha) fun y hy=>(I.kid ha hy).1
 refine run_fn hh.up fRUp (zL rfl) ?_
 dsimp only[iRUp,argsE]
 refine WC.seq (WC.ops (WO.mv rfl (WO.nil (zN (WC.seq (WC.ops (WO.mv rfl (WO.mv rfl ?_))))))))
 obtain⟨kq,M,_,hk1,rfl,hk2,hM⟩:=id B
 obtain⟨m,hm,r1,r2,r3⟩:=all2_at hM hi
 have htk:takeN (nodesC M) (0+i*3+2) 1=some [m.2.2]:=take_in (r:=nodeC m) (by rw[Nat.zero_add];exact nodes_get hm) rfl
 have hr3:∃ad,m.2.2 = .slice ad (kids a).length (kids a).length∧KidV 0 tbl nx (.slice ad (kids a).length (kids a).length) (kids a):=by
  rcases r3 with⟨e1,e2⟩|⟨c,c0,c1,c2,e2,c3⟩
  ·have e1:kids a=[]:=e1
   refine⟨none,by rw[e2,e1];rfl,.inl ⟨e1,by rw[e1];rfl⟩⟩
  ·exact⟨_,e2,.inr ⟨c,c0,c1,c2,rfl,c3⟩⟩
 obtain⟨ad,e2,r3⟩:=hr3
 refine WO.fcall_ex (vs:=[.slice (some ⟨kq,0,none⟩) (refN w S kids).length (refN w S kids).length,vI a]) rfl rfl (find_run hh.find (n:=n) (y:=(a,w.par a,kids a)) (by rw[refN_len];omega) (by omega) B hi hf) ?_
 rintro u ⟨t1,n1⟩ ⟨rfl,hK⟩
 refine WO.mv rfl (WO.nil (zN (WC.seq (WC.seq (WC.ops (WO.mv rfl (WO.lssS rfl rfl (fun hz=>absurd hz (by simp only[zO];omega)) (fun _=>?_))))))))
 refine WO.nil (zN (WC.cond_false rfl (WC.skip (zN (WC.seq (WC.ops (WO.mv rfl (WO.nil (zN (WC.seq (WC.ops (WO.mv rfl (WO.mv rfl (WO.idxL rfl rfl rfl hil (WO.fadd rfl ?_)))))))))))))))
 refine WO.load (v:=m.2.2) rfl ((hK.2 kq hk1).trans hk2) rfl htk rfl ?_
 rw[e2]
 refine WO.mv rfl (WO.nil (zN (WC.seq (WC.seq (WC.ops (WO.mv rfl (WO.len rfl ?_)))))))
 refine WO.sub rfl rfl (by simp only[zO];omega) (by simp only[zO];omega) (WO.mv rfl (WO.nil (zN (WC.block ?_))))
 refine WC.loop (fun j e tb nb=>j≤(kids a).length∧e 0=some (.slice (some ⟨kq,0,none⟩) (refN w S kids).length (refN w S kids).length)∧e 1=some (vI a)∧(∃u,e 6=some u∧KidV nx tb nb u (((kids a).drop j).reverse.flatMap fun b=>(Pre S kids b).reverse))∧e 7=some (.slice ad (kids a).length (kids a).length)∧e 8=some (.int .i64 (Int.ofNat j-1))∧Kp tbl nx tb nb) (k:=(kids a).length) (by omega)
  ⟨Nat.le_refl _,rfl,rfl,⟨_,rfl,.inl ⟨by simp,rfl⟩⟩,rfl,rfl,hK⟩ ?_
 rintro j e tb nb ⟨hj,e0,e1,⟨u,e6,hu⟩,e7,e8,hKt⟩
 dsimp only at e0 e1 e6 e7 e8
 refine WC.seq (WC.seq (WC.ops (WO.mv e8 (WO.geqS rfl rfl (fun hz=>?_) (fun hz=>?_)))))
 ·obtain⟨q,rfl⟩:∃q,j=q+1:=⟨j-1,by simp only[zO] at hz;omega⟩
  have hq:q<(kids a).length:=by omega
  have hz8:(Int.ofNat (q+1)-1:Int)=Int.ofNat q:=by simp only[zO];omega
  rw[hz8] at e8
  obtain⟨b,hb⟩:∃b,(kids a)[q]? = some b:=⟨(kids a)[q],List.getElem?_eq_getElem hq⟩
  have hbm:b∈kids a:=List.mem_of_getElem? hb
  obtain⟨hbS,hbp,hb0,hbd⟩:=I.kid ha hbm
  obtain⟨c,_,c1,_,c2,c3⟩:=(r3.kp hKt).resolve_left fun h=>by rw[h.1] at hbm;cases hbm
  rw[c2] at e7
  refine WO.nil (zN (WC.cond_true rfl (WC.skip (zN (WC.seq (WC.block (WC.ops ?_)))))))
  refine WO.mv e6 (WO.mv e0 (WO.mv e7 (WO.mv e8 (WO.idxL rfl rfl rfl hq (WO.load rfl c3 rfl (row_get hb) rfl ?_)))))
  refine WO.fcall_ex (vs:=[.slice (some ⟨kq,0,none⟩) (refN w S kids).length (refN w S kids).length,vI b]) rfl rfl (ih n b tb nb (by omega) (by omega) hbS (B.kp hKt)) ?_
  rintro u2 ⟨t2,n2⟩ ⟨h1,h2⟩
  have hne:(Pre S kids b).reverse≠[]:=by rw[I.pre_eq hbS];simp
  obtain⟨g,g0,g1,_,rfl,g3⟩:=h1.resolve_left fun h=>hne h.1
  have hlen:(((kids a).drop (q+1)).reverse.flatMap fun b=>(Pre S kids b).reverse).length+(Pre S kids b).reverse.length<100000:=by
   have h7:=pre_length I hbS
   have h8:=rev_len (f:=Pre S kids) (l:=kids a) (q+1)
   rw[List.length_reverse];omega
  have hnx2:nx≤n2:=Nat.le_trans hKt.1 h2.1
  obtain⟨u3,t3,p1,p2,p3⟩:=row_app (lo:=nx) hnx2 (row_src (nx:=n2) hne g3) hne (hu.kp h2) hlen
  refine WO.append rfl rfl p1 (WO.mv rfl (WO.nil (zB (zN (WC.ops ?_)))))
  refine WO.mv e8 (WO.sub rfl rfl (by simp only[zO];omega) (by simp only[zO];omega) (WO.mv rfl (WO.nil ?_)))
  refine⟨q,by omega,rfl,by omega,e0,e1,⟨u3,rfl,?_⟩,e7.trans (by rw[c2]),rfl,?_⟩
  ·rw[rev_step hb];exact p2
  ·exact⟨Nat.le_succ_of_le hnx2,fun j hj=>(p3.2 j hj).trans ((h2.2 j (Nat.lt_of_lt_of_le hj hKt.1)).trans (hKt.2 j hj))⟩
 ·have hq:j=0:=by simp only[zO] at hz;omega
  subst hq
  refine WO.nil (zN (WC.cond_false rfl (WC.exit (thenC_exit (blockC_exit ?_)))))
  refine zN (WC.seq (WC.ops (WO.mv e6 (WO.mv e1 ?_))))
  refine WO.step (i:=.bslice 36 1 1 [.int .i64 (.ofNat 0)] [(0,.t 35)]) (v:=.slice (some ⟨nb,0,none⟩) 1 1) (m':=⟨[],(nb,.cells [vI a])::tb,nb+1⟩) rfl ?_
  have hK2:Kp tbl nx ((nb,AObj.cells [vI a])::tb) (nb+1):=hKt.cons hKt.1 (Nat.le_succ _)
  have hK3:Kp tb nb ((nb,AObj.cells [vI a])::tb) (nb+1):=Kp.refl.cons (Nat.le_refl _) (Nat.le_succ _)
  obtain⟨u3,t3,p1,p2,p3⟩:=row_app (lo:=nx) (tbl:=(nb,AObj.cells [vI a])::tb) (nx:=nb+1) (Q:=[a]) hK2.1 (one_src (b:=a) (k:=nb) (by rw[zC,if_pos rfl])) (by simp) (hu.kp hK3) (by have h8:=rev_len (f:=Pre S kids) (l:=kids a) 0;rw[List.length_singleton];omega)
  refine WO.append rfl rfl p1 (WO.mv rfl (WO.nil (zN (WC.ret ⟨_,_,rfl,rfl,?_,Nat.le_succ_of_le hK2.1,fun j hj=>(p3.2 j hj).trans (hK2.2 j hj)⟩))))
  rw[I.pre_eq ha,List.reverse_cons,List.reverse_flatMap]
  exact p2
end Go.AI
/- The document's trees: with: the walk. -/
namespace Go.AI
open Go.Proofs
open Go.Fo (Wd Un Pre)
variable {tbl t' t'':List (Nat×AObj Ar)}{nx n' n'' lo:Nat}{w:Wd}{S:List Nat}{kids:Nat→List Nat}{d:Nat→Nat}
def KidN(lo:Nat)(tbl:List (Nat×AObj Ar))(nx:Nat)(c:Value)(L:List NodeV):Prop :=
 (L=[]∧c = .slice none 0 0)∨∃k,lo≤k∧k<nx∧L≠[]∧c = .slice (some ⟨k,0,none⟩) L.length L.length∧look k tbl=some (.grown 3 84 (nodesC L))
theorem KidN.kp{c:Value}{L:List NodeV}(h:KidN lo tbl nx c L)(a:Kp tbl nx t' n'):KidN lo t' n' c L:=by
 rcases h with h|⟨k,h0,h1,h2,h3,h4⟩
 ·exact .inl h
 ·exact .inr ⟨k,h0,Nat.lt_of_lt_of_le h1 a.1,h2,h3,(a.2 k h1).trans h4⟩
theorem node_app{v:Value}{P:List NodeV}{m:NodeV}{k0:Nat}(hlo:lo≤nx)(hl:P.length<100000)(h0:look k0 tbl=some (.cells (nodeC m)))(hv:KidN lo tbl nx v P) :
  ∃u tb,appendM ⟨[],tbl,nx⟩ 3 40 84 v (.slice (some ⟨k0,0,none⟩) 1 1)=some (u,⟨[],tb,nx+1⟩)∧KidN lo tb (nx+1) u (P++[m])∧Kp tbl lo tb (nx+1):=by
 have hs:source (⟨[],tbl,nx⟩:Mem Ar) 3 (.slice (some ⟨k0,0,none⟩) 1 1)=some (1,nodeC m):=by
  have hld:(⟨[],tbl,nx⟩:Mem Ar).loads (some ⟨k0,0,none⟩) (1*3)=some (nodeC m):=mem_loads h0 rfl rfl (by decide)
  simp only[source,hld,Option.map]
 rcases hv with⟨rfl,rfl⟩|⟨k,k1,k2,k3,rfl,hk⟩
 ·refine⟨_,_,appendM_new hs (by decide) (by decide),.inr ⟨nx,hlo,Nat.lt_succ_self _,by simp,rfl,?_⟩,Kp.cons ⟨hlo,fun _ _=>rfl⟩ hlo (Nat.le_succ _)⟩
  rw[zC,if_pos rfl];rfl
 ·have hp:=List.length_pos_iff.2 k3
  have hld:(⟨[],tbl,nx⟩:Mem Ar).loads (some ⟨k,0,none⟩) (P.length*3)=some (nodesC P):=by
   refine mem_loads hk rfl ?_ (by omega)
   have h1:(nodesC P).drop 0=nodesC P:=rfl
   have h2:(nodesC P).take (P.length*3)=nodesC P:=by rw[← nodesC_len,List.take_length]
   have h3:Nat.beq (nodesC P).length (P.length*3)=true:=by rw[Nat.beq_eq];exact nodesC_len P
   simp only[takeN,h1,h2,h3,cond_true]
  refine⟨_,_,appendM_more (b:=40) hs rfl (by decide) (by exact hk) (nodesC_len P) hld (by omega),.inr ⟨nx,hlo,Nat.lt_succ_self _,by simp,?_,?_⟩,?_⟩
  ·rw[List.length_append];rfl
  ·show look nx ((nx,AObj.grown 3 84 (nodesC P++nodeC m))::AI.del k tbl)=_
   rw[zC,if_pos rfl]
   have:nodesC (P++[m])=nodesC P++nodeC m:=by
    unfold nodesC
    rw[List.flatMap_append];simp
   rw[this]
  ·show Kp tbl lo ((nx,AObj.grown 3 84 (nodesC P++nodeC m))::AI.del k tbl) (nx+1)
   exact Kp.cons (Kp.del ⟨hlo,fun _ _=>rfl⟩ k1) hlo (Nat.le_succ _)
def withV(m:NodeV)(z:NodeV):NodeV:=if z.1=m.1 then m else z
def withT(m:NodeT)(z:NodeT):NodeT:=if z.1=m.1 then m else z
theorem take_map{f:NodeV→NodeV}{l:List NodeV}{q:Nat}{b:NodeV}(h:l[q]? = some b):(l.take (q+1)).map f=(l.take q).map f++[f b]:=by
 rw[List.take_add_one,h,List.map_append]
 rfl
theorem all2_map{tb:List (Nat×AObj Ar)}{nb:Nat}{m:NodeV}{y:NodeT}(hm:NodeR tb nb m y):∀{M:List NodeV} {N:List NodeT},All2 (NodeR tb nb) M N→All2 (NodeR tb nb) (M.map (withV m)) (N.map (withT y))
 |_,_,.nil=>.nil
 |_,_,.cons (a:=a) (b:=b) h t=>by
  refine .cons ?_ (all2_map hm t)
  unfold withV withT
  rw[h.1,hm.1]
  split
  ·exact hm
  ·exact h
theorem rwith_run{hk:List (HookF Ar)}(hh:NoHk hk){v:Value}{N:List NodeT}{m:NodeV}{y:NodeT}{n:Nat}(hN:N.length<900)(hN0:N≠[])(hn:1001≤n)(B:Bk lo tbl nx v N)(hm:NodeR tbl nx m y) :
  ∃u h',RF1 hk (n+1) 33 [v,.agg ⟨nodeC m⟩] ⟨tbl,nx⟩=some (u,h')∧(Bk nx h'.tbl h'.next u (N.map (withT y))∧Kp tbl nx h'.tbl h'.next):=by
 obtain⟨k,M,_,hk1,rfl,hk2,hM⟩:=B
 have hML:=all2_length hM
 refine run_fn hh.wth fRWith (zL rfl) ?_
 dsimp only[iRWith,argsE]
 refine WC.seq (WC.ops (WO.box (v:=.agg ⟨nodeC m⟩) (cs:=nodeC m) rfl rfl (WO.mv rfl (WO.nil (zN (WC.seq (WC.ops (WO.mv rfl (WO.nil (zN (WC.seq (WC.seq (WC.ops (WO.mv rfl (WO.len rfl (WO.mv rfl (WO.nil (zN (WC.block ?_)))))))))))))))))))
 have hb:look nx ((nx,AObj.cells (nodeC m))::tbl)=some (.cells (nodeC m)):=by rw[zC,if_pos rfl]
 have hKb:Kp tbl nx ((nx,AObj.cells (nodeC m))::tbl) (nx+1):=Kp.refl.cons (Nat.le_refl _) (Nat.le_succ _)
 refine WC.loop (fun j e tb nb=>∃q,q+j=N.length∧e 3=some (.pointer (some ⟨nx,0,none⟩))∧(∃u,e 5=some u∧KidN (nx+1) tb nb u ((M.take q).map (withV m)))∧e 8=some (.slice (some ⟨k,0,none⟩) N.length N.length)∧e 9=some (.int .i64 (Int.ofNat N.length))∧e 10=some (.int .i64 (Int.ofNat q))∧Kp ((nx,AObj.cells (nodeC m))::tbl) (nx+1) tb nb) (k:=N.length) (by omega)
  ⟨0,by omega,rfl,⟨_,rfl,.inl ⟨rfl,rfl⟩⟩,rfl,rfl,rfl,Kp.refl⟩ ?_
 rintro j e tb nb ⟨q,hj,e3,⟨u,e5,hu⟩,e8,e9,e10,hK⟩
 dsimp only at e3 e5 e8 e9 e10
 have hnb:=hK.1
 refine WC.seq (WC.ops (WO.lssS e10 e9 (fun hz=>?_) (fun hz=>?_)))
 ·have hq:q<N.length:=by simp only[zO] at hz;omega
  obtain⟨z,hz'⟩:∃z,M[q]? = some z:=⟨M[q],List.getElem?_eq_getElem (by omega)⟩
  have hlk:look k tb=some (.grown 3 84 (nodesC M)):=(hK.2 k (by omega)).trans ((hKb.2 k hk1).trans hk2)
  have hbx:look nx tb=some (.cells (nodeC m)):=(hK.2 nx (Nat.lt_succ_self _)).trans hb
  have htk:takeN (nodesC M) (0+q*3) 3=some (nodeC z):=by rw[Nat.zero_add];exact nodes_get hz'
  refine WO.nil (zN (WC.seq (WC.cond_true rfl (WC.skip (zN (WC.seq (WC.block (WC.seq (WC.ops (WO.idxL e8 e10 rfl hq ?_))))))))))
  refine WO.load (v:=.agg ⟨nodeC z⟩) rfl hlk rfl htk rfl (WO.new (WO.step (i:=.store 3 (.t 7) (.t 13)) (v:=undef) (m':=⟨[],(nb,.cells (nodeC z))::tb,nb+1⟩) ?_ ?_))
  ·have hs:=mem_store (nx:=nb+1) (vs:=nodeC z) (o:=0) (ob':=.cells (splice [.int .i64 (.ofNat 0),.int .i64 (.ofNat 0),.slice none 0 0] 0 (nodeC z))) (tbl:=(nb,.cells [.int .i64 (.ofNat 0),.int .i64 (.ofNat 0),.slice none 0 0])::tb) (i:=nb) (by rw[zC,if_pos rfl]) rfl (zL rfl) rfl
   rw[upd_head] at hs
   exact estep_store rfl rfl rfl rfl hs
  have hln:look nb ((nb,AObj.cells (nodeC z))::tb)=some (.cells (nodeC z)):=by rw[zC,if_pos rfl]
  have hbx2:look nx ((nb,AObj.cells (nodeC z))::tb)=some (.cells (nodeC m)):=by rw[zC,if_neg (by show¬nx=nb;omega)];exact hbx
  have key:∀(y:NodeV),y=withV m z→∃u3 tb3,appendM ⟨[],(nb+1,.cells (nodeC y))::(nb,.cells (nodeC z))::tb,nb+1+1⟩ 3 40 84 u (.slice (some ⟨nb+1,0,none⟩) 1 1)=some (u3,⟨[],tb3,nb+1+1+1⟩)∧KidN (nx+1) tb3 (nb+1+1+1) u3 ((M.take (q+1)).map (withV m))∧Kp ((nx,AObj.cells (nodeC m))::tbl) (nx+1) tb3 (nb+1+1+1):=by
   rintro y rfl
   have hK2:Kp tb nb ((nb+1,AObj.cells (nodeC (withV m z)))::(nb,AObj.cells (nodeC z))::tb) (nb+1+1):=(Kp.refl.cons (Nat.le_refl _) (Nat.le_succ _)).cons (Nat.le_succ _) (Nat.le_succ _)
   obtain⟨u3,tb3,p1,p2,p3⟩:=node_app (lo:=nx+1) (tbl:=(nb+1,AObj.cells (nodeC (withV m z)))::(nb,.cells (nodeC z))::tb) (nx:=nb+1+1) (k0:=nb+1) (m:=withV m z) (by omega) (by rw[List.length_map,List.length_take];omega) (by rw[zC,if_pos rfl]) (hu.kp hK2)
   refine⟨u3,tb3,p1,by rw[take_map hz'];exact p2,by omega,fun j hj=>(p3.2 j hj).trans ((hK2.2 j (Nat.lt_of_lt_of_le hj hnb)).trans (hK.2 j hj))⟩
  refine WO.nil (zN (WC.seq (WC.ops (WO.fadd rfl (WO.load (v:=nI z.1) rfl hln rfl rfl rfl (WO.fadd e3 (WO.load (v:=nI m.1) rfl hbx2 rfl rfl rfl (WO.eqlS rfl rfl (fun he=>?_) (fun he=>?_)))))))))
  ·have he':z.1=m.1:=Int.ofNat.inj he
   obtain⟨u3,tb3,p1,p2,p3⟩:=key m (by unfold withV;rw[if_pos he'])
   refine WO.nil (zN (WC.cond_true rfl (WC.ops (WO.mv e5 (WO.load (v:=.agg ⟨nodeC m⟩) e3 hbx2 rfl rfl rfl ?_)))))
   refine WO.step (i:=.bslice 21 1 3 [.int .i64 (.ofNat 0),.int .i64 (.ofNat 0),.slice none 0 0] [(0,.t 20)]) (v:=.slice (some ⟨nb+1,0,none⟩) 1 1) (m':=⟨[],(nb+1,.cells (nodeC m))::(nb,.cells (nodeC z))::tb,nb+1+1⟩) rfl ?_
   refine WO.append rfl rfl p1 (WO.mv rfl (WO.nil (zB (zN (WC.ops ?_)))))
   refine WO.add e10 rfl (by simp only[zO];omega) (by simp only[zO];omega) (WO.mv rfl (WO.nil ?_))
   exact⟨j-1,by omega,rfl,q+1,by omega,e3,⟨u3,rfl,p2⟩,e8,e9,rfl,p3⟩
  ·have he':¬z.1=m.1:=fun e=>he (by rw[e])
   obtain⟨u3,tb3,p1,p2,p3⟩:=key z (by unfold withV;rw[if_neg he'])
   refine WO.nil (zN (WC.cond_false rfl (WC.ops (WO.mv e5 (WO.load (v:=.agg ⟨nodeC z⟩) rfl hln rfl rfl rfl ?_)))))
   refine WO.step (i:=.bslice 25 1 3 [.int .i64 (.ofNat 0),.int .i64 (.ofNat 0),.slice none 0 0] [(0,.t 24)]) (v:=.slice (some ⟨nb+1,0,none⟩) 1 1) (m':=⟨[],(nb+1,.cells (nodeC z))::(nb,.cells (nodeC z))::tb,nb+1+1⟩) rfl ?_
   refine WO.append rfl rfl p1 (WO.mv rfl (WO.nil (zB (zN (WC.ops ?_)))))
   refine WO.add e10 rfl (by simp only[zO];omega) (by simp only[zO];omega) (WO.mv rfl (WO.nil ?_))
   exact⟨j-1,by omega,rfl,q+1,by omega,e3,⟨u3,rfl,p2⟩,e8,e9,rfl,p3⟩
 ·have hq:q=N.length:=by simp only[zO] at hz;omega
  refine WO.nil (zN (WC.seq (WC.cond_false rfl (WC.exit (thenC_exit (blockC_exit ?_))))))
  have hKt:Kp tbl nx tb nb:=⟨by omega,fun j hj=>(hK.2 j (by omega)).trans (hKb.2 j hj)⟩
  refine zN (WC.seq (WC.ops (WO.mv e5 (WO.mv rfl (WO.nil (zN (WC.ret ⟨_,_,rfl,rfl,?_,hKt⟩)))))))
  rw[hq,← hML,List.take_length] at hu
  have hMn:M.map (withV m)≠[]:=by
   intro h
   have:M=[]:=List.map_eq_nil_iff.1 h
   rw[this] at hML
   exact hN0 (List.length_eq_zero_iff.1 hML.symm)
  obtain⟨g,g0,g1,_,rfl,g3⟩:=hu.resolve_left fun h=>hMn h.1
  refine⟨g,M.map (withV m),by omega,g1,by rw[List.length_map,List.length_map,hML],g3,all2_map (hm.kp hKt) (hM.mono fun _ _ h=>h.kp hKt)⟩
end Go.AI
/- The document's trees: forest: the walk. -/
namespace Go.AI
open Go.Proofs
open Go.Fo (Wd Un Pre)
variable {tbl t' t'':List (Nat×AObj Ar)}{nx n' n'' lo:Nat}{w:Wd}{S:List Nat}{kids:Nat→List Nat}{d:Nat→Nat}
theorem all2_new{tb:List (Nat×AObj Ar)}{nb:Nat}:∀{L:List Nat},All2 (NodeR tb nb) (L.map fun a=>(a,0,Value.slice none 0 0)) (L.map fun a=>(a,0,[]))
 |[]=>.nil
 |_::_=>.cons ⟨rfl,rfl,.inl ⟨rfl,rfl⟩⟩ all2_new
theorem forest_run{hk:List (HookF Ar)}(hh:hookL hk 17=none){n ka:Nat}(hS:S.length<800)(hS0:S≠[])(hn:1001≤n)(hka:ka<nx)(hlk:look ka tbl=some (.grown 1 3 (S.map nI))) :
  ∃u h',RF1 hk (n+1) 17 [.slice (some ⟨ka,0,none⟩) S.length S.length] ⟨tbl,nx⟩=some (u,h')∧(Bk nx h'.tbl h'.next u (S.map fun a=>(a,0,[]))∧Kp tbl nx h'.tbl h'.next):=by
 refine run_fn hh fRForest (zL rfl) ?_
 dsimp only[iRForest,argsE]
 refine WC.seq (WC.ops (WO.mv rfl (WO.nil (zN (WC.seq (WC.ops (WO.mv rfl (WO.nil (zN (WC.seq (WC.seq (WC.ops (WO.mv rfl (WO.len rfl (WO.mv rfl (WO.nil (zN (WC.block ?_))))))))))))))))))
 refine WC.loop (fun j e tb nb=>∃q,q+j=S.length∧(∃u,e 3=some u∧KidN nx tb nb u ((S.take q).map fun a=>(a,0,Value.slice none 0 0)))∧e 6=some (.slice (some ⟨ka,0,none⟩) S.length S.length)∧e 7=some (.int .i64 (Int.ofNat S.length))∧e 8=some (.int .i64 (Int.ofNat q))∧Kp tbl nx tb nb) (k:=S.length) (by omega)
  ⟨0,by omega,⟨_,rfl,.inl ⟨rfl,rfl⟩⟩,rfl,rfl,rfl,Kp.refl⟩ ?_
 rintro j e tb nb ⟨q,hj,⟨u,e3,hu⟩,e6,e7,e8,hK⟩
 dsimp only at e3 e6 e7 e8
 refine WC.seq (WC.ops (WO.lssS e8 e7 (fun hz=>?_) (fun hz=>?_)))
 ·have hq:q<S.length:=by simp only[zO] at hz;omega
  obtain⟨a,ha⟩:∃a,S[q]? = some a:=⟨S[q],List.getElem?_eq_getElem hq⟩
  have hl:look ka tb=some (.grown 1 3 (S.map nI)):=(hK.2 ka hka).trans hlk
  refine WO.nil (zN (WC.seq (WC.cond_true rfl (WC.skip (zN (WC.seq (WC.block (WC.seq (WC.ops ?_)))))))))
  refine WO.idxL e6 e8 rfl hq (WO.load rfl hl rfl (row_get ha) rfl (WO.mv rfl (WO.nil (zN (WC.ops (WO.mv e3 (WO.mv rfl ?_)))))))
  have hK2:Kp tb nb ((nb,AObj.cells (nodeC (a,0,.slice none 0 0)))::tb) (nb+1):=Kp.refl.cons (Nat.le_refl _) (Nat.le_succ _)
  obtain⟨u3,tb3,p1,p2,p3⟩:=node_app (lo:=nx) (tbl:=(nb,AObj.cells (nodeC (a,0,.slice none 0 0)))::tb) (nx:=nb+1) (k0:=nb) (m:=(a,0,.slice none 0 0)) (Nat.le_succ_of_le hK.1) (by rw[List.length_map,List.length_take];omega) (by rw[zC,if_pos rfl]) (hu.kp hK2)
  refine WO.pure (v:=.agg ⟨nodeC (a,0,.slice none 0 0)⟩) rfl ?_
  refine WO.step (i:=.bslice 15 1 3 [.int .i64 (.ofNat 0),.int .i64 (.ofNat 0),.slice none 0 0] [(0,.t 14)]) (v:=.slice (some ⟨nb,0,none⟩) 1 1) (m':=⟨[],(nb,.cells (nodeC (a,0,.slice none 0 0)))::tb,nb+1⟩) rfl ?_
  refine WO.append rfl rfl p1 (WO.mv rfl (WO.nil (zB (zN (WC.ops ?_)))))
  refine WO.add e8 rfl (by simp only[zO];omega) (by simp only[zO];omega) (WO.mv rfl (WO.nil ?_))
  refine⟨j-1,by omega,rfl,q+1,by omega,⟨u3,rfl,?_⟩,e6,e7,rfl,Nat.le_succ_of_le (Nat.le_succ_of_le hK.1),fun j hj=>(p3.2 j hj).trans ((hK2.2 j (Nat.lt_of_lt_of_le hj hK.1)).trans (hK.2 j hj))⟩
  rw[List.take_add_one,ha,List.map_append]
  exact p2
 ·have hq:q=S.length:=by simp only[zO] at hz;omega
  refine WO.nil (zN (WC.seq (WC.cond_false rfl (WC.exit (thenC_exit (blockC_exit ?_))))))
  refine zN (WC.seq (WC.ops (WO.mv e3 (WO.mv rfl (WO.nil (zN (WC.ret ⟨_,_,rfl,rfl,?_,hK⟩)))))))
  rw[hq,List.take_length] at hu
  obtain⟨g,g0,g1,_,rfl,g3⟩:=hu.resolve_left fun h=>hS0 (List.map_eq_nil_iff.1 h.1)
  exact⟨g,_,g0,g1,by rw[List.length_map,List.length_map],g3,all2_new⟩
end Go.AI
/- The document's trees: Cut: the walk. -/
namespace Go.AI
open Go.Proofs
open Go.Fo (Wd Un Pre)
variable {tbl t' t'':List (Nat×AObj Ar)}{nx n' n'' lo:Nat}{w:Wd}{S:List Nat}{kids:Nat→List Nat}{d:Nat→Nat}
theorem KidV.sl{c:Value}{L:List Nat}(h:KidV lo tbl nx c L):∃ad,c = .slice ad L.length L.length:=by
 rcases h with⟨rfl,rfl⟩|⟨k,_,_,_,rfl,_⟩
 ·exact⟨none,rfl⟩
 ·exact⟨_,rfl⟩
theorem ceq_slice{ad:Option Addr}{l c:Nat}:ceq (.slice ad l c) (.slice ad l c)=true:=by
 cases ad with
 |none=>simp[ceq]
 |some a=>simp[ceq]
theorem ceqs_node{a p:Nat}{ad:Option Addr}{l c:Nat}:ceqs (nodeC (a,p,.slice ad l c)) (nodeC (a,p,.slice ad l c))=true:=by
 show(ceq (nI a) (nI a)&&(ceq (nI p) (nI p)&&(ceq (.slice ad l c) (.slice ad l c)&&true)))=true
 rw[ceq_slice]
 simp[ceq,ieqF_refl]
theorem filter_take{c b q:Nat}{l:List Nat}(h:l[q]? = some b):(l.take (q+1)).filter (fun x=>x != c)=(l.take q).filter (fun x=>x != c)++if b=c then[] else[b]:=by
 rw[List.take_add_one,h,List.filter_append]
 congr 1
 by_cases e:b=c
 ·subst e;simp
 ·rw[if_neg e];simp[e]
theorem cut_refN{c:Nat}(h:w.par c≠c):((refN w S kids).map (withT (w.par c,w.par (w.par c),(kids (w.par c)).filter fun x=>x != c))).map (withT (c,0,kids c))=refN (Go.Fo.cutW w c) S (Go.Fo.cutK kids (w.par c) c):=by
 unfold refN
 rw[List.map_map,List.map_map]
 refine List.map_congr_left fun a _=>?_
 show withT (c,0,kids c) (withT (w.par c,w.par (w.par c),(kids (w.par c)).filter fun x=>x != c) (a,w.par a,kids a))=(a,Go.Fo.up w.par c 0 a,if a=w.par c then(kids (w.par c)).filter (fun x=>x != c) else kids a)
 unfold withT Go.Fo.up
 dsimp only
 by_cases e:a=w.par c
 ·have hc:¬w.par c=c:=h
  subst e
  rw[if_pos rfl]
  dsimp only
  rw[if_neg hc,if_neg hc,if_pos rfl]
 ·rw[if_neg e]
  dsimp only
  rw[if_neg e]
  by_cases e2:a=c
  ·subst e2
   rw[if_pos rfl,if_pos rfl]
  ·rw[if_neg e2,if_neg e2]
theorem rcut_run{hk:List (HookF Ar)}(hh:NoHk hk)(I:Go.Fo.Inv w S kids d)(hS:S.length<800)(hnd:S.Nodup){v:Value}{n c:Nat}(hn:2000≤n)(hc:c∈S)(B:Bk lo tbl nx v (refN w S kids)) :
  ∃u h',RF1 hk (n+2) 18 [v,vI c] ⟨tbl,nx⟩=some (u,h')∧((w.par c=0∧u = .tuple ⟨[v,vI 8]⟩∨w.par c≠0∧∃v',u = .tuple ⟨[v',vI 0]⟩∧Bk 0 h'.tbl h'.next v' (refN (Go.Fo.cutW w c) S (Go.Fo.cutK kids (w.par c) c)))∧Kp tbl nx h'.tbl h'.next):=by
 obtain⟨i,hi,hf⟩:=refN_at (w:=w) (kids:=kids) hnd hc
 have hil:i<(refN w S kids).length:=(List.getElem?_eq_some_iff.1 hi).1
 obtain⟨kq,M,_,hk1,rfl,hk2,hM⟩:=id B
 obtain⟨m,hm,r1,r2,r3⟩:=all2_at hM hi
 obtain⟨mc,mp,mk⟩:=m
 replace r1:c=mc:=r1.symm
 replace r2:w.par c=mp:=r2.symm
 replace r3:KidV 0 tbl nx mk (kids c):=r3
 subst r1
 subst r2
 have htk:takeN (nodesC M) (0+i*3) 3=some (nodeC (c,w.par c,mk)):=by rw[Nat.zero_add];exact nodes_get hm
 refine run_fn hh.cut fRCut (zL rfl) ?_
 dsimp only[iRCut,argsE]
 refine WC.seq (WC.ops (WO.mv rfl (WO.mv rfl (WO.nil (zN (WC.seq (WC.ops (WO.mv rfl (WO.mv rfl (WO.mv rfl ?_))))))))))
 refine WO.fcall_ex (vs:=[.slice (some ⟨kq,0,none⟩) (refN w S kids).length (refN w S kids).length,vI c]) rfl rfl (find_run hh.find (n:=n) (y:=(c,w.par c,kids c)) (by rw[refN_len];omega) (by omega) B hi hf) ?_
 rintro u ⟨t1,n1⟩ ⟨rfl,hK1⟩
 refine WO.idxL rfl rfl rfl hil (WO.load (v:=.agg ⟨nodeC (c,w.par c,mk)⟩) rfl ((hK1.2 kq hk1).trans hk2) rfl htk rfl (WO.new (WO.step (i:=.store 3 (.t 6) (.t 16)) (v:=undef) (m':=⟨[],(n1,.cells (nodeC (c,w.par c,mk)))::t1,n1+1⟩) ?_ ?_)))
 ·have hs:=mem_store (nx:=n1+1) (vs:=nodeC (c,w.par c,mk)) (o:=0) (ob':=.cells (splice [.int .i64 (.ofNat 0),.int .i64 (.ofNat 0),.slice none 0 0] 0 (nodeC (c,w.par c,mk)))) (tbl:=(n1,.cells [.int .i64 (.ofNat 0),.int .i64 (.ofNat 0),.slice none 0 0])::t1) (i:=n1) (by rw[zC,if_pos rfl]) rfl (zL rfl) rfl
  rw[upd_head] at hs
  exact estep_store rfl rfl rfl rfl hs
 have hl6:look n1 ((n1,AObj.cells (nodeC (c,w.par c,mk)))::t1)=some (.cells (nodeC (c,w.par c,mk))):=by rw[zC,if_pos rfl]
 have hK2:Kp tbl nx ((n1,AObj.cells (nodeC (c,w.par c,mk)))::t1) (n1+1):=hK1.cons hK1.1 (Nat.le_succ _)
 refine WO.nil (zN (WC.seq (WC.seq (WC.ops (WO.fadd rfl (WO.load (v:=nI (w.par c)) rfl hl6 rfl rfl rfl (WO.eqlS rfl rfl (fun he=>?_) (fun he=>?_))))))))
 ·have he':w.par c=0:=Int.ofNat.inj he
  refine WO.nil (zN (WC.cond_true rfl (WC.seq (WC.ops (WO.mv rfl (WO.mv rfl (WO.mv rfl (WO.nil (zN (WC.ret (thenC_ret ⟨_,_,rfl,rfl,.inl ⟨he',rfl⟩,hK2⟩)))))))))))
 ·have he':w.par c≠0:=fun e=>he (by rw[e])
  obtain⟨hpS,hckp⟩:=I.par c hc he'
  have hpc:w.par c≠c:=fun e=>by
   have:=I.dep c hc he'
   rw[e] at this;omega
  obtain⟨i2,hi2,hf2⟩:=refN_at (w:=w) (kids:=kids) hnd hpS
  have hil2:i2<(refN w S kids).length:=(List.getElem?_eq_some_iff.1 hi2).1
  obtain⟨m2,hm2,s1,s2,s3⟩:=all2_at hM hi2
  obtain⟨pc,pp,pk⟩:=m2
  replace s1:w.par c=pc:=s1.symm
  replace s2:w.par (w.par c)=pp:=s2.symm
  replace s3:KidV 0 tbl nx pk (kids (w.par c)):=s3
  subst s1
  subst s2
  have htk2:takeN (nodesC M) (0+i2*3) 3=some (nodeC (w.par c,w.par (w.par c),pk)):=by rw[Nat.zero_add];exact nodes_get hm2
  refine WO.nil (zN (WC.cond_false rfl (WC.skip (zN (WC.seq (WC.ops (WO.mv rfl (WO.mv rfl (WO.fadd rfl (WO.load (v:=nI (w.par c)) rfl hl6 rfl rfl rfl ?_))))))))))
  refine WO.fcall_ex (vs:=[.slice (some ⟨kq,0,none⟩) (refN w S kids).length (refN w S kids).length,vI (w.par c)]) rfl rfl (find_run hh.find (n:=n) (y:=(w.par c,w.par (w.par c),kids (w.par c))) (by rw[refN_len];omega) (by omega) (B.kp hK2) hi2 hf2) ?_
  rintro u ⟨t2,n2⟩ ⟨rfl,hK3⟩
  have hK4:=hK2.trans hK3
  refine WO.idxL rfl rfl rfl hil2 (WO.load (v:=.agg ⟨nodeC (w.par c,w.par (w.par c),pk)⟩) rfl ((hK4.2 kq hk1).trans hk2) rfl htk2 rfl (WO.new (WO.step (i:=.store 3 (.t 7) (.t 27)) (v:=undef) (m':=⟨[],(n2,.cells (nodeC (w.par c,w.par (w.par c),pk)))::t2,n2+1⟩) ?_ ?_)))
  ·have hs:=mem_store (nx:=n2+1) (vs:=nodeC (w.par c,w.par (w.par c),pk)) (o:=0) (ob':=.cells (splice [.int .i64 (.ofNat 0),.int .i64 (.ofNat 0),.slice none 0 0] 0 (nodeC (w.par c,w.par (w.par c),pk)))) (tbl:=(n2,.cells [.int .i64 (.ofNat 0),.int .i64 (.ofNat 0),.slice none 0 0])::t2) (i:=n2) (by rw[zC,if_pos rfl]) rfl (zL rfl) rfl
   rw[upd_head] at hs
   exact estep_store rfl rfl rfl rfl hs
  have hn12:n1<n2:=hK3.1
  have hl7:look n2 ((n2,AObj.cells (nodeC (w.par c,w.par (w.par c),pk)))::t2)=some (.cells (nodeC (w.par c,w.par (w.par c),pk))):=by rw[zC,if_pos rfl]
  have hl6':look n1 ((n2,AObj.cells (nodeC (w.par c,w.par (w.par c),pk)))::t2)=some (.cells (nodeC (c,w.par c,mk))):=by
   rw[zC,if_neg (by show¬n1=n2;omega)]
   exact(hK3.2 n1 (Nat.lt_succ_self _)).trans hl6
  have hK5:Kp tbl nx ((n2,AObj.cells (nodeC (w.par c,w.par (w.par c),pk)))::t2) (n2+1):=hK4.cons hK4.1 (Nat.le_succ _)
  obtain⟨ad,hpk⟩:=s3.sl
  replace hpk:pk = .slice ad (kids (w.par c)).length (kids (w.par c)).length:=hpk
  obtain⟨ad',hmk⟩:=r3.sl
  replace hmk:mk = .slice ad' (kids c).length (kids c).length:=hmk
  subst hpk
  subst hmk
  have h5:=Go.Fo.nodup_len _ _ (I.nd _ hpS) fun y hy=>(I.kid hpS hy).1
  refine WO.nil (zN (WC.seq (WC.ops (WO.mv rfl (WO.nil (zN (WC.seq (WC.seq (WC.ops (WO.fadd rfl (WO.load (v:=.slice ad (kids (w.par c)).length (kids (w.par c)).length) rfl hl7 rfl rfl rfl ?_)))))))))))
  refine WO.len rfl (WO.mv rfl (WO.nil (zN (WC.block ?_))))
  refine WC.loop (fun j e tb nb=>∃q,q+j=(kids (w.par c)).length∧e 0=some (.slice (some ⟨kq,0,none⟩) (refN w S kids).length (refN w S kids).length)∧e 1=some (vI c)∧e 6=some (.pointer (some ⟨n1,0,none⟩))∧e 7=some (.pointer (some ⟨n2,0,none⟩))∧(∃u,e 8=some u∧KidV (n2+1) tb nb u (((kids (w.par c)).take q).filter fun x=>x != c))∧e 29=some (.slice ad (kids (w.par c)).length (kids (w.par c)).length)∧e 30=some (.int .i64 (Int.ofNat (kids (w.par c)).length))∧e 31=some (.int .i64 (Int.ofNat q))∧Kp ((n2,AObj.cells (nodeC (w.par c,w.par (w.par c),.slice ad (kids (w.par c)).length (kids (w.par c)).length)))::t2) (n2+1) tb nb) (k:=(kids (w.par c)).length) (by omega)
   ⟨0,by omega,rfl,rfl,rfl,rfl,⟨_,rfl,.inl ⟨rfl,rfl⟩⟩,rfl,rfl,rfl,Kp.refl⟩ ?_
  rintro j e tb nb ⟨q,hj,e0,e1,e6,e7,⟨u,e8,hu⟩,e29,e30,e31,hK⟩
  dsimp only at e0 e1 e6 e7 e8 e29 e30 e31
  have hnb:=hK.1
  have hKt:Kp tbl nx tb nb:=hK5.trans hK
  refine WC.seq (WC.ops (WO.lssS e31 e30 (fun hz=>?_) (fun hz=>?_)))
  ·have hq:q<(kids (w.par c)).length:=by simp only[zO] at hz;omega
   obtain⟨b,hb⟩:∃b,(kids (w.par c))[q]? = some b:=⟨(kids (w.par c))[q],List.getElem?_eq_getElem hq⟩
   have hbm:b∈kids (w.par c):=List.mem_of_getElem? hb
   obtain⟨g,_,g1,_,g2,g3⟩:=(s3.kp hKt).resolve_left fun h=>by rw[h.1] at hbm;cases hbm
   have e29':=e29
   rw[g2] at e29'
   refine WO.nil (zN (WC.seq (WC.cond_true rfl (WC.skip (zN (WC.seq (WC.block (WC.seq (WC.ops ?_)))))))))
   refine WO.idxL e29' e31 rfl hq (WO.load rfl g3 rfl (row_get hb) rfl (WO.mv rfl (WO.nil (zN (WC.seq (WC.ops (WO.mv rfl (WO.mv e1 (WO.neqS rfl rfl (fun he=>?_) (fun he=>?_))))))))))
   ·have hbc:¬b=c:=fun e=>he (by rw[e])
    have hK6:Kp tb nb ((nb,AObj.cells [vI b])::tb) (nb+1):=Kp.refl.cons (Nat.le_refl _) (Nat.le_succ _)
    have hfl:(((kids (w.par c)).take q).filter fun x=>x != c).length≤(kids (w.par c)).length:=Nat.le_trans (List.length_filter_le ..) (by rw[List.length_take];omega)
    obtain⟨u3,tb3,p1,p2,p3⟩:=row_app (lo:=n2+1) (tbl:=(nb,AObj.cells [vI b])::tb) (nx:=nb+1) (Q:=[b]) (Nat.le_succ_of_le hnb) (one_src (b:=b) (k:=nb) (by rw[zC,if_pos rfl])) (by simp) (hu.kp hK6) (by rw[List.length_singleton];omega)
    refine WO.nil (zN (WC.cond_true rfl (WC.ops (WO.mv e8 (WO.mv rfl ?_)))))
    refine WO.step (i:=.bslice 40 1 1 [.int .i64 (.ofNat 0)] [(0,.t 39)]) (v:=.slice (some ⟨nb,0,none⟩) 1 1) (m':=⟨[],(nb,.cells [vI b])::tb,nb+1⟩) rfl ?_
    refine WO.append rfl rfl p1 (WO.mv rfl (WO.nil (zB (zN (WC.ops ?_)))))
    refine WO.add e31 rfl (by simp only[zO];omega) (by simp only[zO];omega) (WO.mv rfl (WO.nil ?_))
    have k6:Kp tb (n2+1) tb3 (nb+1+1):=⟨p3.1,fun j hj=>(p3.2 j hj).trans (hK6.2 j (Nat.lt_of_lt_of_le hj hnb))⟩
    exact⟨j-1,by omega,rfl,q+1,by omega,e0,e1,e6,e7,⟨u3,rfl,by rw[filter_take hb,if_neg hbc];exact p2⟩,e29,e30,rfl,k6.1,fun j hj=>(k6.2 j hj).trans (hK.2 j hj)⟩
   ·have hbc:b=c:=Int.ofNat.inj he
    refine WO.nil (zN (WC.cond_false rfl (WC.skip (zB (zN (WC.ops ?_))))))
    refine WO.add e31 rfl (by simp only[zO];omega) (by simp only[zO];omega) (WO.mv rfl (WO.nil ?_))
    exact⟨j-1,by omega,rfl,q+1,by omega,e0,e1,e6,e7,⟨u,e8,by rw[filter_take hb,if_pos hbc,List.append_nil];exact hu⟩,e29,e30,rfl,hK⟩
  ·have hq:q=(kids (w.par c)).length:=by simp only[zO] at hz;omega
   rw[hq,List.take_length] at hu
   have hnn:n1≠n2:=by omega
   have l7:look n2 tb=some (.cells (nodeC (w.par c,w.par (w.par c),.slice ad (kids (w.par c)).length (kids (w.par c)).length))):=(hK.2 n2 (Nat.lt_succ_self _)).trans hl7
   have l6:look n1 tb=some (.cells (nodeC (c,w.par c,.slice ad' (kids c).length (kids c).length))):=(hK.2 n1 (by omega)).trans hl6'
   obtain⟨au,hau⟩:=hu.sl
   subst hau
   generalize hL:((kids (w.par c)).filter fun x=>x != c)=L at hu e8 ⊢
   refine WO.nil (zN (WC.seq (WC.cond_false rfl (WC.exit (thenC_exit (blockC_exit ?_))))))
   refine zN (WC.seq (WC.ops (WO.mv e8 (WO.fadd e7 ?_))))
   refine WO.store (vs:=[.slice au L.length L.length]) (ob':=.cells (nodeC (w.par c,w.par (w.par c),.slice au L.length L.length))) rfl rfl rfl rfl l7 rfl (zL rfl) rfl ?_
   have l6a:look n1 (AI.upd n2 (AObj.cells (nodeC (w.par c,w.par (w.par c),.slice au L.length L.length))) tb)=some (.cells (nodeC (c,w.par c,.slice ad' (kids c).length (kids c).length))):=by rw[zU hnn];exact l6
   refine WO.nil (zN (WC.seq (WC.ops (WO.fadd e6 ?_))))
   refine WO.store (v:=vI 0) (vs:=[vI 0]) (ob':=.cells (nodeC (c,0,.slice ad' (kids c).length (kids c).length))) rfl rfl rfl rfl l6a rfl (zL rfl) rfl ?_
   generalize htb:AI.upd n1 (AObj.cells (nodeC (c,0,.slice ad' (kids c).length (kids c).length))) (AI.upd n2 (AObj.cells (nodeC (w.par c,w.par (w.par c),.slice au L.length L.length))) tb)=tb2
   have m7:look n2 tb2=some (.cells (nodeC (w.par c,w.par (w.par c),.slice au L.length L.length))):=by rw[← htb,zU (fun e=>hnn e.symm)];exact zS l7
   have m6:look n1 tb2=some (.cells (nodeC (c,0,.slice ad' (kids c).length (kids c).length))):=by rw[← htb];exact zS l6a
   have hn1:nx≤n1:=hK1.1
   have hn2:nx≤n2:=by omega
   have hK7:Kp tbl nx tb2 nb:=by rw[← htb];exact(hKt.upd hn2).upd hn1
   have hoth:∀k,n2+1≤k→look k tb2=look k tb:=fun k hk=>by rw[← htb,zU (by omega),zU (by omega)]
   have hu2:KidV 0 tb2 nb (.slice au L.length L.length) L:=by
    rcases hu with h|⟨k,h0,h1,h2,h3,h4⟩
    ·exact .inl h
    ·exact .inr ⟨k,Nat.zero_le _,h1,h2,h3,(hoth k h0).trans h4⟩
   have B7:=B.kp (hK7.up (Nat.le_add_right nb 7))
   obtain⟨u1,⟨t3,n3⟩,hc1,b1,k1⟩:=rwith_run hh (n:=n) (m:=(w.par c,w.par (w.par c),.slice au L.length L.length)) (y:=(w.par c,w.par (w.par c),L)) (by rw[refN_len];omega) (fun e=>by rw[e] at hil;exact absurd hil (Nat.not_lt_zero _)) (by omega) B7 ⟨rfl,rfl,hu2.kp (Kp.refl.up (Nat.le_add_right _ _))⟩
   have hr3:KidV 0 t3 n3 (.slice ad' (kids c).length (kids c).length) (kids c):=r3.kp ((hK7.up (Nat.le_add_right nb 7)).trans k1)
   obtain⟨u2,⟨t4,n4⟩,hc2,b2,k2⟩:=rwith_run hh (n:=n) (m:=(c,0,.slice ad' (kids c).length (kids c).length)) (y:=(c,0,kids c)) (by rw[List.length_map,refN_len];omega) (fun e=>by rw[List.map_eq_nil_iff.1 e] at hil;exact absurd hil (Nat.not_lt_zero _)) (by omega) b1 ⟨rfl,rfl,hr3⟩
   obtain⟨ku,_,_,_,hu2s,_,_⟩:=id b2
   have hb7:n2<nb+7:=by omega
   have hb6:n1<nb+7:=by omega
   have ld70:(⟨[],tb2,nb+7⟩:Mem Ar).load ⟨n2,0,none⟩ 3=some (nodeC (w.par c,w.par (w.par c),.slice au L.length L.length)):=mem_load m7 rfl rfl
   have ld71:(⟨[],t3,n3⟩:Mem Ar).load ⟨n2,0,none⟩ 3=some (nodeC (w.par c,w.par (w.par c),.slice au L.length L.length)):=mem_load ((k1.2 n2 hb7).trans m7) rfl rfl
   have ld72:(⟨[],t4,n4⟩:Mem Ar).load ⟨n2,0,none⟩ 3=some (nodeC (w.par c,w.par (w.par c),.slice au L.length L.length)):=mem_load ((k2.2 n2 (Nat.lt_of_lt_of_le hb7 k1.1)).trans ((k1.2 n2 hb7).trans m7)) rfl rfl
   have ld60:(⟨[],tb2,nb+7⟩:Mem Ar).load ⟨n1,0,none⟩ 3=some (nodeC (c,0,.slice ad' (kids c).length (kids c).length)):=mem_load m6 rfl rfl
   have ld61:(⟨[],t3,n3⟩:Mem Ar).load ⟨n1,0,none⟩ 3=some (nodeC (c,0,.slice ad' (kids c).length (kids c).length)):=mem_load ((k1.2 n1 hb6).trans m6) rfl rfl
   have ld62:(⟨[],t4,n4⟩:Mem Ar).load ⟨n1,0,none⟩ 3=some (nodeC (c,0,.slice ad' (kids c).length (kids c).length)):=mem_load ((k2.2 n1 (Nat.lt_of_lt_of_le hb6 k1.1)).trans ((k1.2 n1 hb6).trans m6)) rfl rfl
   refine WO.nil (zN (WC.seq (WC.drawnW ?_)))
   refine WD.pure (ev_out e0 rfl rfl) (WD.load (m:=⟨[],tb2,nb+7⟩) (ms:=[]) (v:=.agg ⟨nodeC (w.par c,w.par (w.par c),.slice au L.length L.length)⟩) (ev_out e7 rfl rfl) ld70 rfl ?_)
   refine WD.chn (m:=⟨[],tb2,nb+7⟩) (m':=⟨[],t3,n3⟩) (v:=u1) rfl rfl rfl (estep_call (m:=⟨[],tb2,nb+7⟩) (h:=⟨t3,n3⟩) (vs:=[.slice (some ⟨kq,0,none⟩) (refN w S kids).length (refN w S kids).length,.agg ⟨nodeC (w.par c,w.par (w.par c),.slice au L.length L.length)⟩]) rfl rfl hc1) ?_
   refine WD.load (m:=⟨[],t3,n3⟩) (v:=.agg ⟨nodeC (c,0,.slice ad' (kids c).length (kids c).length)⟩) (ev_out e6 rfl rfl) ld61 rfl ?_
   refine WD.chn (m:=⟨[],t3,n3⟩) (m':=⟨[],t4,n4⟩) (v:=u2) rfl rfl rfl (estep_call (m:=⟨[],t3,n3⟩) (h:=⟨t4,n4⟩) (vs:=[u1,.agg ⟨nodeC (c,0,.slice ad' (kids c).length (kids c).length)⟩]) rfl rfl hc2) ?_
   refine WD.pure rfl (WD.pure rfl (WD.nil ⟨?_,_,_,rfl,?_⟩))
   ·simp only[heldAll,loadsIn,ld70,ld71,ld72,ld60,ld61,ld62,ceqs_node]
    rfl
   ·have hK8:Kp tbl nx t4 n4:=((hK7.up (Nat.le_add_right nb 7)).trans k1).trans k2
    subst hu2s
    refine zN (WC.ret ⟨_,_,rfl,rfl,.inr ⟨he',_,rfl,?_⟩,hK8⟩)
    rw[← cut_refN hpc,hL]
    exact b2.low (Nat.zero_le _)
end Go.AI
/- The document's trees: Add: the walk. -/
namespace Go.AI
open Go.Proofs
open Go.Fo (Wd Un Pre)
variable {tbl t' t'':List (Nat×AObj Ar)}{nx n' n'' lo:Nat}{w:Wd}{S:List Nat}{kids:Nat→List Nat}{d:Nat→Nat}
theorem add_refN{p c:Nat}(h:p≠c):((refN w S kids).map (withT (p,w.par p,kids p++[c]))).map (withT (c,p,kids c))=refN (Go.Fo.addW w p c) S (Go.Fo.addK kids p c):=by
 unfold refN
 rw[List.map_map,List.map_map]
 refine List.map_congr_left fun a _=>?_
 show withT (c,p,kids c) (withT (p,w.par p,kids p++[c]) (a,w.par a,kids a))=(a,Go.Fo.up w.par c p a,if a=p then kids p++[c] else kids a)
 unfold withT Go.Fo.up
 dsimp only
 by_cases e:a=p
 ·subst e
  rw[if_pos rfl]
  dsimp only
  rw[if_neg h,if_neg h,if_pos rfl]
 ·rw[if_neg e]
  dsimp only
  rw[if_neg e]
  by_cases e2:a=c
  ·subst e2
   rw[if_pos rfl,if_pos rfl]
  ·rw[if_neg e2,if_neg e2]
theorem upd_next{α:Type}{k j:Nat}{y z:α}{l:List (Nat×α)}(h:k≠j):upd k z ((j,y)::l)=(j,y)::upd k z l:=by
 show(bif Nat.beq k j then(j,z)::l else(j,y)::upd k z l)=_
 rw[beq_no h,cond_false]
theorem row_app0{y:Value}{Q:List Nat}{lo2:Nat}(hy:KidV lo2 tbl nx y Q)(hl:Q.length<90000) :
  ∃u tb nb,appendM ⟨[],tbl,nx⟩ 1 8 3 (.slice none 0 0) y=some (u,⟨[],tb,nb⟩)∧KidV nx tb nb u Q∧Kp tbl nx tb nb:=by
 rcases hy with⟨rfl,rfl⟩|⟨k,k0,k1,k2,rfl,hk⟩
 ·exact⟨_,_,_,rfl,.inl ⟨rfl,rfl⟩,Kp.refl⟩
 ·obtain⟨u,tb,q1,q2,q3⟩:=row_app (lo:=nx) (v:=.slice none 0 0) (P:=[]) (Nat.le_refl _) (row_src (nx:=nx) k2 hk) k2 (.inl ⟨rfl,rfl⟩) (by rw[List.length_nil];omega)
  exact⟨u,tb,_,q1,q2,q3⟩
theorem radd_run{hk:List (HookF Ar)}(hh:NoHk hk)(I:Go.Fo.Inv w S kids d)(hS:S.length<800)(hnd:S.Nodup){v:Value}{n p c:Nat}(hn:2000≤n)(hp:p∈S)(hc:c∈S)(B:Bk lo tbl nx v (refN w S kids)) :
  ∃u h',RF1 hk (n+3) 19 [v,vI p,vI c] ⟨tbl,nx⟩=some (u,h')∧((w.par c≠0∧u = .tuple ⟨[v,vI 9]⟩∨w.par c=0∧Un w c p∧u = .tuple ⟨[v,vI 12]⟩∨w.par c=0∧¬Un w c p∧∃v',u = .tuple ⟨[v',vI 0]⟩∧Bk 0 h'.tbl h'.next v' (refN (Go.Fo.addW w p c) S (Go.Fo.addK kids p c)))∧Kp tbl nx h'.tbl h'.next):=by
 obtain⟨i,hi,hf⟩:=refN_at (w:=w) (kids:=kids) hnd hc
 have hil:i<(refN w S kids).length:=(List.getElem?_eq_some_iff.1 hi).1
 obtain⟨kq,M,_,hk1,rfl,hk2,hM⟩:=id B
 obtain⟨m,hm,r1,r2,r3⟩:=all2_at hM hi
 obtain⟨mc,mp,mk⟩:=m
 replace r1:c=mc:=r1.symm
 replace r2:w.par c=mp:=r2.symm
 replace r3:KidV 0 tbl nx mk (kids c):=r3
 subst r1
 subst r2
 have htk:takeN (nodesC M) (0+i*3) 3=some (nodeC (c,w.par c,mk)):=by rw[Nat.zero_add];exact nodes_get hm
 refine run_fn hh.add fRAdd (zL rfl) ?_
 dsimp only[iRAdd,argsE]
 refine WC.seq (WC.ops (WO.mv rfl (WO.mv rfl (WO.nil (zN (WC.seq (WC.seq (WC.ops (WO.mv rfl (WO.mv rfl ?_))))))))))
 refine WO.fcall_ex (vs:=[.slice (some ⟨kq,0,none⟩) (refN w S kids).length (refN w S kids).length,vI c]) rfl rfl (parent_run hh.find hh.par (n:=n) (y:=(c,w.par c,kids c)) (by rw[refN_len];omega) (by omega) B hi hf) ?_
 rintro u ⟨t1,n1⟩ ⟨rfl,hK1⟩
 refine WO.neqS rfl rfl (fun he=>?_) (fun he=>?_)
 ·have he':w.par c≠0:=fun e=>he (by rw[e])
  refine WO.nil (zN (WC.cond_true rfl (WC.seq (WC.ops (WO.mv rfl (WO.mv rfl (WO.mv rfl (WO.nil (zN (WC.ret (thenC_ret ⟨_,_,rfl,rfl,.inl ⟨he',rfl⟩,hK1⟩)))))))))))
 ·have he':w.par c=0:=Int.ofNat.inj he
  refine WO.nil (zN (WC.cond_false rfl (WC.skip (zN (WC.seq (WC.seq (WC.ops (WO.mv rfl (WO.mv rfl (WO.mv rfl ?_))))))))))
  refine WO.fcall_ex (vs:=[.slice (some ⟨kq,0,none⟩) (refN w S kids).length (refN w S kids).length,vI p,vI c]) rfl rfl (runder_run hh I hS hnd (n:=n) (a:=p) (top:=c) (by omega) hc (B.kp hK1)) ?_
  rintro u ⟨t2,n2⟩ ⟨rfl,hK2⟩
  have hK12:=hK1.trans hK2
  by_cases hu:Un w c p
  ·rw[decide_eq_true ((I.un_iff hc hp).1 hu)]
   refine WO.nil (zN (WC.cond_true rfl (WC.seq (WC.ops (WO.mv rfl (WO.mv rfl (WO.mv rfl (WO.nil (zN (WC.ret (thenC_ret ⟨_,_,rfl,rfl,.inr (.inl ⟨he',hu,rfl⟩),hK12⟩)))))))))))
  ·obtain⟨i2,hi2,hf2⟩:=refN_at (w:=w) (kids:=kids) hnd hp
   have hil2:i2<(refN w S kids).length:=(List.getElem?_eq_some_iff.1 hi2).1
   have hpc:p≠c:=fun e=>hu (e▸Un.refl)
   obtain⟨m2,hm2,s1,s2,s3⟩:=all2_at hM hi2
   obtain⟨pc,pp,pk⟩:=m2
   replace s1:p=pc:=s1.symm
   replace s2:w.par p=pp:=s2.symm
   replace s3:KidV 0 tbl nx pk (kids p):=s3
   subst s1
   subst s2
   have htk2:takeN (nodesC M) (0+i2*3) 3=some (nodeC (p,w.par p,pk)):=by rw[Nat.zero_add];exact nodes_get hm2
   obtain⟨ad,hpk⟩:=s3.sl
   obtain⟨ad',hmk⟩:=r3.sl
   subst hpk
   subst hmk
   have h5:=Go.Fo.nodup_len _ _ (I.nd _ hp) fun y hy=>(I.kid hp hy).1
   have hK2a:Kp tbl nx t2 (n2+16):=hK12.up (Nat.le_add_right _ _)
   obtain⟨u,⟨t3,n3⟩,hc1,rfl,k3⟩:=find_run hh.find (n:=n+1) (y:=(p,w.par p,kids p)) (by rw[refN_len];omega) (by omega) (B.kp hK2a) hi2 hf2
   have hK3:=hK2a.trans k3
   obtain⟨u,⟨t4,n4⟩,hc2,rfl,k4⟩:=find_run hh.find (n:=n+1) (y:=(c,w.par c,kids c)) (by rw[refN_len];omega) (by omega) (B.kp hK3) hi hf
   have hK4:=hK3.trans k4
   have hn3:n2+16≤n3:=k3.1
   have hn4:n3≤n4:=k4.1
   have hn2:nx≤n2:=hK12.1
   rw[decide_eq_false (fun h=>hu ((I.un_iff hc hp).2 h))]
   refine WO.nil (zN (WC.cond_false rfl (WC.skip (zN (WC.seq (WC.drawnW ?_))))))
   have hkq:∀(t:List (Nat×AObj Ar)) (m:Nat),Kp tbl nx t m→look kq t=some (.grown 3 84 (nodesC M)):=fun t m h=>(h.2 kq hk1).trans hk2
   have hq12:kq≠n2+12:=by omega
   have hq13:kq≠n2+13:=by omega
   have lp:∀(t:List (Nat×AObj Ar)) (m m':Nat),Kp tbl nx t m→(⟨[],t,m'⟩:Mem Ar).load ⟨kq,0+i2*3,none⟩ 3=some (nodeC (p,w.par p,.slice ad (kids p).length (kids p).length)):=fun t m m' h=>mem_load (hkq t m h) rfl htk2
   have lc:∀(t:List (Nat×AObj Ar)) (m m':Nat),Kp tbl nx t m→(⟨[],t,m'⟩:Mem Ar).load ⟨kq,0+i*3,none⟩ 3=some (nodeC (c,w.par c,.slice ad' (kids c).length (kids c).length)):=fun t m m' h=>mem_load (hkq t m h) rfl htk
   have kA:Kp tbl nx ((n2+12,AObj.cells (nodeC (p,w.par p,.slice ad (kids p).length (kids p).length)))::(n2+13,.cells [.int .i64 (.ofNat 0),.int .i64 (.ofNat 0),.slice none 0 0])::t4) n4:=(hK4.cons (by omega) (Nat.le_refl _)).cons (by omega) (Nat.le_refl _)
   have kB:Kp tbl nx ((n2+12,AObj.cells (nodeC (p,w.par p,.slice ad (kids p).length (kids p).length)))::(n2+13,.cells (nodeC (c,w.par c,.slice ad' (kids c).length (kids c).length)))::t4) n4:=(hK4.cons (by omega) (Nat.le_refl _)).cons (by omega) (Nat.le_refl _)
   have l0:=lp _ _ (n2+16) hK2a
   have l1:=lp _ _ n3 hK3
   have l2:=lp _ _ n4 hK4
   have l3:=lp _ _ n4 kA
   have l4:=lp _ _ n4 kB
   have c0:=lc _ _ (n2+16) hK2a
   have c1:=lc _ _ n3 hK3
   have c2:=lc _ _ n4 hK4
   have c3:=lc _ _ n4 kA
   have c4:=lc _ _ n4 kB
   have st1:(⟨[],(n2+12,.cells [.int .i64 (.ofNat 0),.int .i64 (.ofNat 0),.slice none 0 0])::(n2+13,.cells [.int .i64 (.ofNat 0),.int .i64 (.ofNat 0),.slice none 0 0])::t4,n4⟩:Mem Ar).store ⟨n2+12,0,none⟩ (nodeC (p,w.par p,.slice ad (kids p).length (kids p).length))=some ⟨[],(n2+12,.cells (nodeC (p,w.par p,.slice ad (kids p).length (kids p).length)))::(n2+13,.cells [.int .i64 (.ofNat 0),.int .i64 (.ofNat 0),.slice none 0 0])::t4,n4⟩:=by
    have hs:=mem_store (nx:=n4) (vs:=nodeC (p,w.par p,.slice ad (kids p).length (kids p).length)) (o:=0) (ob':=.cells (splice [.int .i64 (.ofNat 0),.int .i64 (.ofNat 0),.slice none 0 0] 0 (nodeC (p,w.par p,.slice ad (kids p).length (kids p).length)))) (tbl:=(n2+12,.cells [.int .i64 (.ofNat 0),.int .i64 (.ofNat 0),.slice none 0 0])::(n2+13,.cells [.int .i64 (.ofNat 0),.int .i64 (.ofNat 0),.slice none 0 0])::t4) (i:=n2+12) (by rw[zC,if_pos rfl]) rfl (zL rfl) rfl
    rw[upd_head] at hs
    exact hs
   have st2:(⟨[],(n2+12,.cells (nodeC (p,w.par p,.slice ad (kids p).length (kids p).length)))::(n2+13,.cells [.int .i64 (.ofNat 0),.int .i64 (.ofNat 0),.slice none 0 0])::t4,n4⟩:Mem Ar).store ⟨n2+13,0,none⟩ (nodeC (c,w.par c,.slice ad' (kids c).length (kids c).length))=some ⟨[],(n2+12,.cells (nodeC (p,w.par p,.slice ad (kids p).length (kids p).length)))::(n2+13,.cells (nodeC (c,w.par c,.slice ad' (kids c).length (kids c).length)))::t4,n4⟩:=by
    have hs:=mem_store (nx:=n4) (vs:=nodeC (c,w.par c,.slice ad' (kids c).length (kids c).length)) (o:=0) (ob':=.cells (splice [.int .i64 (.ofNat 0),.int .i64 (.ofNat 0),.slice none 0 0] 0 (nodeC (c,w.par c,.slice ad' (kids c).length (kids c).length)))) (tbl:=(n2+12,.cells (nodeC (p,w.par p,.slice ad (kids p).length (kids p).length)))::(n2+13,.cells [.int .i64 (.ofNat 0),.int .i64 (.ofNat 0),.slice none 0 0])::t4) (i:=n2+13) (by rw[zC,if_neg (by show¬n2+13=n2+12;omega),zC,if_pos rfl]) rfl (zL rfl) rfl
    rw[upd_next (by omega),upd_head] at hs
    exact hs
   refine WD.pure rfl (WD.pure rfl (WD.pure rfl ?_))
   refine WD.chn (m:=⟨[],t2,n2+16⟩) (m':=⟨[],t3,n3⟩) (v:=.int .i64 (Int.ofNat i2)) rfl rfl rfl (estep_call (m:=⟨[],t2,n2+16⟩) (h:=⟨t3,n3⟩) (vs:=[.slice (some ⟨kq,0,none⟩) (refN w S kids).length (refN w S kids).length,vI p]) rfl rfl hc1) ?_
   refine WD.pure (pv_idxZ rfl rfl rfl hil2) (WD.load (m:=⟨[],t3,n3⟩) (v:=.agg ⟨nodeC (p,w.par p,.slice ad (kids p).length (kids p).length)⟩) rfl l1 rfl ?_)
   refine WD.pure rfl (WD.pure rfl (WD.pure rfl ?_))
   refine WD.chn (m:=⟨[],t3,n3⟩) (m':=⟨[],t4,n4⟩) (v:=.int .i64 (Int.ofNat i)) rfl rfl rfl (estep_call (m:=⟨[],t3,n3⟩) (h:=⟨t4,n4⟩) (vs:=[.slice (some ⟨kq,0,none⟩) (refN w S kids).length (refN w S kids).length,vI c]) rfl rfl hc2) ?_
   refine WD.pure (pv_idxZ rfl rfl rfl hil) (WD.load (m:=⟨[],t4,n4⟩) (v:=.agg ⟨nodeC (c,w.par c,.slice ad' (kids c).length (kids c).length)⟩) rfl c2 rfl ?_)
   refine WD.alloc rfl rfl (WD.alloc rfl rfl ?_)
   refine WD.chn (m:=⟨[],t4,n4⟩) (m':=⟨[],(n2+12,.cells (nodeC (p,w.par p,.slice ad (kids p).length (kids p).length)))::(n2+13,.cells [.int .i64 (.ofNat 0),.int .i64 (.ofNat 0),.slice none 0 0])::t4,n4⟩) (v:=undef) rfl rfl rfl (estep_store (vs:=nodeC (p,w.par p,.slice ad (kids p).length (kids p).length)) rfl rfl rfl rfl st1) ?_
   refine WD.chn (m:=⟨[],(n2+12,.cells (nodeC (p,w.par p,.slice ad (kids p).length (kids p).length)))::(n2+13,.cells [.int .i64 (.ofNat 0),.int .i64 (.ofNat 0),.slice none 0 0])::t4,n4⟩) (m':=⟨[],(n2+12,.cells (nodeC (p,w.par p,.slice ad (kids p).length (kids p).length)))::(n2+13,.cells (nodeC (c,w.par c,.slice ad' (kids c).length (kids c).length)))::t4,n4⟩) (v:=undef) rfl rfl rfl (estep_store (vs:=nodeC (c,w.par c,.slice ad' (kids c).length (kids c).length)) rfl rfl rfl rfl st2) ?_
   refine WD.nil ⟨?_,_,_,rfl,?_⟩
   ·simp only[heldAll,loadsIn,l0,l1,l2,l3,l4,c0,c1,c2,c3,c4,ceqs_node]
    rfl
   ·refine zN (WC.seq (WC.ops (WO.mv rfl (WO.nil (zN (WC.seq (WC.ops (WO.mv rfl (WO.fadd rfl ?_)))))))))
    have hl8:look (n2+12) ((n2+12,AObj.cells (nodeC (p,w.par p,.slice ad (kids p).length (kids p).length)))::(n2+13,.cells (nodeC (c,w.par c,.slice ad' (kids c).length (kids c).length)))::t4)=some (.cells (nodeC (p,w.par p,.slice ad (kids p).length (kids p).length))):=by rw[zC,if_pos rfl]
    have hl9:look (n2+13) ((n2+12,AObj.cells (nodeC (p,w.par p,.slice ad (kids p).length (kids p).length)))::(n2+13,.cells (nodeC (c,w.par c,.slice ad' (kids c).length (kids c).length)))::t4)=some (.cells (nodeC (c,w.par c,.slice ad' (kids c).length (kids c).length))):=by rw[zC,if_neg (by show¬n2+13=n2+12;omega),zC,if_pos rfl]
    refine WO.load (v:=.slice ad (kids p).length (kids p).length) rfl hl8 rfl rfl rfl ?_
    obtain⟨u1,t5,n5,p1,p2,p3⟩:=row_app0 (tbl:=(n2+12,AObj.cells (nodeC (p,w.par p,.slice ad (kids p).length (kids p).length)))::(n2+13,.cells (nodeC (c,w.par c,.slice ad' (kids c).length (kids c).length)))::t4) (nx:=n4) (s3.kp kB) (by omega)
    refine WO.append rfl rfl p1 (WO.mv rfl (WO.nil (zN (WC.seq (WC.ops (WO.mv rfl (WO.mv rfl ?_)))))))
    refine WO.step (i:=.bslice 39 1 1 [.int .i64 (.ofNat 0)] [(0,.t 38)]) (v:=.slice (some ⟨n5,0,none⟩) 1 1) (m':=⟨[],(n5,.cells [vI c])::t5,n5+1⟩) rfl ?_
    have hK5:Kp t5 n5 ((n5,AObj.cells [vI c])::t5) (n5+1):=Kp.refl.cons (Nat.le_refl _) (Nat.le_succ _)
    obtain⟨u2,t6,q1,q2,q3⟩:=row_app (lo:=n4) (tbl:=(n5,AObj.cells [vI c])::t5) (nx:=n5+1) (Q:=[c]) (Nat.le_succ_of_le p3.1) (one_src (b:=c) (k:=n5) (by rw[zC,if_pos rfl])) (by simp) (p2.kp hK5) (by rw[List.length_singleton];omega)
    have hK6:Kp ((n2+12,AObj.cells (nodeC (p,w.par p,.slice ad (kids p).length (kids p).length)))::(n2+13,.cells (nodeC (c,w.par c,.slice ad' (kids c).length (kids c).length)))::t4) n4 t6 (n5+1+1):=⟨q3.1,fun j hj=>(q3.2 j hj).trans ((hK5.2 j (Nat.lt_of_lt_of_le hj p3.1)).trans (p3.2 j hj))⟩
    have l8:look (n2+12) t6=some (.cells (nodeC (p,w.par p,.slice ad (kids p).length (kids p).length))):=(hK6.2 (n2+12) (by omega)).trans hl8
    have l9:look (n2+13) t6=some (.cells (nodeC (c,w.par c,.slice ad' (kids c).length (kids c).length))):=(hK6.2 (n2+13) (by omega)).trans hl9
    obtain⟨au,hau⟩:=q2.sl
    subst hau
    generalize hL:kids p++[c]=L at q1 q2 ⊢
    refine WO.append rfl rfl q1 (WO.fadd rfl ?_)
    refine WO.store (vs:=[.slice au L.length L.length]) (ob':=.cells (nodeC (p,w.par p,.slice au L.length L.length))) rfl rfl rfl rfl l8 rfl (zL rfl) rfl ?_
    have l9a:look (n2+13) (AI.upd (n2+12) (AObj.cells (nodeC (p,w.par p,.slice au L.length L.length))) t6)=some (.cells (nodeC (c,w.par c,.slice ad' (kids c).length (kids c).length))):=by rw[zU (by omega)];exact l9
    refine WO.nil (zN (WC.seq (WC.ops (WO.mv rfl (WO.fadd rfl ?_)))))
    refine WO.store (v:=vI p) (vs:=[vI p]) (ob':=.cells (nodeC (c,p,.slice ad' (kids c).length (kids c).length))) rfl rfl rfl rfl l9a rfl (zL rfl) rfl ?_
    generalize htb:AI.upd (n2+13) (AObj.cells (nodeC (c,p,.slice ad' (kids c).length (kids c).length))) (AI.upd (n2+12) (AObj.cells (nodeC (p,w.par p,.slice au L.length L.length))) t6)=tb2
    generalize hnb:n5+1+1=nb at hK6 q2 ⊢
    have m8:look (n2+12) tb2=some (.cells (nodeC (p,w.par p,.slice au L.length L.length))):=by rw[← htb,zU (by omega)];exact zS l8
    have m9:look (n2+13) tb2=some (.cells (nodeC (c,p,.slice ad' (kids c).length (kids c).length))):=by rw[← htb];exact zS l9a
    have hn46:=hK6.1
    have hK7:Kp tbl nx tb2 nb:=by rw[← htb];exact((kB.trans hK6).upd (k:=n2+12) (Nat.le_trans hn2 (Nat.le_add_right _ _))).upd (k:=n2+13) (Nat.le_trans hn2 (Nat.le_add_right _ _))
    have hoth:∀k,n4≤k→look k tb2=look k t6:=fun k hk=>by rw[← htb,zU (by omega),zU (by omega)]
    have hu2:KidV 0 tb2 nb (.slice au L.length L.length) L:=by
     rcases q2 with h|⟨k,h0,h1,h2,h3,h4⟩
     ·exact .inl h
     ·exact .inr ⟨k,Nat.zero_le _,h1,h2,h3,(hoth k h0).trans h4⟩
    have B7:=B.kp (hK7.up (Nat.le_add_right nb 7))
    obtain⟨u3,⟨t7,n7⟩,hd1,b1,k1⟩:=rwith_run hh (n:=n+1) (m:=(p,w.par p,.slice au L.length L.length)) (y:=(p,w.par p,L)) (by rw[refN_len];omega) (fun e=>by rw[e] at hil;exact absurd hil (Nat.not_lt_zero _)) (by omega) B7 ⟨rfl,rfl,hu2.kp (Kp.refl.up (Nat.le_add_right _ _))⟩
    have hr3:KidV 0 t7 n7 (.slice ad' (kids c).length (kids c).length) (kids c):=r3.kp ((hK7.up (Nat.le_add_right nb 7)).trans k1)
    obtain⟨u4,⟨t8,n8⟩,hd2,b2,k2⟩:=rwith_run hh (n:=n+1) (m:=(c,p,.slice ad' (kids c).length (kids c).length)) (y:=(c,p,kids c)) (by rw[List.length_map,refN_len];omega) (fun e=>by rw[List.map_eq_nil_iff.1 e] at hil;exact absurd hil (Nat.not_lt_zero _)) (by omega) b1 ⟨rfl,rfl,hr3⟩
    obtain⟨ku,_,_,_,hu4s,_,_⟩:=id b2
    have hb7:n2+12<nb+7:=by omega
    have hb6:n2+13<nb+7:=by omega
    have ld70:(⟨[],tb2,nb+7⟩:Mem Ar).load ⟨n2+12,0,none⟩ 3=some (nodeC (p,w.par p,.slice au L.length L.length)):=mem_load m8 rfl rfl
    have ld71:(⟨[],t7,n7⟩:Mem Ar).load ⟨n2+12,0,none⟩ 3=some (nodeC (p,w.par p,.slice au L.length L.length)):=mem_load ((k1.2 _ hb7).trans m8) rfl rfl
    have ld72:(⟨[],t8,n8⟩:Mem Ar).load ⟨n2+12,0,none⟩ 3=some (nodeC (p,w.par p,.slice au L.length L.length)):=mem_load ((k2.2 _ (Nat.lt_of_lt_of_le hb7 k1.1)).trans ((k1.2 _ hb7).trans m8)) rfl rfl
    have ld60:(⟨[],tb2,nb+7⟩:Mem Ar).load ⟨n2+13,0,none⟩ 3=some (nodeC (c,p,.slice ad' (kids c).length (kids c).length)):=mem_load m9 rfl rfl
    have ld61:(⟨[],t7,n7⟩:Mem Ar).load ⟨n2+13,0,none⟩ 3=some (nodeC (c,p,.slice ad' (kids c).length (kids c).length)):=mem_load ((k1.2 _ hb6).trans m9) rfl rfl
    have ld62:(⟨[],t8,n8⟩:Mem Ar).load ⟨n2+13,0,none⟩ 3=some (nodeC (c,p,.slice ad' (kids c).length (kids c).length)):=mem_load ((k2.2 _ (Nat.lt_of_lt_of_le hb6 k1.1)).trans ((k1.2 _ hb6).trans m9)) rfl rfl
    refine WO.nil (zN (WC.seq (WC.drawnW ?_)))
    refine WD.pure rfl (WD.load (m:=⟨[],tb2,nb+7⟩) (ms:=[]) (v:=.agg ⟨(nodeC (p,w.par p,.slice au L.length L.length))⟩) rfl ld70 rfl ?_)
    refine WD.chn (m:=⟨[],tb2,nb+7⟩) (m':=⟨[],t7,n7⟩) (v:=u3) rfl rfl rfl (estep_call (m:=⟨[],tb2,nb+7⟩) (h:=⟨t7,n7⟩) (vs:=[.slice (some ⟨kq,0,none⟩) (refN w S kids).length (refN w S kids).length,.agg ⟨(nodeC (p,w.par p,.slice au L.length L.length))⟩]) rfl rfl hd1) ?_
    refine WD.load (m:=⟨[],t7,n7⟩) (v:=.agg ⟨(nodeC (c,p,.slice ad' (kids c).length (kids c).length))⟩) rfl ld61 rfl ?_
    refine WD.chn (m:=⟨[],t7,n7⟩) (m':=⟨[],t8,n8⟩) (v:=u4) rfl rfl rfl (estep_call (m:=⟨[],t7,n7⟩) (h:=⟨t8,n8⟩) (vs:=[u3,.agg ⟨(nodeC (c,p,.slice ad' (kids c).length (kids c).length))⟩]) rfl rfl hd2) ?_
    refine WD.pure rfl (WD.pure rfl (WD.nil ⟨?_,_,_,rfl,?_⟩))
    ·simp only[heldAll,loadsIn,ld70,ld71,ld72,ld60,ld61,ld62,ceqs_node]
     rfl
    ·have hK8:Kp tbl nx t8 n8:=((hK7.up (Nat.le_add_right nb 7)).trans k1).trans k2
     subst hu4s
     refine zN (WC.ret ⟨_,_,rfl,rfl,.inr (.inr ⟨he',hu,_,rfl,?_⟩),hK8⟩)
     rw[← add_refN hpc,hL]
     exact b2.low (Nat.zero_le _)
end Go.AI
/- Two rows of the same numbers are equal: the walk. -/
namespace Go.AI
open Go.Proofs
open Go.Fo (Wd Un Pre)
variable {tbl t' t'':List (Nat×AObj Ar)}{nx n' n'' lo:Nat}
theorem pv_neqR{env:List (Nat×Value)}{x y:Opd}{a:Nat}(hx:evo env x=some (nI a))(hy:evo env y=some (nI a)):peval env (.bin .neq .no x y)=some (.bool false):=by
 simp only[peval,hx,hy]
 show some (Value.bool (!ieqF (.ofNat a) (.ofNat a)))=_
 rw[ieqF_refl]
 rfl
theorem requal_run{hk:List (HookF Ar)}(hh:hookL hk 23=none){n l1 l2:Nat}{L:List Nat}{v y:Value}(hL:L.length<900)(hn:1001≤n)(hv:KidV l1 tbl nx v L)(hy:KidV l2 tbl nx y L) :
  ∃u h',RF1 hk (n+1) 23 [v,y] ⟨tbl,nx⟩=some (u,h')∧(u = .bool true∧Kp tbl nx h'.tbl h'.next):=by
 obtain⟨a1,hv1⟩:=hv.sl
 obtain⟨a2,hy1⟩:=hy.sl
 subst hv1
 subst hy1
 refine run_fn hh fREqual (zL rfl) ?_
 dsimp only[iREqual,argsE]
 refine WC.seq (WC.ops (WO.mv rfl (WO.nil (zN (WC.seq (WC.seq (WC.ops (WO.mv rfl (WO.len rfl (WO.mv rfl (WO.len rfl (WO.neqS rfl rfl (fun he=>absurd rfl he) (fun _=>?_)))))))))))))
 refine WO.nil (zN (WC.cond_false rfl (WC.skip (zN (WC.seq (WC.seq (WC.ops (WO.mv rfl (WO.len rfl (WO.mv rfl (WO.nil (zN (WC.block ?_)))))))))))))
 refine WC.loop (fun j e tb nb=>∃q,q+j=L.length∧e 0=some (.slice a1 L.length L.length)∧e 1=some (.slice a2 L.length L.length)∧e 12=some (.int .i64 (Int.ofNat L.length))∧e 13=some (.int .i64 (Int.ofNat q))∧Kp tbl nx tb nb) (k:=L.length) (by omega)
  ⟨0,by omega,rfl,rfl,rfl,rfl,Kp.refl⟩ ?_
 rintro j e tb nb ⟨q,hj,e0,e1,e12,e13,hK⟩
 dsimp only at e0 e1 e12 e13
 refine WC.seq (WC.ops (WO.lssS e13 e12 (fun hz=>?_) (fun hz=>?_)))
 ·have hq:q<L.length:=by simp only[zO] at hz;omega
  have hne:L≠[]:=fun e=>by rw[e] at hq;exact absurd hq (Nat.not_lt_zero _)
  obtain⟨b,hb⟩:∃b,L[q]? = some b:=⟨L[q],List.getElem?_eq_getElem hq⟩
  obtain⟨g,_,g1,_,g2,g3⟩:=(hv.kp hK).resolve_left fun h=>hne h.1
  obtain⟨f,_,f1,_,f2,f3⟩:=(hy.kp hK).resolve_left fun h=>hne h.1
  rw[g2] at e0
  rw[f2] at e1
  have ld1:∀m,(⟨[],tb,m⟩:Mem Ar).load ⟨g,0+q*1,none⟩ 1=some [nI b]:=fun m=>mem_load g3 rfl (row_get hb)
  have ld2:∀m,(⟨[],tb,m⟩:Mem Ar).load ⟨f,0+q*1,none⟩ 1=some [nI b]:=fun m=>mem_load f3 rfl (row_get hb)
  have ci:ceqs [nI b] [nI b]=true:=ceqs_int _ _
  refine WO.nil (zN (WC.seq (WC.cond_true rfl (WC.skip (zN (WC.seq (WC.block (WC.seq (WC.ops (WO.mv e13 (WO.mv rfl (WO.nil (zN (WC.seq (WC.drawnW ?_)))))))))))))))
  refine WD.pure (ev_out e0 rfl rfl) (WD.pure (ev_out (v:=.int .i64 (Int.ofNat q)) rfl rfl rfl) (WD.pure (pv_idxZ rfl rfl rfl hq) (WD.load rfl (ld1 _) rfl ?_)))
  refine WD.pure (ev_out e1 rfl rfl) (WD.pure (ev_out (v:=.int .i64 (Int.ofNat q)) rfl rfl rfl) (WD.pure (pv_idxZ rfl rfl rfl hq) (WD.load rfl (ld2 _) rfl ?_)))
  refine WD.pure (pv_neqR (a:=b) rfl rfl) (WD.nil ⟨?_,_,_,rfl,?_⟩)
  ·simp only[heldAll,loadsIn,ld1,ld2,ci]
   rfl
  ·refine zN (WC.cond_false rfl (WC.skip (zB (zN (WC.ops ?_)))))
   refine WO.add e13 rfl (by simp only[zO];omega) (by simp only[zO];omega) (WO.mv rfl (WO.nil ?_))
   exact⟨j-1,by omega,rfl,q+1,by omega,e0.trans (by rw[g2]),e1.trans (by rw[f2]),e12,rfl,hK.up (Nat.le_add_right _ _)⟩
 ·refine WO.nil (zN (WC.seq (WC.cond_false rfl (WC.exit (thenC_exit (blockC_exit ?_))))))
  exact zN (WC.seq (WC.ops (WO.mv rfl (WO.nil (zN (WC.ret ⟨_,_,rfl,rfl,rfl,hK⟩))))))
end Go.AI
