/- The document's trees: what is said of them; find, Parent, Children: the walks. -/
import Derived.Test.YtohdfkipbgnkoaaGreatDoorKTr
import Derived.Test.YtohdfkipbgnkoaaGreatDoorKIf
namespace Go.AI
open Go.Proofs
variable {tbl t' t'':LO}{nx n' n'' lo:Nat}
def Kp(t:LO)(n:Nat)(t':LO)(n':Nat):Prop:=n≤n'∧∀j,j<n→aa j t'=aa j t
theorem Kp.refl:Kp tbl nx tbl nx:=⟨Ze _,fun _ _=>rfl⟩
theorem Kp.trans(a:Kp tbl nx t' n')(b:Kp t' n' t'' n''):Kp tbl nx t'' n'':=⟨ZE a.1 b.1,fun j hj=>(b.2 j (Zj hj a.1)).trans (a.2 j hj)⟩
theorem Kp.cons(a:Kp tbl nx t' n'){k m:Nat}{o:AObj Ar}(hk:nx≤k)(hm:n'≤m):Kp tbl nx ((k,o)::t') m:=⟨ZE a.1 hm,fun j hj=>by rw[zC,if_neg (by show¬j=k;omega)];exact a.2 j hj⟩
theorem Kp.del(a:Kp tbl nx t' n'){k:Nat}(hk:nx≤k):Kp tbl nx (AI.del k t') n':=⟨a.1,fun j hj=>by rw[eu (by omega)];exact a.2 j hj⟩
theorem Kp.upd(a:Kp tbl nx t' n'){k:Nat}{o:AObj Ar}(hk:nx≤k):Kp tbl nx (AI.upd k o t') n':=⟨a.1,fun j hj=>by rw[zU (by omega)];exact a.2 j hj⟩
theorem Kp.up(a:Kp tbl nx t' n'){m:Nat}(hm:n'≤m):Kp tbl nx t' m:=⟨ZE a.1 hm,a.2⟩
abbrev eR:=Nat×Nat×List Nat
abbrev ee:=Nat×Nat×Value
def ak(m:ee):List Value:=[nI m.1,nI m.2.1,m.2.2]
def bE(M:List ee):List Value:=M.flatMap ak
def KidV(lo:Nat)(tbl:LO)(nx:Nat)(c:Value)(L:List Nat):Prop :=
 (L=[]∧c = .slice none 0 0)∨∃k,lo≤k∧k<nx∧L≠[]∧c = .slice (some ⟨k,0,none⟩) L.length L.length∧aa k tbl=some (.grown 1 3 (L.map nI))
def NodeR(tbl:LO)(nx:Nat)(m:ee)(n:eR):Prop:=m.1=n.1∧m.2.1=n.2.1∧KidV 0 tbl nx m.2.2 n.2.2
def Bk(lo:Nat)(tbl:LO)(nx:Nat)(v:Value)(N:List eR):Prop :=
 ∃k M,lo≤k∧k<nx∧v = .slice (some ⟨k,0,none⟩) N.length N.length∧aa k tbl=some (.grown 3 78 (bE M))∧All2 (NodeR tbl nx) M N
theorem KidV.kp{c:Value}{L:List Nat}(h:KidV lo tbl nx c L)(a:Kp tbl nx t' n'):KidV lo t' n' c L:=by
 rcases h with h|⟨k,h0,h1,h2,h3,h4⟩
 ·exact .inl h
 ·exact .inr ⟨k,h0,Zj h1 a.1,h2,h3,(a.2 k h1).trans h4⟩
theorem KidV.low{c:Value}{L:List Nat}{m:Nat}(h:KidV lo tbl nx c L)(hm:m≤lo):KidV m tbl nx c L:=by
 rcases h with h|⟨k,h0,h1,h2,h3,h4⟩
 ·exact .inl h
 ·exact .inr ⟨k,ZE hm h0,h1,h2,h3,h4⟩
theorem NodeR.kp{m:ee}{n:eR}(h:NodeR tbl nx m n)(a:Kp tbl nx t' n'):NodeR t' n' m n:=⟨h.1,h.2.1,h.2.2.kp a⟩
theorem Bk.kp{v:Value}{N:List eR}(h:Bk lo tbl nx v N)(a:Kp tbl nx t' n'):Bk lo t' n' v N:=by
 obtain⟨k,M,h0,h1,h2,h3,h4⟩:=h;exact⟨k,M,h0,Zj h1 a.1,h2,(a.2 k h1).trans h3,h4.mono fun _ _ h=>h.kp a⟩
theorem Bk.low{v:Value}{N:List eR}{m:Nat}(h:Bk lo tbl nx v N)(hm:m≤lo):Bk m tbl nx v N:=by
 obtain⟨k,M,h0,h1⟩:=h;exact⟨k,M,ZE hm h0,h1⟩
theorem gh{α β:Type}{R:α→β→Prop}:∀{x:List α} {y:List β},All2 R x y→∀{i:Nat} {b:β},y[i]? = some b→∃a,x[i]? = some a∧R a b
 |_,_,.nil,i,b,h=>by simp at h
 |_,_,.cons (a:=a) h t,0,b,e=>by
  simp only[ZH,zI] at e;subst e;exact⟨a,rfl,h⟩
 |_,_,.cons h t,i+1,b,e=>by
  simp only[List.getElem?_cons_succ] at e ⊢;exact gh t e
theorem oT{α β:Type}{R:α→β→Prop}:∀{x:List α} {y:List β},All2 R x y→x.length=y.length
 |_,_,.nil=>rfl
 |_,_,.cons _ t=>by rw[Zy,Zy,oT t]
theorem dQ:∀{M:List ee} {i:Nat} {m:ee},M[i]? = some m→bg (bE M) (i*3) 3=some (ak m)
 |[],i,a,h=>by simp at h
 |b::r,0,a,h=>by
  simp only[ZH,zI] at h;subst h;rfl
 |b::r,i+1,a,h=>by
  have ih:=dQ (M:=r) (i:=i) (m:=a) (by simpa using h);have e:(bE (b::r)).drop ((i+1)*3)=(bE r).drop (i*3):=by
   have h1:bE (b::r)=ak b++bE r:=rfl;rw[h1,List.drop_append];have h2:(ak b).length=3:=rfl;rw[h2,List.drop_eq_nil_of_le (by rw[h2];omega),List.nil_append];congr 1;omega
  unfold bg at ih ⊢;rw[e];exact ih
theorem yT{cs r:List Value}{o n j:Nat}{v:Value}(h:bg cs o n=some r)(hv:r[j]? = some v):bg cs (o+j) 1=some [v]:=by
 unfold bg at h;dsimp only at h;cases hb:Nat.beq ((cs.drop o).take n).length n with
 |false=>rw[hb] at h;cases h
 |true =>
  rw[hb,cond_true] at h;injection h with h;subst h;rw[List.getElem?_take] at hv;split at hv
  ·rw[List.getElem?_drop] at hv;exact nk hv
  ·cases hv
theorem lR(M:List ee):(bE M).length=M.length*3:=by
 induction M with
 |nil=>rfl
 |cons a r ih =>
  have:(bE (a::r)).length=3+(bE r).length:=by
   show(ak a++bE r).length=_;rw[Zw];rfl
  rw[this,ih,Zy];omega
theorem iJ{hk:List (aK Ar)}(hh:ab hk 91=none){n i:Nat}{v:Value}{N:List eR}{y:eR}(hN:N.length<900)(hn:1001≤n)(B:Bk lo tbl nx v N)(hi:N[i]? = some y)(hf:∀q,q<i→∀z,N[q]? = some z→z.1≠y.1) :
  ∃u h',RF1 hk (n+1) 91 [v,vI y.1] ⟨tbl,nx⟩=some (u,h')∧(u = .int .i64 (Int.ofNat i)∧Kp tbl nx h'.tbl h'.next):=by
 obtain⟨k,M,_,hk1,rfl,hk2,hM⟩:=B;have hil:i<N.length:=(List.getElem?_eq_some_iff.1 hi).1;refine aG hh MY (zL rfl) ?_;dsimp only[Gs,aM];refine sQ (WO.mv rfl (nZ (WC.seq (sQ (WO.mv rfl (WO.len rfl (WO.mv rfl (nZ (WC.block ?_)))))))));refine WC.loop (fun j e tbl' nx'=>∃q,q+j=i∧e 1=some (vI y.1)∧e 7=some (.slice (some ⟨k,0,none⟩) N.length N.length)∧e 8=some (.int .i64 (Int.ofNat N.length))∧e 9=some (.int .i64 (Int.ofNat q))∧Kp tbl nx tbl' nx') (k:=i) (by omega)
  ⟨0,by omega,rfl,rfl,rfl,rfl,Kp.refl⟩ ?_
 rintro j e tbl' nx' ⟨q,hj,e1,e7,e8,e9,hK⟩;dsimp only at e1 e7 e8 e9;have hq:q<N.length:=by omega
 refine sQ (WO.j e9 e8 (fun hz=>?_) (fun hz=>absurd (by simp only[zO];omega) hz));obtain⟨z,hz'⟩:∃z,N[q]? = some z:=⟨N[q],Zm hq⟩;obtain⟨m,hm,r1,r2,r3⟩:=gh hM hz';have hlk:aa k tbl'=some (.grown 3 78 (bE M)):=(hK.2 k hk1).trans hk2;have htk:bg (bE M) (0+q*3) 3=some (ak m):=by rw[ZB];exact dQ hm
 refine nZ (WC.seq (WC.cond_true rfl (WC.skip (zN (WC.seq (WC.block (sQ (WO.mv e9 (WO.idxL e7 e9 rfl hq ?_)))))))));refine WO.load (v:=.agg ⟨ak m⟩) rfl hlk rfl htk rfl (WO.new (WO.mv rfl (WO.step (i:=.store 3 (.t 6) (.t 13)) (v:=undef) (m':=⟨[],(nx',.cells (ak m))::tbl',nx'+1⟩) ?_ ?_)))
 ·have hs:=ba (nx:=nx'+1) (vs:=ak m) (o:=0) (ob':=.cells (aT [i0 0,i0 0,.slice none 0 0] 0 (ak m))) (tbl:=(nx',.cells [i0 0,i0 0,.slice none 0 0])::tbl') (i:=nx') (by rw[zC,if_pos rfl]) rfl (zL rfl) rfl;rw[cw] at hs;exact aJ rfl rfl rfl rfl hs
 have hln:aa nx' ((nx',AObj.cells (ak m))::tbl')=some (.cells (ak m)):=by rw[zC,if_pos rfl]
 have hK':Kp tbl nx ((nx',AObj.cells (ak m))::tbl') (nx'+1):=hK.cons hK.1 (Zo _);refine nZ (sQ (WO.fadd rfl (WO.load (v:=nI m.1) rfl hln rfl rfl rfl (WO.mv e1 (WO.p rfl rfl (fun he=>?_) (fun he=>?_))))))
 ·have hzy:z.1=y.1:=by rw[← r1];exact Zx he
  have hqi:q=i:=by
   rcases ZA q i with h|h
   ·exact absurd hzy (hf q h z hz')
   ·omega
  refine nZ (WC.cond_true rfl (sQ (WO.mv rfl (WO.mv rfl (nZ (WC.ret ?_))))));exact a9 (aB (a9 (aB ⟨_,_,rfl,rfl,by rw[hqi],hK'⟩)))
 ·have hqi:q≠i:=fun h=>by
   subst h;rw[hi] at hz';injection hz' with hz';subst hz';exact he (by rw[r1])
  refine nZ (WC.cond_false rfl (WC.skip (zB (zN (WC.ops ?_)))));refine WO.add e9 rfl (by simp only[zO];omega) (by simp only[zO];omega) (WO.mv rfl (WO.nil ?_));exact⟨j-1,by omega,rfl,q+1,by omega,e1,e7,e8,rfl,hK'⟩
theorem lZ{hk:List (aK Ar)}(hh:ab hk 91=none)(hp:ab hk 52=none){n i:Nat}{v:Value}{N:List eR}{y:eR}(hN:N.length<900)(hn:1001≤n)(B:Bk lo tbl nx v N)(hi:N[i]? = some y)(hf:∀q,q<i→∀z,N[q]? = some z→z.1≠y.1) :
  ∃u h',RF1 hk (n+2) 52 [v,vI y.1] ⟨tbl,nx⟩=some (u,h')∧(u=vI y.2.1∧Kp tbl nx h'.tbl h'.next):=by
 have hil:i<N.length:=(List.getElem?_eq_some_iff.1 hi).1;refine aG hp DF (zL rfl) ?_;dsimp only[we,aM];refine sQ (WO.mv rfl (nZ (sQ (WO.mv rfl (WO.mv rfl ?_)))));refine WO.a (vs:=[v,vI y.1]) rfl rfl (iJ hh (n:=n) hN hn B hi hf) ?_;rintro u ⟨t',n'⟩ ⟨rfl,hK⟩;have B':=B.kp hK;obtain⟨k,M,_,hk1,rfl,hk2,hM⟩:=B';obtain⟨m,hm,r1,r2,r3⟩:=gh hM hi;have htk:bg (bE M) (0+i*3+1) 1=some [nI m.2.1]:=yT (r:=ak m) (by rw[ZB];exact dQ hm) rfl;refine WO.mv rfl (nZ (WC.seq (sQ (WO.mv rfl (WO.j rfl rfl (fun hz=>absurd hz (by simp only[zO];omega)) (fun _=>?_))))));refine nZ (cF rfl (sQ (WO.mv rfl (WO.mv rfl (WO.idxL rfl rfl rfl hil (WO.fadd rfl ?_))))));refine WO.load (v:=nI m.2.1) rfl hk2 rfl htk rfl (WO.mv rfl (nZ (WC.ret ⟨_,_,rfl,rfl,by rw[r2],hK⟩)))
end Go.AI
namespace Go.AI
open Go.Proofs
open Go.Fo (Wd Un Pre)
variable {tbl t' t'':LO}{nx n' n'' lo:Nat}{w:Wd}{S:List Nat}{kids:Nat→List Nat}{d:Nat→Nat}
def bL(w:Wd)(S:List Nat)(kids:Nat→List Nat):List eR:=S.map fun a=>(a,w.par a,kids a)
theorem dv:(bL w S kids).length=S.length:=List.length_map ..
theorem iw{a:Nat}(hn:S.Nodup)(ha:a∈S):∃i:Nat,(bL w S kids)[i]? = some (a,w.par a,kids a)∧∀q,q<i→∀z:eR,(bL w S kids)[q]? = some z→z.1≠a:=by
 have h1:=List.idxOf_lt_length_of_mem ha;have h2:S[S.idxOf a]? = some a:=by rw[Zm h1,List.getElem_idxOf]
 refine⟨S.idxOf a,by unfold bL;rw[ZK,h2];rfl,fun q hq z hz he=>?_⟩;unfold bL at hz;rw[ZK] at hz;cases hs:S[q]? with
 |none=>rw[hs] at hz;cases hz
 |some b =>
  rw[hs] at hz;injection hz with hz;subst hz;have hb:b=a:=he;have h3:=List.not_of_lt_findIdx (p:=(· == a)) (xs:=S) (i:=q) hq;rw[Zm (by omega)] at hs;injection hs with hs;rw[hs,hb] at h3;simp at h3
theorem uG{L:List Nat}{k:Nat}(hL:L≠[])(h:aa k tbl=some (.grown 1 3 (L.map nI))):source (⟨[],tbl,nx⟩:Mem Ar) 1 (.slice (some ⟨k,0,none⟩) L.length L.length)=some (L.length,L.map nI):=by
 have hl:(⟨[],tbl,nx⟩:Mem Ar).loads (some ⟨k,0,none⟩) (L.length*1)=some (L.map nI):=by
  refine cJ h rfl ?_ (by have:=List.length_pos_iff.2 hL;omega);have h1:(L.map nI).drop 0=L.map nI:=rfl;have h2:(L.map nI).take (L.length*1)=L.map nI:=by rw[Nat.mul_one,List.take_of_length_le (by simp)]
  have h3:Nat.beq (L.map nI).length (L.length*1)=true:=by rw[Zg];simp
  simp only[bg,h1,h2,h3,cond_true]
 simp only[source,hl,Option.map]
theorem uA{b k:Nat}(h:aa k tbl=some (.cells [vI b])):source (⟨[],tbl,nx⟩:Mem Ar) 1 (.slice (some ⟨k,0,none⟩) 1 1)=some ([b].length,[b].map nI):=by
 have hl:(⟨[],tbl,nx⟩:Mem Ar).loads (some ⟨k,0,none⟩) 1=some [vI b]:=cJ h rfl rfl (by decide);simp only[source,Nat.mul_one,hl,Option.map];rfl
theorem mz{v y:Value}{P Q:List Nat}(hlo:lo≤nx)(hs:source (⟨[],tbl,nx⟩:Mem Ar) 1 y=some (Q.length,Q.map nI))(hQ:Q≠[])(hv:KidV lo tbl nx v P)(hl:P.length+Q.length<100000) :
  ∃u tb,dJ ⟨[],tbl,nx⟩ 1 8 3 v y=some (u,⟨[],tb,nx+1⟩)∧KidV lo tb (nx+1) u (P++Q)∧Kp tbl lo tb (nx+1):=by
 have hq:=List.length_pos_iff.2 hQ;rcases hv with⟨rfl,rfl⟩|⟨k,k0,k1,k2,rfl,hk⟩
 ·refine⟨_,_,fW hs hq (by rw[List.length_nil] at hl;omega),.inr ⟨nx,hlo,ZF _,by simpa using hQ,rfl,?_⟩,Kp.cons ⟨hlo,fun _ _=>rfl⟩ hlo (Zo _)⟩;rw[zC,if_pos rfl];rfl
 ·have hld:(⟨[],tbl,nx⟩:Mem Ar).loads (some ⟨k,0,none⟩) (P.length*1)=some (P.map nI):=by
   have h:=uG (nx:=nx) k2 hk;simp only[source] at h;cases hh:(⟨[],tbl,nx⟩:Mem Ar).loads (some ⟨k,0,none⟩) (P.length*1) with
   |none=>rw[hh] at h;cases h
   |some r=>rw[hh] at h;injection h with h;injection h with _ h;rw[h]
  refine⟨_,_,fd (b:=8) hs (by simp) hq (by exact hk) (by simp) hld (by omega),.inr ⟨nx,hlo,ZF _,by simp[k2],?_,?_⟩,?_⟩
  ·rw[Zw]
  ·show aa nx ((nx,AObj.grown 1 3 (P.map nI++Q.map nI))::AI.del k tbl)=_;rw[zC,if_pos rfl,List.map_append]
  ·show Kp tbl lo ((nx,AObj.grown 1 3 (P.map nI++Q.map nI))::AI.del k tbl) (nx+1);exact Kp.cons (Kp.del ⟨hlo,fun _ _=>rfl⟩ k0) hlo (Zo _)
theorem Fa{f:Nat→List Nat}{l:List Nat}(q:Nat):((l.take q).flatMap f).length≤(l.flatMap f).length:=by
 have h:l.flatMap f=(l.take q).flatMap f++(l.drop q).flatMap f:=by rw[← List.flatMap_append,List.take_append_drop]
 rw[h,Zw];omega
theorem C8{f:Nat→List Nat}{l:List Nat}{q b:Nat}(h:l[q]? = some b):(l.take (q+1)).flatMap f=(l.take q).flatMap f++f b:=by
 rw[List.take_add_one,h,List.flatMap_append];simp
structure NoHk(hk:List (aK Ar)):Prop where
 find:ab hk 91=none
 down:ab hk 90=none
 par:ab hk 52=none
 under:ab hk 53=none
 wth:ab hk 92=none
 add:ab hk 49=none
 cut:ab hk 51=none
theorem jx(I:Go.Fo.Inv w S kids d){a:Nat}(ha:a∈S):(Pre S kids a).length≤S.length :=
 Go.Fo.nodup_len _ _ (I.QU a ha) fun x hx=>((I.Qx a ha x).1 hx).1
theorem tn{hk:List (aK Ar)}(hh:NoHk hk)(I:Go.Fo.Inv w S kids d)(hS:S.length<800)(hnd:S.Nodup){v:Value} :
  ∀(k n a:Nat) (tbl:LO) (nx:Nat),S.length≤k+d a→1002+k≤n→a∈S→Bk lo tbl nx v (bL w S kids) →
   ∃u h',RF1 hk (n+1) 90 [v,vI a] ⟨tbl,nx⟩=some (u,h')∧(KidV nx h'.tbl h'.next u (Pre S kids a)∧Kp tbl nx h'.tbl h'.next):=by
 intro k;induction k with
 |zero=>intro n a tbl nx h _ ha _;have:=I.lt ha;omega
 |succ k ih =>
 intro n a tbl nx hkd hn ha B;obtain⟨i,hi,hf⟩:=iw (w:=w) (kids:=kids) hnd ha;have hil:i<(bL w S kids).length:=(List.getElem?_eq_some_iff.1 hi).1;obtain⟨n,rfl⟩:∃m,n=m+1:=⟨n-1,by omega⟩;have hpl:=jx I ha;rw[I.OF ha,Zy] at hpl;have h5:=Go.Fo.nodup_len _ _ (I.nd a ha) fun y hy=>(I.kid ha hy).1
 refine aG hh.down KI (zL rfl) ?_;dsimp only[Fx,aM];refine sQ (WO.mv rfl (nZ (sQ (WO.mv rfl (WO.mv rfl ?_)))));obtain⟨kq,M,_,hk1,rfl,hk2,hM⟩:=id B;obtain⟨m,hm,r1,r2,r3⟩:=gh hM hi;have htk:bg (bE M) (0+i*3+2) 1=some [m.2.2]:=yT (r:=ak m) (by rw[ZB];exact dQ hm) rfl;have hr3:∃ad,m.2.2 = .slice ad (kids a).length (kids a).length∧KidV 0 tbl nx (.slice ad (kids a).length (kids a).length) (kids a):=by
  rcases r3 with⟨e1,e2⟩|⟨c,c0,c1,c2,e2,c3⟩
  ·have e1:kids a=[]:=e1;refine⟨none,by rw[e2,e1];rfl,.inl ⟨e1,by rw[e1];rfl⟩⟩
  ·exact⟨_,e2,.inr ⟨c,c0,c1,c2,rfl,c3⟩⟩
 obtain⟨ad,e2,r3⟩:=hr3;refine WO.a (vs:=[.slice (some ⟨kq,0,none⟩) (bL w S kids).length (bL w S kids).length,vI a]) rfl rfl (iJ hh.find (n:=n) (y:=(a,w.par a,kids a)) (by rw[dv];omega) (by omega) B hi hf) ?_;rintro u ⟨t1,n1⟩ ⟨rfl,hK⟩;refine WO.mv rfl (nZ (WC.seq (sQ (WO.mv rfl (WO.j rfl rfl (fun hz=>absurd hz (by simp only[zO];omega)) (fun _=>?_))))));refine nZ (cF rfl (sQ (WO.mv rfl (nZ (sQ (WO.mv rfl (WO.mv rfl ?_)))))));refine WO.step (i:=.bslice 16 1 1 [i0 0] [(0,.t 15)]) (v:=.slice (some ⟨n1,0,none⟩) 1 1) (m':=⟨[],(n1,.cells [vI a])::t1,n1+1⟩) rfl ?_;have hK2:Kp tbl nx ((n1,AObj.cells [vI a])::t1) (n1+1):=hK.cons hK.1 (Zo _);obtain⟨u,tb,q1,q2,q3⟩:=mz (lo:=nx) (tbl:=(n1,AObj.cells [vI a])::t1) (nx:=n1+1) (v:=.slice none 0 0) (P:=[]) (Q:=[a]) hK2.1 (uA (b:=a) (k:=n1) (by rw[zC,if_pos rfl])) (by simp) (.inl ⟨rfl,rfl⟩) (by simp);have hK3:Kp tbl nx tb (n1+1+1):=⟨Nat.le_succ_of_le hK2.1,fun j hj=>(q3.2 j hj).trans (hK2.2 j hj)⟩;refine WO.append rfl rfl q1 (WO.mv rfl (nZ (WC.seq (sQ (WO.mv rfl (WO.mv rfl (WO.idxL rfl rfl rfl hil (WO.fadd rfl ?_))))))));refine WO.load (v:=m.2.2) rfl ((hK3.2 kq hk1).trans hk2) rfl htk rfl ?_;rw[e2];refine WO.len rfl (WO.mv rfl (nZ (WC.block ?_)));refine WC.loop (fun j e tb nb=>∃q,q+j=(kids a).length∧e 0=some (.slice (some ⟨kq,0,none⟩) (bL w S kids).length (bL w S kids).length)∧(∃u,e 6=some u∧KidV nx tb nb u (a::((kids a).take q).flatMap (Pre S kids)))∧e 22=some (.slice ad (kids a).length (kids a).length)∧e 23=some (.int .i64 (Int.ofNat (kids a).length))∧e 24=some (.int .i64 (Int.ofNat q))∧Kp tbl nx tb nb) (k:=(kids a).length) (by omega)
  ⟨0,by omega,rfl,⟨u,rfl,by simpa using q2⟩,rfl,rfl,rfl,hK3⟩ ?_
 rintro j e tb nb ⟨q,hj,e0,⟨u,e6,hu⟩,e22,e23,e24,hKt⟩;dsimp only at e0 e6 e22 e23 e24;refine sQ (WO.j e24 e23 (fun hz=>?_) (fun hz=>?_))
 ·have hq:q<(kids a).length:=by simp only[zO] at hz;omega
  obtain⟨b,hb⟩:∃b,(kids a)[q]? = some b:=⟨(kids a)[q],Zm hq⟩;have hbm:b∈kids a:=ZJ hb;obtain⟨hbS,hbp,hb0,hbd⟩:=I.kid ha hbm;obtain⟨c,_,c1,_,c2,c3⟩:=(r3.kp hKt).resolve_left fun h=>by rw[h.1] at hbm;cases hbm
  have e22':=e22;rw[c2] at e22';refine nZ (WC.seq (WC.cond_true rfl (WC.skip (zN (WC.seq (WC.block (sQ ?_)))))));refine WO.idxL e22' e24 rfl hq (WO.load rfl c3 rfl (eK hb) rfl (WO.mv rfl (nZ (WC.ops (WO.mv e6 (WO.mv e0 (WO.mv rfl ?_)))))));refine WO.a (vs:=[.slice (some ⟨kq,0,none⟩) (bL w S kids).length (bL w S kids).length,vI b]) rfl rfl (ih n b tb nb (by omega) (by omega) hbS (B.kp hKt)) ?_;rintro u2 ⟨t2,n2⟩ ⟨h1,h2⟩;have hpb:=I.OF hbS;have hne:Pre S kids b≠[]:=by rw[hpb];simp
  obtain⟨g,g0,g1,_,rfl,g3⟩:=h1.resolve_left fun h=>hne h.1
  have hlen:(a::((kids a).take q).flatMap (Pre S kids)).length+(Pre S kids b).length<100000:=by
   have:=jx I hbS;have:=Fa (f:=Pre S kids) (l:=kids a) q;rw[Zy];omega
  have hnx2:nx≤n2:=ZE hKt.1 h2.1;obtain⟨u3,t3,p1,p2,p3⟩:=mz (lo:=nx) hnx2 (uG (nx:=n2) hne g3) hne (hu.kp h2) hlen;refine WO.append rfl rfl p1 (WO.mv rfl (WO.nil (zB (zN (WC.ops ?_)))));refine WO.add e24 rfl (by simp only[zO];omega) (by simp only[zO];omega) (WO.mv rfl (WO.nil ?_));refine⟨j-1,by omega,rfl,q+1,by omega,e0,⟨u3,rfl,?_⟩,e22,e23,rfl,?_⟩
  ·rw[C8 hb];exact p2
  ·exact⟨Nat.le_succ_of_le hnx2,fun j hj=>(p3.2 j hj).trans ((h2.2 j (Zj hj hKt.1)).trans (hKt.2 j hj))⟩
 ·have hq:q=(kids a).length:=by simp only[zO] at hz;omega
  refine nZ (WC.seq (WC.cond_false rfl (WC.exit (aR (aI ?_)))));refine zN (sQ (WO.mv e6 (WO.mv rfl (nZ (WC.ret ⟨_,_,rfl,rfl,?_,hKt⟩)))));rw[I.OF ha];rw[hq,List.take_length] at hu;exact hu
end Go.AI
namespace Go.AI
open Go.Proofs
open Go.Fo (Wd Un Pre)
variable {tbl t' t'':LO}{nx n' n'' lo:Nat}{w:Wd}{S:List Nat}{kids:Nat→List Nat}{d:Nat→Nat}
theorem qk{hk:List (aK Ar)}(hh:NoHk hk)(I:Go.Fo.Inv w S kids d)(hS:S.length<800)(hnd:S.Nodup){v:Value}{n a top:Nat}(hn:2000≤n)(ht:top∈S)(B:Bk lo tbl nx v (bL w S kids)) :
  ∃u h',RF1 hk (n+2) 53 [v,vI a,vI top] ⟨tbl,nx⟩=some (u,h')∧(u = .bool (decide (a∈Pre S kids top))∧Kp tbl nx h'.tbl h'.next):=by
 refine aG hh.under Im (zL rfl) ?_;dsimp only[AG,aM];refine sQ (WO.mv rfl (nZ (WC.seq (sQ (WO.mv rfl (WO.mv rfl ?_))))));refine WO.a (vs:=[v,vI top]) rfl rfl (tn hh I hS hnd S.length n top tbl nx (by omega) (by omega) ht B) ?_;rintro u ⟨t1,n1⟩ ⟨hu,hK⟩;have hne:Pre S kids top≠[]:=by rw[I.OF ht];simp
 have hpl:=jx I ht;obtain⟨g,g0,g1,_,rfl,g3⟩:=hu.resolve_left fun h=>hne h.1
 refine WO.len rfl (WO.mv rfl (nZ (WC.block ?_)));refine WC.loop (fun j e tb nb=>∃q,q+j=(Pre S kids top).length∧e 1=some (vI a)∧e 11=some (.slice (some ⟨g,0,none⟩) (Pre S kids top).length (Pre S kids top).length)∧e 12=some (.int .i64 (Int.ofNat (Pre S kids top).length))∧e 13=some (.int .i64 (Int.ofNat q))∧(∀i,i<q→(Pre S kids top)[i]? ≠ some a)∧tb=t1∧nb=n1) (k:=(Pre S kids top).length) (by omega)
  ⟨0,by omega,rfl,rfl,rfl,rfl,fun i hi=>by omega,rfl,rfl⟩ ?_
 rintro j e tb nb ⟨q,hj,e1,e11,e12,e13,hq,rfl,rfl⟩;dsimp only at e1 e11 e12 e13;refine sQ (WO.j e13 e12 (fun hz=>?_) (fun hz=>?_))
 ·have hi:q<(Pre S kids top).length:=by simp only[zO] at hz;omega
  obtain⟨b,hb⟩:∃b,(Pre S kids top)[q]? = some b:=⟨(Pre S kids top)[q],Zm hi⟩;refine nZ (WC.seq (WC.cond_true rfl (WC.skip (zN (WC.seq (WC.block (sQ ?_)))))));refine WO.idxL e11 e13 rfl hi (WO.load rfl g3 rfl (eK hb) rfl (WO.mv rfl (nZ (sQ (WO.mv rfl (WO.mv e1 (WO.p rfl rfl (fun he=>?_) (fun he=>?_))))))))
  ·have hba:b=a:=Zx he;refine nZ (WC.cond_true rfl (sQ (WO.mv rfl (nZ (WC.ret ?_)))));refine a9 (aB (a9 (aB ⟨_,_,rfl,rfl,?_,hK⟩)));rw[Zh (by rw[← hba];exact ZJ hb)]
  ·have hba:b≠a:=fun e=>he (by rw[e])
   refine nZ (WC.cond_false rfl (WC.skip (zB (zN (WC.ops ?_)))));refine WO.add e13 rfl (by simp only[zO];omega) (by simp only[zO];omega) (WO.mv rfl (WO.nil ?_));refine⟨j-1,by omega,rfl,q+1,by omega,e1,e11,e12,rfl,fun i hi2=>?_,rfl,rfl⟩;rcases Nat.lt_succ_iff_lt_or_eq.1 hi2 with h1|h1
   ·exact hq i h1
   ·subst h1;rw[hb];intro e;exact hba (Option.some.inj e)
 ·have hi:q=(Pre S kids top).length:=by simp only[zO] at hz;omega
  refine nZ (WC.seq (WC.cond_false rfl (WC.exit (aR (aI ?_)))));refine zN (sQ (WO.mv rfl (nZ (WC.ret ⟨_,_,rfl,rfl,?_,hK⟩))));rw[Zs];intro hm;obtain⟨i,hi1,hi2⟩:=List.getElem_of_mem hm;exact hq i (by omega) (by rw[Zm hi1,hi2])
end Go.AI
namespace Go.AI
open Go.Proofs
open Go.Fo (Wd Un Pre)
variable {tbl t' t'':LO}{nx n' n'' lo:Nat}{w:Wd}{S:List Nat}{kids:Nat→List Nat}{d:Nat→Nat}
def KidN(lo:Nat)(tbl:LO)(nx:Nat)(c:Value)(L:List ee):Prop :=
 (L=[]∧c = .slice none 0 0)∨∃k,lo≤k∧k<nx∧L≠[]∧c = .slice (some ⟨k,0,none⟩) L.length L.length∧aa k tbl=some (.grown 3 78 (bE L))
theorem KidN.kp{c:Value}{L:List ee}(h:KidN lo tbl nx c L)(a:Kp tbl nx t' n'):KidN lo t' n' c L:=by
 rcases h with h|⟨k,h0,h1,h2,h3,h4⟩
 ·exact .inl h
 ·exact .inr ⟨k,h0,Zj h1 a.1,h2,h3,(a.2 k h1).trans h4⟩
theorem FE{v:Value}{P:List ee}{m:ee}{k0:Nat}(hlo:lo≤nx)(hl:P.length<100000)(h0:aa k0 tbl=some (.cells (ak m)))(hv:KidN lo tbl nx v P) :
  ∃u tb,dJ ⟨[],tbl,nx⟩ 3 40 78 v (.slice (some ⟨k0,0,none⟩) 1 1)=some (u,⟨[],tb,nx+1⟩)∧KidN lo tb (nx+1) u (P++[m])∧Kp tbl lo tb (nx+1):=by
 have hs:source (⟨[],tbl,nx⟩:Mem Ar) 3 (.slice (some ⟨k0,0,none⟩) 1 1)=some (1,ak m):=by
  have hld:(⟨[],tbl,nx⟩:Mem Ar).loads (some ⟨k0,0,none⟩) (1*3)=some (ak m):=cJ h0 rfl rfl (by decide);simp only[source,hld,Option.map]
 rcases hv with⟨rfl,rfl⟩|⟨k,k1,k2,k3,rfl,hk⟩
 ·refine⟨_,_,fW hs (by decide) (by decide),.inr ⟨nx,hlo,ZF _,by simp,rfl,?_⟩,Kp.cons ⟨hlo,fun _ _=>rfl⟩ hlo (Zo _)⟩;rw[zC,if_pos rfl];rfl
 ·have hp:=List.length_pos_iff.2 k3;have hld:(⟨[],tbl,nx⟩:Mem Ar).loads (some ⟨k,0,none⟩) (P.length*3)=some (bE P):=by
   refine cJ hk rfl ?_ (by omega);have h1:(bE P).drop 0=bE P:=rfl;have h2:(bE P).take (P.length*3)=bE P:=by rw[← lR,List.take_length]
   have h3:Nat.beq (bE P).length (P.length*3)=true:=by rw[Zg];exact lR P
   simp only[bg,h1,h2,h3,cond_true]
  refine⟨_,_,fd (b:=40) hs rfl (by decide) (by exact hk) (lR P) hld (by omega),.inr ⟨nx,hlo,ZF _,by simp,?_,?_⟩,?_⟩
  ·rw[Zw];rfl
  ·show aa nx ((nx,AObj.grown 3 78 (bE P++ak m))::AI.del k tbl)=_;rw[zC,if_pos rfl];have:bE (P++[m])=bE P++ak m:=by
    unfold bE;rw[List.flatMap_append];simp
   rw[this]
  ·show Kp tbl lo ((nx,AObj.grown 3 78 (bE P++ak m))::AI.del k tbl) (nx+1);exact Kp.cons (Kp.del ⟨hlo,fun _ _=>rfl⟩ k1) hlo (Zo _)
def jD(m:ee)(z:ee):ee:=if z.1=m.1 then m else z
def iY(m:eR)(z:eR):eR:=if z.1=m.1 then m else z
theorem GR{f:ee→ee}{l:List ee}{q:Nat}{b:ee}(h:l[q]? = some b):(l.take (q+1)).map f=(l.take q).map f++[f b]:=by
 rw[List.take_add_one,h,List.map_append];rfl
theorem wJ{tb:LO}{nb:Nat}{m:ee}{y:eR}(hm:NodeR tb nb m y):∀{M:List ee} {N:List eR},All2 (NodeR tb nb) M N→All2 (NodeR tb nb) (M.map (jD m)) (N.map (iY y))
 |_,_,.nil=>.nil
 |_,_,.cons (a:=a) (b:=b) h t=>by
  refine .cons ?_ (wJ hm t);unfold jD iY;rw[h.1,hm.1];split
  ·exact hm
  ·exact h
theorem kP{hk:List (aK Ar)}(hh:NoHk hk){v:Value}{N:List eR}{m:ee}{y:eR}{n:Nat}(hN:N.length<900)(hN0:N≠[])(hn:1001≤n)(B:Bk lo tbl nx v N)(hm:NodeR tbl nx m y) :
  ∃u h',RF1 hk (n+1) 92 [v,.agg ⟨ak m⟩] ⟨tbl,nx⟩=some (u,h')∧(Bk nx h'.tbl h'.next u (N.map (iY y))∧Kp tbl nx h'.tbl h'.next):=by
 obtain⟨k,M,_,hk1,rfl,hk2,hM⟩:=B;have hML:=oT hM;refine aG hh.wth LY (zL rfl) ?_;dsimp only[Ek,aM];refine sQ (WO.box (v:=.agg ⟨ak m⟩) (cs:=ak m) rfl rfl (WO.mv rfl (nZ (sQ (WO.mv rfl (nZ (WC.seq (sQ (WO.mv rfl (WO.len rfl (WO.mv rfl (nZ (WC.block ?_)))))))))))));have hb:aa nx ((nx,AObj.cells (ak m))::tbl)=some (.cells (ak m)):=by rw[zC,if_pos rfl]
 have hKb:Kp tbl nx ((nx,AObj.cells (ak m))::tbl) (nx+1):=Kp.refl.cons (Ze _) (Zo _);refine WC.loop (fun j e tb nb=>∃q,q+j=N.length∧e 3=some (.pointer (some ⟨nx,0,none⟩))∧(∃u,e 5=some u∧KidN (nx+1) tb nb u ((M.take q).map (jD m)))∧e 8=some (.slice (some ⟨k,0,none⟩) N.length N.length)∧e 9=some (.int .i64 (Int.ofNat N.length))∧e 10=some (.int .i64 (Int.ofNat q))∧Kp ((nx,AObj.cells (ak m))::tbl) (nx+1) tb nb) (k:=N.length) (by omega)
  ⟨0,by omega,rfl,⟨_,rfl,.inl ⟨rfl,rfl⟩⟩,rfl,rfl,rfl,Kp.refl⟩ ?_
 rintro j e tb nb ⟨q,hj,e3,⟨u,e5,hu⟩,e8,e9,e10,hK⟩;dsimp only at e3 e5 e8 e9 e10;have hnb:=hK.1;refine sQ (WO.j e10 e9 (fun hz=>?_) (fun hz=>?_))
 ·have hq:q<N.length:=by simp only[zO] at hz;omega
  obtain⟨z,hz'⟩:∃z,M[q]? = some z:=⟨M[q],Zm (by omega)⟩;have hlk:aa k tb=some (.grown 3 78 (bE M)):=(hK.2 k (by omega)).trans ((hKb.2 k hk1).trans hk2);have hbx:aa nx tb=some (.cells (ak m)):=(hK.2 nx (ZF _)).trans hb;have htk:bg (bE M) (0+q*3) 3=some (ak z):=by rw[ZB];exact dQ hz'
  refine nZ (WC.seq (WC.cond_true rfl (WC.skip (zN (WC.seq (WC.block (sQ (WO.idxL e8 e10 rfl hq ?_))))))));refine WO.load (v:=.agg ⟨ak z⟩) rfl hlk rfl htk rfl (WO.new (WO.step (i:=.store 3 (.t 7) (.t 13)) (v:=undef) (m':=⟨[],(nb,.cells (ak z))::tb,nb+1⟩) ?_ ?_))
  ·have hs:=ba (nx:=nb+1) (vs:=ak z) (o:=0) (ob':=.cells (aT [i0 0,i0 0,.slice none 0 0] 0 (ak z))) (tbl:=(nb,.cells [i0 0,i0 0,.slice none 0 0])::tb) (i:=nb) (by rw[zC,if_pos rfl]) rfl (zL rfl) rfl;rw[cw] at hs;exact aJ rfl rfl rfl rfl hs
  have hln:aa nb ((nb,AObj.cells (ak z))::tb)=some (.cells (ak z)):=by rw[zC,if_pos rfl]
  have hbx2:aa nx ((nb,AObj.cells (ak z))::tb)=some (.cells (ak m)):=by rw[zC,if_neg (by show¬nx=nb;omega)];exact hbx
  have key:∀(y:ee),y=jD m z→∃u3 tb3,dJ ⟨[],(nb+1,.cells (ak y))::(nb,.cells (ak z))::tb,nb+1+1⟩ 3 40 78 u (.slice (some ⟨nb+1,0,none⟩) 1 1)=some (u3,⟨[],tb3,nb+1+1+1⟩)∧KidN (nx+1) tb3 (nb+1+1+1) u3 ((M.take (q+1)).map (jD m))∧Kp ((nx,AObj.cells (ak m))::tbl) (nx+1) tb3 (nb+1+1+1):=by
   rintro y rfl;have hK2:Kp tb nb ((nb+1,AObj.cells (ak (jD m z)))::(nb,AObj.cells (ak z))::tb) (nb+1+1):=(Kp.refl.cons (Ze _) (Zo _)).cons (Zo _) (Zo _);obtain⟨u3,tb3,p1,p2,p3⟩:=FE (lo:=nx+1) (tbl:=(nb+1,AObj.cells (ak (jD m z)))::(nb,.cells (ak z))::tb) (nx:=nb+1+1) (k0:=nb+1) (m:=jD m z) (by omega) (by rw[List.length_map,ZG];omega) (by rw[zC,if_pos rfl]) (hu.kp hK2);refine⟨u3,tb3,p1,by rw[GR hz'];exact p2,by omega,fun j hj=>(p3.2 j hj).trans ((hK2.2 j (Zj hj hnb)).trans (hK.2 j hj))⟩
  refine nZ (sQ (WO.fadd rfl (WO.load (v:=nI z.1) rfl hln rfl rfl rfl (WO.fadd e3 (WO.load (v:=nI m.1) rfl hbx2 rfl rfl rfl (WO.p rfl rfl (fun he=>?_) (fun he=>?_)))))))
  ·have he':z.1=m.1:=Zx he;obtain⟨u3,tb3,p1,p2,p3⟩:=key m (by unfold jD;rw[if_pos he']);refine nZ (WC.cond_true rfl (WC.ops (WO.mv e5 (WO.load (v:=.agg ⟨ak m⟩) e3 hbx2 rfl rfl rfl ?_))));refine WO.step (i:=.bslice 21 1 3 [i0 0,i0 0,.slice none 0 0] [(0,.t 20)]) (v:=.slice (some ⟨nb+1,0,none⟩) 1 1) (m':=⟨[],(nb+1,.cells (ak m))::(nb,.cells (ak z))::tb,nb+1+1⟩) rfl ?_;refine WO.append rfl rfl p1 (WO.mv rfl (WO.nil (zB (zN (WC.ops ?_)))));refine WO.add e10 rfl (by simp only[zO];omega) (by simp only[zO];omega) (WO.mv rfl (WO.nil ?_));exact⟨j-1,by omega,rfl,q+1,by omega,e3,⟨u3,rfl,p2⟩,e8,e9,rfl,p3⟩
  ·have he':¬z.1=m.1:=fun e=>he (by rw[e])
   obtain⟨u3,tb3,p1,p2,p3⟩:=key z (by unfold jD;rw[if_neg he']);refine nZ (WC.cond_false rfl (WC.ops (WO.mv e5 (WO.load (v:=.agg ⟨ak z⟩) rfl hln rfl rfl rfl ?_))));refine WO.step (i:=.bslice 25 1 3 [i0 0,i0 0,.slice none 0 0] [(0,.t 24)]) (v:=.slice (some ⟨nb+1,0,none⟩) 1 1) (m':=⟨[],(nb+1,.cells (ak z))::(nb,.cells (ak z))::tb,nb+1+1⟩) rfl ?_;refine WO.append rfl rfl p1 (WO.mv rfl (WO.nil (zB (zN (WC.ops ?_)))));refine WO.add e10 rfl (by simp only[zO];omega) (by simp only[zO];omega) (WO.mv rfl (WO.nil ?_));exact⟨j-1,by omega,rfl,q+1,by omega,e3,⟨u3,rfl,p2⟩,e8,e9,rfl,p3⟩
 ·have hq:q=N.length:=by simp only[zO] at hz;omega
  refine nZ (WC.seq (WC.cond_false rfl (WC.exit (aR (aI ?_)))));have hKt:Kp tbl nx tb nb:=⟨by omega,fun j hj=>(hK.2 j (by omega)).trans (hKb.2 j hj)⟩;refine zN (sQ (WO.mv e5 (WO.mv rfl (nZ (WC.ret ⟨_,_,rfl,rfl,?_,hKt⟩)))));rw[hq,← hML,List.take_length] at hu;have hMn:M.map (jD m)≠[]:=by
   intro h;have:M=[]:=List.map_eq_nil_iff.1 h;rw[this] at hML;exact hN0 (List.length_eq_zero_iff.1 hML.symm)
  obtain⟨g,g0,g1,_,rfl,g3⟩:=hu.resolve_left fun h=>hMn h.1
  refine⟨g,M.map (jD m),by omega,g1,by rw[List.length_map,List.length_map,hML],g3,wJ (hm.kp hKt) (hM.mono fun _ _ h=>h.kp hKt)⟩
end Go.AI
namespace Go.AI
open Go.Proofs
open Go.Fo (Wd Un Pre)
variable {tbl t' t'':LO}{nx n' n'' lo:Nat}{w:Wd}{S:List Nat}{kids:Nat→List Nat}{d:Nat→Nat}
theorem v7{tb:LO}{nb:Nat}:∀{L:List Nat},All2 (NodeR tb nb) (L.map fun a=>(a,0,Value.slice none 0 0)) (L.map fun a=>(a,0,[]))
 |[]=>.nil
 |_::_=>.cons ⟨rfl,rfl,.inl ⟨rfl,rfl⟩⟩ v7
end Go.AI
namespace Go.AI
open Go.Proofs
open Go.Fo (Wd Un Pre)
variable {tbl t' t'':LO}{nx n' n'' lo:Nat}{w:Wd}{S:List Nat}{kids:Nat→List Nat}{d:Nat→Nat}
theorem KidV.sl{c:Value}{L:List Nat}(h:KidV lo tbl nx c L):∃ad,c = .slice ad L.length L.length:=by
 rcases h with⟨rfl,rfl⟩|⟨k,_,_,_,rfl,_⟩
 ·exact⟨none,rfl⟩
 ·exact⟨_,rfl⟩
theorem tz{ad:Option Addr}{l c:Nat}:ceq (.slice ad l c) (.slice ad l c)=true:=by
 cases ad with
 |none=>simp[ceq]
 |some a=>simp[ceq]
theorem nT{a p:Nat}{ad:Option Addr}{l c:Nat}:dC (ak (a,p,.slice ad l c)) (ak (a,p,.slice ad l c))=true:=by
 show(ceq (nI a) (nI a)&&(ceq (nI p) (nI p)&&(ceq (.slice ad l c) (.slice ad l c)&&true)))=true;rw[tz];simp[ceq,eS]
theorem o7{c b q:Nat}{l:List Nat}(h:l[q]? = some b):(l.take (q+1)).filter (fun x=>x != c)=(l.take q).filter (fun x=>x != c)++if b=c then[] else[b]:=by
 rw[List.take_add_one,h,List.filter_append];congr 1;by_cases e:b=c
 ·subst e;simp
 ·rw[if_neg e];simp[e]
theorem Gk{c:Nat}(h:w.par c≠c):((bL w S kids).map (iY (w.par c,w.par (w.par c),(kids (w.par c)).filter fun x=>x != c))).map (iY (c,0,kids c))=bL (Go.Fo.cutW w c) S (Go.Fo.cutK kids (w.par c) c):=by
 unfold bL;rw[List.map_map,List.map_map];refine List.map_congr_left fun a _=>?_
 show iY (c,0,kids c) (iY (w.par c,w.par (w.par c),(kids (w.par c)).filter fun x=>x != c) (a,w.par a,kids a))=(a,Go.Fo.up w.par c 0 a,if a=w.par c then(kids (w.par c)).filter (fun x=>x != c) else kids a);unfold iY Go.Fo.up;dsimp only;by_cases e:a=w.par c
 ·have hc:¬w.par c=c:=h;subst e;rw[if_pos rfl];dsimp only;rw[if_neg hc,if_neg hc,if_pos rfl]
 ·rw[if_neg e];dsimp only;rw[if_neg e];by_cases e2:a=c
  ·subst e2;rw[if_pos rfl,if_pos rfl]
  ·rw[if_neg e2,if_neg e2]
theorem Gr{hk:List (aK Ar)}(hh:NoHk hk)(I:Go.Fo.Inv w S kids d)(hS:S.length<800)(hnd:S.Nodup){v:Value}{n c:Nat}(hn:2000≤n)(hc:c∈S)(B:Bk lo tbl nx v (bL w S kids)) :
  ∃u h',RF1 hk (n+2) 51 [v,vI c] ⟨tbl,nx⟩=some (u,h')∧((w.par c=0∧u = .tuple ⟨[v,vI 8]⟩∨w.par c≠0∧∃v',u = .tuple ⟨[v',vI 0]⟩∧Bk 0 h'.tbl h'.next v' (bL (Go.Fo.cutW w c) S (Go.Fo.cutK kids (w.par c) c)))∧Kp tbl nx h'.tbl h'.next):=by
 obtain⟨i,hi,hf⟩:=iw (w:=w) (kids:=kids) hnd hc;have hil:i<(bL w S kids).length:=(List.getElem?_eq_some_iff.1 hi).1;obtain⟨kq,M,_,hk1,rfl,hk2,hM⟩:=id B;obtain⟨m,hm,r1,r2,r3⟩:=gh hM hi;obtain⟨mc,mp,mk⟩:=m;replace r1:c=mc:=r1.symm;replace r2:w.par c=mp:=r2.symm;replace r3:KidV 0 tbl nx mk (kids c):=r3;subst r1;subst r2;have htk:bg (bE M) (0+i*3) 3=some (ak (c,w.par c,mk)):=by rw[ZB];exact dQ hm
 refine aG hh.cut OB (zL rfl) ?_;dsimp only[JW,aM];refine sQ (WO.mv rfl (WO.mv rfl (nZ (sQ (WO.mv rfl (WO.mv rfl (WO.mv rfl ?_)))))));refine WO.a (vs:=[.slice (some ⟨kq,0,none⟩) (bL w S kids).length (bL w S kids).length,vI c]) rfl rfl (iJ hh.find (n:=n) (y:=(c,w.par c,kids c)) (by rw[dv];omega) (by omega) B hi hf) ?_;rintro u ⟨t1,n1⟩ ⟨rfl,hK1⟩;refine WO.idxL rfl rfl rfl hil (WO.load (v:=.agg ⟨ak (c,w.par c,mk)⟩) rfl ((hK1.2 kq hk1).trans hk2) rfl htk rfl (WO.new (WO.step (i:=.store 3 (.t 6) (.t 16)) (v:=undef) (m':=⟨[],(n1,.cells (ak (c,w.par c,mk)))::t1,n1+1⟩) ?_ ?_)))
 ·have hs:=ba (nx:=n1+1) (vs:=ak (c,w.par c,mk)) (o:=0) (ob':=.cells (aT [i0 0,i0 0,.slice none 0 0] 0 (ak (c,w.par c,mk)))) (tbl:=(n1,.cells [i0 0,i0 0,.slice none 0 0])::t1) (i:=n1) (by rw[zC,if_pos rfl]) rfl (zL rfl) rfl;rw[cw] at hs;exact aJ rfl rfl rfl rfl hs
 have hl6:aa n1 ((n1,AObj.cells (ak (c,w.par c,mk)))::t1)=some (.cells (ak (c,w.par c,mk))):=by rw[zC,if_pos rfl]
 have hK2:Kp tbl nx ((n1,AObj.cells (ak (c,w.par c,mk)))::t1) (n1+1):=hK1.cons hK1.1 (Zo _);refine nZ (WC.seq (sQ (WO.fadd rfl (WO.load (v:=nI (w.par c)) rfl hl6 rfl rfl rfl (WO.p rfl rfl (fun he=>?_) (fun he=>?_))))))
 ·have he':w.par c=0:=Zx he;refine nZ (WC.cond_true rfl (sQ (WO.mv rfl (WO.mv rfl (WO.mv rfl (nZ (WC.ret (aB ⟨_,_,rfl,rfl,.inl ⟨he',rfl⟩,hK2⟩))))))))
 ·have he':w.par c≠0:=fun e=>he (by rw[e])
  obtain⟨hpS,hckp⟩:=I.par c hc he';have hpc:w.par c≠c:=fun e=>by
   have:=I.dep c hc he';rw[e] at this;omega
  obtain⟨i2,hi2,hf2⟩:=iw (w:=w) (kids:=kids) hnd hpS;have hil2:i2<(bL w S kids).length:=(List.getElem?_eq_some_iff.1 hi2).1;obtain⟨m2,hm2,s1,s2,s3⟩:=gh hM hi2;obtain⟨pc,pp,pk⟩:=m2;replace s1:w.par c=pc:=s1.symm;replace s2:w.par (w.par c)=pp:=s2.symm;replace s3:KidV 0 tbl nx pk (kids (w.par c)):=s3;subst s1;subst s2;have htk2:bg (bE M) (0+i2*3) 3=some (ak (w.par c,w.par (w.par c),pk)):=by rw[ZB];exact dQ hm2
  refine nZ (cF rfl (sQ (WO.mv rfl (WO.mv rfl (WO.fadd rfl (WO.load (v:=nI (w.par c)) rfl hl6 rfl rfl rfl ?_))))));refine WO.a (vs:=[.slice (some ⟨kq,0,none⟩) (bL w S kids).length (bL w S kids).length,vI (w.par c)]) rfl rfl (iJ hh.find (n:=n) (y:=(w.par c,w.par (w.par c),kids (w.par c))) (by rw[dv];omega) (by omega) (B.kp hK2) hi2 hf2) ?_;rintro u ⟨t2,n2⟩ ⟨rfl,hK3⟩;have hK4:=hK2.trans hK3;refine WO.idxL rfl rfl rfl hil2 (WO.load (v:=.agg ⟨ak (w.par c,w.par (w.par c),pk)⟩) rfl ((hK4.2 kq hk1).trans hk2) rfl htk2 rfl (WO.new (WO.step (i:=.store 3 (.t 7) (.t 27)) (v:=undef) (m':=⟨[],(n2,.cells (ak (w.par c,w.par (w.par c),pk)))::t2,n2+1⟩) ?_ ?_)))
  ·have hs:=ba (nx:=n2+1) (vs:=ak (w.par c,w.par (w.par c),pk)) (o:=0) (ob':=.cells (aT [i0 0,i0 0,.slice none 0 0] 0 (ak (w.par c,w.par (w.par c),pk)))) (tbl:=(n2,.cells [i0 0,i0 0,.slice none 0 0])::t2) (i:=n2) (by rw[zC,if_pos rfl]) rfl (zL rfl) rfl;rw[cw] at hs;exact aJ rfl rfl rfl rfl hs
  have hn12:n1<n2:=hK3.1;have hl7:aa n2 ((n2,AObj.cells (ak (w.par c,w.par (w.par c),pk)))::t2)=some (.cells (ak (w.par c,w.par (w.par c),pk))):=by rw[zC,if_pos rfl]
  have hl6':aa n1 ((n2,AObj.cells (ak (w.par c,w.par (w.par c),pk)))::t2)=some (.cells (ak (c,w.par c,mk))):=by
   rw[zC,if_neg (by show¬n1=n2;omega)];exact(hK3.2 n1 (ZF _)).trans hl6
  have hK5:Kp tbl nx ((n2,AObj.cells (ak (w.par c,w.par (w.par c),pk)))::t2) (n2+1):=hK4.cons hK4.1 (Zo _);obtain⟨ad,hpk⟩:=s3.sl;replace hpk:pk = .slice ad (kids (w.par c)).length (kids (w.par c)).length:=hpk;obtain⟨ad',hmk⟩:=r3.sl;replace hmk:mk = .slice ad' (kids c).length (kids c).length:=hmk;subst hpk;subst hmk;have h5:=Go.Fo.nodup_len _ _ (I.nd _ hpS) fun y hy=>(I.kid hpS hy).1
  refine nZ (sQ (WO.mv rfl (nZ (WC.seq (sQ (WO.fadd rfl (WO.load (v:=.slice ad (kids (w.par c)).length (kids (w.par c)).length) rfl hl7 rfl rfl rfl ?_)))))));refine WO.len rfl (WO.mv rfl (nZ (WC.block ?_)));refine WC.loop (fun j e tb nb=>∃q,q+j=(kids (w.par c)).length∧e 0=some (.slice (some ⟨kq,0,none⟩) (bL w S kids).length (bL w S kids).length)∧e 1=some (vI c)∧e 6=some (.pointer (some ⟨n1,0,none⟩))∧e 7=some (.pointer (some ⟨n2,0,none⟩))∧(∃u,e 8=some u∧KidV (n2+1) tb nb u (((kids (w.par c)).take q).filter fun x=>x != c))∧e 29=some (.slice ad (kids (w.par c)).length (kids (w.par c)).length)∧e 30=some (.int .i64 (Int.ofNat (kids (w.par c)).length))∧e 31=some (.int .i64 (Int.ofNat q))∧Kp ((n2,AObj.cells (ak (w.par c,w.par (w.par c),.slice ad (kids (w.par c)).length (kids (w.par c)).length)))::t2) (n2+1) tb nb) (k:=(kids (w.par c)).length) (by omega)
   ⟨0,by omega,rfl,rfl,rfl,rfl,⟨_,rfl,.inl ⟨rfl,rfl⟩⟩,rfl,rfl,rfl,Kp.refl⟩ ?_
  rintro j e tb nb ⟨q,hj,e0,e1,e6,e7,⟨u,e8,hu⟩,e29,e30,e31,hK⟩;dsimp only at e0 e1 e6 e7 e8 e29 e30 e31;have hnb:=hK.1;have hKt:Kp tbl nx tb nb:=hK5.trans hK;refine sQ (WO.j e31 e30 (fun hz=>?_) (fun hz=>?_))
  ·have hq:q<(kids (w.par c)).length:=by simp only[zO] at hz;omega
   obtain⟨b,hb⟩:∃b,(kids (w.par c))[q]? = some b:=⟨(kids (w.par c))[q],Zm hq⟩;have hbm:b∈kids (w.par c):=ZJ hb;obtain⟨g,_,g1,_,g2,g3⟩:=(s3.kp hKt).resolve_left fun h=>by rw[h.1] at hbm;cases hbm
   have e29':=e29;rw[g2] at e29';refine nZ (WC.seq (WC.cond_true rfl (WC.skip (zN (WC.seq (WC.block (sQ ?_)))))));refine WO.idxL e29' e31 rfl hq (WO.load rfl g3 rfl (eK hb) rfl (WO.mv rfl (nZ (sQ (WO.mv rfl (WO.mv e1 (WO.e rfl rfl (fun he=>?_) (fun he=>?_))))))))
   ·have hbc:¬b=c:=fun e=>he (by rw[e])
    have hK6:Kp tb nb ((nb,AObj.cells [vI b])::tb) (nb+1):=Kp.refl.cons (Ze _) (Zo _);have hfl:(((kids (w.par c)).take q).filter fun x=>x != c).length≤(kids (w.par c)).length:=ZE (List.length_filter_le ..) (by rw[ZG];omega);obtain⟨u3,tb3,p1,p2,p3⟩:=mz (lo:=n2+1) (tbl:=(nb,AObj.cells [vI b])::tb) (nx:=nb+1) (Q:=[b]) (Nat.le_succ_of_le hnb) (uA (b:=b) (k:=nb) (by rw[zC,if_pos rfl])) (by simp) (hu.kp hK6) (by rw[List.length_singleton];omega);refine nZ (WC.cond_true rfl (WC.ops (WO.mv e8 (WO.mv rfl ?_))));refine WO.step (i:=.bslice 40 1 1 [i0 0] [(0,.t 39)]) (v:=.slice (some ⟨nb,0,none⟩) 1 1) (m':=⟨[],(nb,.cells [vI b])::tb,nb+1⟩) rfl ?_;refine WO.append rfl rfl p1 (WO.mv rfl (WO.nil (zB (zN (WC.ops ?_)))));refine WO.add e31 rfl (by simp only[zO];omega) (by simp only[zO];omega) (WO.mv rfl (WO.nil ?_));have k6:Kp tb (n2+1) tb3 (nb+1+1):=⟨p3.1,fun j hj=>(p3.2 j hj).trans (hK6.2 j (Zj hj hnb))⟩;exact⟨j-1,by omega,rfl,q+1,by omega,e0,e1,e6,e7,⟨u3,rfl,by rw[o7 hb,if_neg hbc];exact p2⟩,e29,e30,rfl,k6.1,fun j hj=>(k6.2 j hj).trans (hK.2 j hj)⟩
   ·have hbc:b=c:=Zx he;refine nZ (WC.cond_false rfl (WC.skip (zB (zN (WC.ops ?_)))));refine WO.add e31 rfl (by simp only[zO];omega) (by simp only[zO];omega) (WO.mv rfl (WO.nil ?_));exact⟨j-1,by omega,rfl,q+1,by omega,e0,e1,e6,e7,⟨u,e8,by rw[o7 hb,if_pos hbc,List.append_nil];exact hu⟩,e29,e30,rfl,hK⟩
  ·have hq:q=(kids (w.par c)).length:=by simp only[zO] at hz;omega
   rw[hq,List.take_length] at hu;have hnn:n1≠n2:=by omega
   have l7:aa n2 tb=some (.cells (ak (w.par c,w.par (w.par c),.slice ad (kids (w.par c)).length (kids (w.par c)).length))):=(hK.2 n2 (ZF _)).trans hl7;have l6:aa n1 tb=some (.cells (ak (c,w.par c,.slice ad' (kids c).length (kids c).length))):=(hK.2 n1 (by omega)).trans hl6';obtain⟨au,hau⟩:=hu.sl;subst hau;generalize hL:((kids (w.par c)).filter fun x=>x != c)=L at hu e8 ⊢;refine nZ (WC.seq (WC.cond_false rfl (WC.exit (aR (aI ?_)))));refine zN (sQ (WO.mv e8 (WO.fadd e7 ?_)));refine WO.store (vs:=[.slice au L.length L.length]) (ob':=.cells (ak (w.par c,w.par (w.par c),.slice au L.length L.length))) rfl rfl rfl rfl l7 rfl (zL rfl) rfl ?_;have l6a:aa n1 (AI.upd n2 (AObj.cells (ak (w.par c,w.par (w.par c),.slice au L.length L.length))) tb)=some (.cells (ak (c,w.par c,.slice ad' (kids c).length (kids c).length))):=by rw[zU hnn];exact l6
   refine nZ (sQ (WO.fadd e6 ?_));refine WO.store (v:=vI 0) (vs:=[vI 0]) (ob':=.cells (ak (c,0,.slice ad' (kids c).length (kids c).length))) rfl rfl rfl rfl l6a rfl (zL rfl) rfl ?_;generalize htb:AI.upd n1 (AObj.cells (ak (c,0,.slice ad' (kids c).length (kids c).length))) (AI.upd n2 (AObj.cells (ak (w.par c,w.par (w.par c),.slice au L.length L.length))) tb)=tb2;have m7:aa n2 tb2=some (.cells (ak (w.par c,w.par (w.par c),.slice au L.length L.length))):=by rw[← htb,zU (fun e=>hnn e.symm)];exact zS l7
   have m6:aa n1 tb2=some (.cells (ak (c,0,.slice ad' (kids c).length (kids c).length))):=by rw[← htb];exact zS l6a
   have hn1:nx≤n1:=hK1.1;have hn2:nx≤n2:=by omega
   have hK7:Kp tbl nx tb2 nb:=by rw[← htb];exact(hKt.upd hn2).upd hn1
   have hoth:∀k,n2+1≤k→aa k tb2=aa k tb:=fun k hk=>by rw[← htb,zU (by omega),zU (by omega)]
   have hu2:KidV 0 tb2 nb (.slice au L.length L.length) L:=by
    rcases hu with h|⟨k,h0,h1,h2,h3,h4⟩
    ·exact .inl h
    ·exact .inr ⟨k,Nat.zero_le _,h1,h2,h3,(hoth k h0).trans h4⟩
   have B7:=B.kp (hK7.up (Zn nb 7));obtain⟨u1,⟨t3,n3⟩,hc1,b1,k1⟩:=kP hh (n:=n) (m:=(w.par c,w.par (w.par c),.slice au L.length L.length)) (y:=(w.par c,w.par (w.par c),L)) (by rw[dv];omega) (fun e=>by rw[e] at hil;exact absurd hil (Nat.not_lt_zero _)) (by omega) B7 ⟨rfl,rfl,hu2.kp (Kp.refl.up (Zn _ _))⟩;have hr3:KidV 0 t3 n3 (.slice ad' (kids c).length (kids c).length) (kids c):=r3.kp ((hK7.up (Zn nb 7)).trans k1);obtain⟨u2,⟨t4,n4⟩,hc2,b2,k2⟩:=kP hh (n:=n) (m:=(c,0,.slice ad' (kids c).length (kids c).length)) (y:=(c,0,kids c)) (by rw[List.length_map,dv];omega) (fun e=>by rw[List.map_eq_nil_iff.1 e] at hil;exact absurd hil (Nat.not_lt_zero _)) (by omega) b1 ⟨rfl,rfl,hr3⟩;obtain⟨ku,_,_,_,hu2s,_,_⟩:=id b2;have hb7:n2<nb+7:=by omega
   have hb6:n1<nb+7:=by omega
   have ld70:(⟨[],tb2,nb+7⟩:Mem Ar).load ⟨n2,0,none⟩ 3=some (ak (w.par c,w.par (w.par c),.slice au L.length L.length)):=ae m7 rfl rfl;have ld71:(⟨[],t3,n3⟩:Mem Ar).load ⟨n2,0,none⟩ 3=some (ak (w.par c,w.par (w.par c),.slice au L.length L.length)):=ae ((k1.2 n2 hb7).trans m7) rfl rfl;have ld72:(⟨[],t4,n4⟩:Mem Ar).load ⟨n2,0,none⟩ 3=some (ak (w.par c,w.par (w.par c),.slice au L.length L.length)):=ae ((k2.2 n2 (Zj hb7 k1.1)).trans ((k1.2 n2 hb7).trans m7)) rfl rfl;have ld60:(⟨[],tb2,nb+7⟩:Mem Ar).load ⟨n1,0,none⟩ 3=some (ak (c,0,.slice ad' (kids c).length (kids c).length)):=ae m6 rfl rfl;have ld61:(⟨[],t3,n3⟩:Mem Ar).load ⟨n1,0,none⟩ 3=some (ak (c,0,.slice ad' (kids c).length (kids c).length)):=ae ((k1.2 n1 hb6).trans m6) rfl rfl;have ld62:(⟨[],t4,n4⟩:Mem Ar).load ⟨n1,0,none⟩ 3=some (ak (c,0,.slice ad' (kids c).length (kids c).length)):=ae ((k2.2 n1 (Zj hb6 k1.1)).trans ((k1.2 n1 hb6).trans m6)) rfl rfl;refine nZ (WC.seq (WC.a ?_));refine WD.pure (az e0 rfl rfl) (WD.load (m:=⟨[],tb2,nb+7⟩) (ms:=[]) (v:=.agg ⟨ak (w.par c,w.par (w.par c),.slice au L.length L.length)⟩) (az e7 rfl rfl) ld70 rfl ?_);refine WD.chn (m:=⟨[],tb2,nb+7⟩) (m':=⟨[],t3,n3⟩) (v:=u1) rfl rfl rfl (aW (m:=⟨[],tb2,nb+7⟩) (h:=⟨t3,n3⟩) (vs:=[.slice (some ⟨kq,0,none⟩) (bL w S kids).length (bL w S kids).length,.agg ⟨ak (w.par c,w.par (w.par c),.slice au L.length L.length)⟩]) rfl rfl hc1) ?_;refine WD.load (m:=⟨[],t3,n3⟩) (v:=.agg ⟨ak (c,0,.slice ad' (kids c).length (kids c).length)⟩) (az e6 rfl rfl) ld61 rfl ?_;refine WD.chn (m:=⟨[],t3,n3⟩) (m':=⟨[],t4,n4⟩) (v:=u2) rfl rfl rfl (aW (m:=⟨[],t3,n3⟩) (h:=⟨t4,n4⟩) (vs:=[u1,.agg ⟨ak (c,0,.slice ad' (kids c).length (kids c).length)⟩]) rfl rfl hc2) ?_;refine WD.pure rfl (WD.pure rfl (WD.nil ⟨?_,_,_,rfl,?_⟩))
   ·simp only[bi,bn,ld70,ld71,ld72,ld60,ld61,ld62,nT];rfl
   ·have hK8:Kp tbl nx t4 n4:=((hK7.up (Zn nb 7)).trans k1).trans k2;subst hu2s;refine zN (WC.ret ⟨_,_,rfl,rfl,.inr ⟨he',_,rfl,?_⟩,hK8⟩);rw[← Gk hpc,hL];exact b2.low (Nat.zero_le _)
end Go.AI
namespace Go.AI
open Go.Proofs
open Go.Fo (Wd Un Pre)
variable {tbl t' t'':LO}{nx n' n'' lo:Nat}{w:Wd}{S:List Nat}{kids:Nat→List Nat}{d:Nat→Nat}
theorem EF{p c:Nat}(h:p≠c):((bL w S kids).map (iY (p,w.par p,kids p++[c]))).map (iY (c,p,kids c))=bL (Go.Fo.addW w p c) S (Go.Fo.addK kids p c):=by
 unfold bL;rw[List.map_map,List.map_map];refine List.map_congr_left fun a _=>?_
 show iY (c,p,kids c) (iY (p,w.par p,kids p++[c]) (a,w.par a,kids a))=(a,Go.Fo.up w.par c p a,if a=p then kids p++[c] else kids a);unfold iY Go.Fo.up;dsimp only;by_cases e:a=p
 ·subst e;rw[if_pos rfl];dsimp only;rw[if_neg h,if_neg h,if_pos rfl]
 ·rw[if_neg e];dsimp only;rw[if_neg e];by_cases e2:a=c
  ·subst e2;rw[if_pos rfl,if_pos rfl]
  ·rw[if_neg e2,if_neg e2]
theorem wk{α:Type}{k j:Nat}{y z:α}{l:List (Nat×α)}(h:k≠j):upd k z ((j,y)::l)=(j,y)::upd k z l:=by
 show(bif Nat.beq k j then(j,z)::l else(j,y)::upd k z l)=_;rw[oc h,cond_false]
theorem Dv{y:Value}{Q:List Nat}{lo2:Nat}(hy:KidV lo2 tbl nx y Q)(hl:Q.length<90000) :
  ∃u tb nb,dJ ⟨[],tbl,nx⟩ 1 8 3 (.slice none 0 0) y=some (u,⟨[],tb,nb⟩)∧KidV nx tb nb u Q∧Kp tbl nx tb nb:=by
 rcases hy with⟨rfl,rfl⟩|⟨k,k0,k1,k2,rfl,hk⟩
 ·exact⟨_,_,_,rfl,.inl ⟨rfl,rfl⟩,Kp.refl⟩
 ·obtain⟨u,tb,q1,q2,q3⟩:=mz (lo:=nx) (v:=.slice none 0 0) (P:=[]) (Ze _) (uG (nx:=nx) k2 hk) k2 (.inl ⟨rfl,rfl⟩) (by rw[List.length_nil];omega);exact⟨u,tb,_,q1,q2,q3⟩
theorem DY{hk:List (aK Ar)}(hh:NoHk hk)(I:Go.Fo.Inv w S kids d)(hS:S.length<800)(hnd:S.Nodup){v:Value}{n p c:Nat}(hn:2000≤n)(hp:p∈S)(hc:c∈S)(B:Bk lo tbl nx v (bL w S kids)) :
  ∃u h',RF1 hk (n+3) 49 [v,vI p,vI c] ⟨tbl,nx⟩=some (u,h')∧((w.par c≠0∧u = .tuple ⟨[v,vI 9]⟩∨w.par c=0∧Un w c p∧u = .tuple ⟨[v,vI 12]⟩∨w.par c=0∧¬Un w c p∧∃v',u = .tuple ⟨[v',vI 0]⟩∧Bk 0 h'.tbl h'.next v' (bL (Go.Fo.addW w p c) S (Go.Fo.addK kids p c)))∧Kp tbl nx h'.tbl h'.next):=by
 obtain⟨i,hi,hf⟩:=iw (w:=w) (kids:=kids) hnd hc;have hil:i<(bL w S kids).length:=(List.getElem?_eq_some_iff.1 hi).1;obtain⟨kq,M,_,hk1,rfl,hk2,hM⟩:=id B;obtain⟨m,hm,r1,r2,r3⟩:=gh hM hi;obtain⟨mc,mp,mk⟩:=m;replace r1:c=mc:=r1.symm;replace r2:w.par c=mp:=r2.symm;replace r3:KidV 0 tbl nx mk (kids c):=r3;subst r1;subst r2;have htk:bg (bE M) (0+i*3) 3=some (ak (c,w.par c,mk)):=by rw[ZB];exact dQ hm
 refine aG hh.add OG (zL rfl) ?_;dsimp only[JT,aM];refine sQ (WO.mv rfl (WO.mv rfl (nZ (WC.seq (sQ (WO.mv rfl (WO.mv rfl ?_)))))));refine WO.a (vs:=[.slice (some ⟨kq,0,none⟩) (bL w S kids).length (bL w S kids).length,vI c]) rfl rfl (lZ hh.find hh.par (n:=n) (y:=(c,w.par c,kids c)) (by rw[dv];omega) (by omega) B hi hf) ?_;rintro u ⟨t1,n1⟩ ⟨rfl,hK1⟩;refine WO.e rfl rfl (fun he=>?_) (fun he=>?_)
 ·have he':w.par c≠0:=fun e=>he (by rw[e])
  refine nZ (WC.cond_true rfl (sQ (WO.mv rfl (WO.mv rfl (WO.mv rfl (nZ (WC.ret (aB ⟨_,_,rfl,rfl,.inl ⟨he',rfl⟩,hK1⟩))))))))
 ·have he':w.par c=0:=Zx he;refine nZ (cF rfl (WC.seq (sQ (WO.mv rfl (WO.mv rfl (WO.mv rfl ?_))))));refine WO.a (vs:=[.slice (some ⟨kq,0,none⟩) (bL w S kids).length (bL w S kids).length,vI p,vI c]) rfl rfl (qk hh I hS hnd (n:=n) (a:=p) (top:=c) (by omega) hc (B.kp hK1)) ?_;rintro u ⟨t2,n2⟩ ⟨rfl,hK2⟩;have hK12:=hK1.trans hK2;by_cases hu:Un w c p
  ·rw[Zh ((I.QV hc hp).1 hu)];refine nZ (WC.cond_true rfl (sQ (WO.mv rfl (WO.mv rfl (WO.mv rfl (nZ (WC.ret (aB ⟨_,_,rfl,rfl,.inr (.inl ⟨he',hu,rfl⟩),hK12⟩))))))))
  ·obtain⟨i2,hi2,hf2⟩:=iw (w:=w) (kids:=kids) hnd hp;have hil2:i2<(bL w S kids).length:=(List.getElem?_eq_some_iff.1 hi2).1;have hpc:p≠c:=fun e=>hu (e▸Un.refl)
   obtain⟨m2,hm2,s1,s2,s3⟩:=gh hM hi2;obtain⟨pc,pp,pk⟩:=m2;replace s1:p=pc:=s1.symm;replace s2:w.par p=pp:=s2.symm;replace s3:KidV 0 tbl nx pk (kids p):=s3;subst s1;subst s2;have htk2:bg (bE M) (0+i2*3) 3=some (ak (p,w.par p,pk)):=by rw[ZB];exact dQ hm2
   obtain⟨ad,hpk⟩:=s3.sl;obtain⟨ad',hmk⟩:=r3.sl;subst hpk;subst hmk;have h5:=Go.Fo.nodup_len _ _ (I.nd _ hp) fun y hy=>(I.kid hp hy).1
   have hK2a:Kp tbl nx t2 (n2+16):=hK12.up (Zn _ _);obtain⟨u,⟨t3,n3⟩,hc1,rfl,k3⟩:=iJ hh.find (n:=n+1) (y:=(p,w.par p,kids p)) (by rw[dv];omega) (by omega) (B.kp hK2a) hi2 hf2;have hK3:=hK2a.trans k3;obtain⟨u,⟨t4,n4⟩,hc2,rfl,k4⟩:=iJ hh.find (n:=n+1) (y:=(c,w.par c,kids c)) (by rw[dv];omega) (by omega) (B.kp hK3) hi hf;have hK4:=hK3.trans k4;have hn3:n2+16≤n3:=k3.1;have hn4:n3≤n4:=k4.1;have hn2:nx≤n2:=hK12.1;rw[Zs (fun h=>hu ((I.QV hc hp).2 h))];refine nZ (cF rfl (WC.seq (WC.a ?_)));have hkq:∀(t:LO) (m:Nat),Kp tbl nx t m→aa kq t=some (.grown 3 78 (bE M)):=fun t m h=>(h.2 kq hk1).trans hk2
   have hq12:kq≠n2+12:=by omega
   have hq13:kq≠n2+13:=by omega
   have lp:∀(t:LO) (m m':Nat),Kp tbl nx t m→(⟨[],t,m'⟩:Mem Ar).load ⟨kq,0+i2*3,none⟩ 3=some (ak (p,w.par p,.slice ad (kids p).length (kids p).length)):=fun t m m' h=>ae (hkq t m h) rfl htk2
   have lc:∀(t:LO) (m m':Nat),Kp tbl nx t m→(⟨[],t,m'⟩:Mem Ar).load ⟨kq,0+i*3,none⟩ 3=some (ak (c,w.par c,.slice ad' (kids c).length (kids c).length)):=fun t m m' h=>ae (hkq t m h) rfl htk
   have kA:Kp tbl nx ((n2+12,AObj.cells (ak (p,w.par p,.slice ad (kids p).length (kids p).length)))::(n2+13,.cells [i0 0,i0 0,.slice none 0 0])::t4) n4:=(hK4.cons (by omega) (Ze _)).cons (by omega) (Ze _);have kB:Kp tbl nx ((n2+12,AObj.cells (ak (p,w.par p,.slice ad (kids p).length (kids p).length)))::(n2+13,.cells (ak (c,w.par c,.slice ad' (kids c).length (kids c).length)))::t4) n4:=(hK4.cons (by omega) (Ze _)).cons (by omega) (Ze _);have l0:=lp _ _ (n2+16) hK2a;have l1:=lp _ _ n3 hK3;have l2:=lp _ _ n4 hK4;have l3:=lp _ _ n4 kA;have l4:=lp _ _ n4 kB;have c0:=lc _ _ (n2+16) hK2a;have c1:=lc _ _ n3 hK3;have c2:=lc _ _ n4 hK4;have c3:=lc _ _ n4 kA;have c4:=lc _ _ n4 kB;have st1:(⟨[],(n2+12,.cells [i0 0,i0 0,.slice none 0 0])::(n2+13,.cells [i0 0,i0 0,.slice none 0 0])::t4,n4⟩:Mem Ar).store ⟨n2+12,0,none⟩ (ak (p,w.par p,.slice ad (kids p).length (kids p).length))=some ⟨[],(n2+12,.cells (ak (p,w.par p,.slice ad (kids p).length (kids p).length)))::(n2+13,.cells [i0 0,i0 0,.slice none 0 0])::t4,n4⟩:=by
    have hs:=ba (nx:=n4) (vs:=ak (p,w.par p,.slice ad (kids p).length (kids p).length)) (o:=0) (ob':=.cells (aT [i0 0,i0 0,.slice none 0 0] 0 (ak (p,w.par p,.slice ad (kids p).length (kids p).length)))) (tbl:=(n2+12,.cells [i0 0,i0 0,.slice none 0 0])::(n2+13,.cells [i0 0,i0 0,.slice none 0 0])::t4) (i:=n2+12) (by rw[zC,if_pos rfl]) rfl (zL rfl) rfl;rw[cw] at hs;exact hs
   have st2:(⟨[],(n2+12,.cells (ak (p,w.par p,.slice ad (kids p).length (kids p).length)))::(n2+13,.cells [i0 0,i0 0,.slice none 0 0])::t4,n4⟩:Mem Ar).store ⟨n2+13,0,none⟩ (ak (c,w.par c,.slice ad' (kids c).length (kids c).length))=some ⟨[],(n2+12,.cells (ak (p,w.par p,.slice ad (kids p).length (kids p).length)))::(n2+13,.cells (ak (c,w.par c,.slice ad' (kids c).length (kids c).length)))::t4,n4⟩:=by
    have hs:=ba (nx:=n4) (vs:=ak (c,w.par c,.slice ad' (kids c).length (kids c).length)) (o:=0) (ob':=.cells (aT [i0 0,i0 0,.slice none 0 0] 0 (ak (c,w.par c,.slice ad' (kids c).length (kids c).length)))) (tbl:=(n2+12,.cells (ak (p,w.par p,.slice ad (kids p).length (kids p).length)))::(n2+13,.cells [i0 0,i0 0,.slice none 0 0])::t4) (i:=n2+13) (by rw[zC,if_neg (by show¬n2+13=n2+12;omega),zC,if_pos rfl]) rfl (zL rfl) rfl;rw[wk (by omega),cw] at hs;exact hs
   refine WD.pure rfl (WD.pure rfl (WD.pure rfl ?_));refine WD.chn (m:=⟨[],t2,n2+16⟩) (m':=⟨[],t3,n3⟩) (v:=.int .i64 (Int.ofNat i2)) rfl rfl rfl (aW (m:=⟨[],t2,n2+16⟩) (h:=⟨t3,n3⟩) (vs:=[.slice (some ⟨kq,0,none⟩) (bL w S kids).length (bL w S kids).length,vI p]) rfl rfl hc1) ?_;refine WD.pure (dF rfl rfl rfl hil2) (WD.load (m:=⟨[],t3,n3⟩) (v:=.agg ⟨ak (p,w.par p,.slice ad (kids p).length (kids p).length)⟩) rfl l1 rfl ?_);refine WD.pure rfl (WD.pure rfl (WD.pure rfl ?_));refine WD.chn (m:=⟨[],t3,n3⟩) (m':=⟨[],t4,n4⟩) (v:=.int .i64 (Int.ofNat i)) rfl rfl rfl (aW (m:=⟨[],t3,n3⟩) (h:=⟨t4,n4⟩) (vs:=[.slice (some ⟨kq,0,none⟩) (bL w S kids).length (bL w S kids).length,vI c]) rfl rfl hc2) ?_;refine WD.pure (dF rfl rfl rfl hil) (WD.load (m:=⟨[],t4,n4⟩) (v:=.agg ⟨ak (c,w.par c,.slice ad' (kids c).length (kids c).length)⟩) rfl c2 rfl ?_);refine WD.alloc rfl rfl (WD.alloc rfl rfl ?_);refine WD.chn (m:=⟨[],t4,n4⟩) (m':=⟨[],(n2+12,.cells (ak (p,w.par p,.slice ad (kids p).length (kids p).length)))::(n2+13,.cells [i0 0,i0 0,.slice none 0 0])::t4,n4⟩) (v:=undef) rfl rfl rfl (aJ (vs:=ak (p,w.par p,.slice ad (kids p).length (kids p).length)) rfl rfl rfl rfl st1) ?_;refine WD.chn (m:=⟨[],(n2+12,.cells (ak (p,w.par p,.slice ad (kids p).length (kids p).length)))::(n2+13,.cells [i0 0,i0 0,.slice none 0 0])::t4,n4⟩) (m':=⟨[],(n2+12,.cells (ak (p,w.par p,.slice ad (kids p).length (kids p).length)))::(n2+13,.cells (ak (c,w.par c,.slice ad' (kids c).length (kids c).length)))::t4,n4⟩) (v:=undef) rfl rfl rfl (aJ (vs:=ak (c,w.par c,.slice ad' (kids c).length (kids c).length)) rfl rfl rfl rfl st2) ?_;refine WD.nil ⟨?_,_,_,rfl,?_⟩
   ·simp only[bi,bn,l0,l1,l2,l3,l4,c0,c1,c2,c3,c4,nT];rfl
   ·refine zN (sQ (WO.mv rfl (nZ (sQ (WO.mv rfl (WO.fadd rfl ?_))))));have hl8:aa (n2+12) ((n2+12,AObj.cells (ak (p,w.par p,.slice ad (kids p).length (kids p).length)))::(n2+13,.cells (ak (c,w.par c,.slice ad' (kids c).length (kids c).length)))::t4)=some (.cells (ak (p,w.par p,.slice ad (kids p).length (kids p).length))):=by rw[zC,if_pos rfl]
    have hl9:aa (n2+13) ((n2+12,AObj.cells (ak (p,w.par p,.slice ad (kids p).length (kids p).length)))::(n2+13,.cells (ak (c,w.par c,.slice ad' (kids c).length (kids c).length)))::t4)=some (.cells (ak (c,w.par c,.slice ad' (kids c).length (kids c).length))):=by rw[zC,if_neg (by show¬n2+13=n2+12;omega),zC,if_pos rfl]
    refine WO.load (v:=.slice ad (kids p).length (kids p).length) rfl hl8 rfl rfl rfl ?_;obtain⟨u1,t5,n5,p1,p2,p3⟩:=Dv (tbl:=(n2+12,AObj.cells (ak (p,w.par p,.slice ad (kids p).length (kids p).length)))::(n2+13,.cells (ak (c,w.par c,.slice ad' (kids c).length (kids c).length)))::t4) (nx:=n4) (s3.kp kB) (by omega);refine WO.append rfl rfl p1 (WO.mv rfl (nZ (sQ (WO.mv rfl (WO.mv rfl ?_)))));refine WO.step (i:=.bslice 39 1 1 [i0 0] [(0,.t 38)]) (v:=.slice (some ⟨n5,0,none⟩) 1 1) (m':=⟨[],(n5,.cells [vI c])::t5,n5+1⟩) rfl ?_;have hK5:Kp t5 n5 ((n5,AObj.cells [vI c])::t5) (n5+1):=Kp.refl.cons (Ze _) (Zo _);obtain⟨u2,t6,q1,q2,q3⟩:=mz (lo:=n4) (tbl:=(n5,AObj.cells [vI c])::t5) (nx:=n5+1) (Q:=[c]) (Nat.le_succ_of_le p3.1) (uA (b:=c) (k:=n5) (by rw[zC,if_pos rfl])) (by simp) (p2.kp hK5) (by rw[List.length_singleton];omega);have hK6:Kp ((n2+12,AObj.cells (ak (p,w.par p,.slice ad (kids p).length (kids p).length)))::(n2+13,.cells (ak (c,w.par c,.slice ad' (kids c).length (kids c).length)))::t4) n4 t6 (n5+1+1):=⟨q3.1,fun j hj=>(q3.2 j hj).trans ((hK5.2 j (Zj hj p3.1)).trans (p3.2 j hj))⟩;have l8:aa (n2+12) t6=some (.cells (ak (p,w.par p,.slice ad (kids p).length (kids p).length))):=(hK6.2 (n2+12) (by omega)).trans hl8;have l9:aa (n2+13) t6=some (.cells (ak (c,w.par c,.slice ad' (kids c).length (kids c).length))):=(hK6.2 (n2+13) (by omega)).trans hl9;obtain⟨au,hau⟩:=q2.sl;subst hau;generalize hL:kids p++[c]=L at q1 q2 ⊢;refine WO.append rfl rfl q1 (WO.fadd rfl ?_);refine WO.store (vs:=[.slice au L.length L.length]) (ob':=.cells (ak (p,w.par p,.slice au L.length L.length))) rfl rfl rfl rfl l8 rfl (zL rfl) rfl ?_;have l9a:aa (n2+13) (AI.upd (n2+12) (AObj.cells (ak (p,w.par p,.slice au L.length L.length))) t6)=some (.cells (ak (c,w.par c,.slice ad' (kids c).length (kids c).length))):=by rw[zU (by omega)];exact l9
    refine nZ (sQ (WO.mv rfl (WO.fadd rfl ?_)));refine WO.store (v:=vI p) (vs:=[vI p]) (ob':=.cells (ak (c,p,.slice ad' (kids c).length (kids c).length))) rfl rfl rfl rfl l9a rfl (zL rfl) rfl ?_;generalize htb:AI.upd (n2+13) (AObj.cells (ak (c,p,.slice ad' (kids c).length (kids c).length))) (AI.upd (n2+12) (AObj.cells (ak (p,w.par p,.slice au L.length L.length))) t6)=tb2;generalize hnb:n5+1+1=nb at hK6 q2 ⊢;have m8:aa (n2+12) tb2=some (.cells (ak (p,w.par p,.slice au L.length L.length))):=by rw[← htb,zU (by omega)];exact zS l8
    have m9:aa (n2+13) tb2=some (.cells (ak (c,p,.slice ad' (kids c).length (kids c).length))):=by rw[← htb];exact zS l9a
    have hn46:=hK6.1;have hK7:Kp tbl nx tb2 nb:=by rw[← htb];exact((kB.trans hK6).upd (k:=n2+12) (ZE hn2 (Zn _ _))).upd (k:=n2+13) (ZE hn2 (Zn _ _))
    have hoth:∀k,n4≤k→aa k tb2=aa k t6:=fun k hk=>by rw[← htb,zU (by omega),zU (by omega)]
    have hu2:KidV 0 tb2 nb (.slice au L.length L.length) L:=by
     rcases q2 with h|⟨k,h0,h1,h2,h3,h4⟩
     ·exact .inl h
     ·exact .inr ⟨k,Nat.zero_le _,h1,h2,h3,(hoth k h0).trans h4⟩
    have B7:=B.kp (hK7.up (Zn nb 7));obtain⟨u3,⟨t7,n7⟩,hd1,b1,k1⟩:=kP hh (n:=n+1) (m:=(p,w.par p,.slice au L.length L.length)) (y:=(p,w.par p,L)) (by rw[dv];omega) (fun e=>by rw[e] at hil;exact absurd hil (Nat.not_lt_zero _)) (by omega) B7 ⟨rfl,rfl,hu2.kp (Kp.refl.up (Zn _ _))⟩;have hr3:KidV 0 t7 n7 (.slice ad' (kids c).length (kids c).length) (kids c):=r3.kp ((hK7.up (Zn nb 7)).trans k1);obtain⟨u4,⟨t8,n8⟩,hd2,b2,k2⟩:=kP hh (n:=n+1) (m:=(c,p,.slice ad' (kids c).length (kids c).length)) (y:=(c,p,kids c)) (by rw[List.length_map,dv];omega) (fun e=>by rw[List.map_eq_nil_iff.1 e] at hil;exact absurd hil (Nat.not_lt_zero _)) (by omega) b1 ⟨rfl,rfl,hr3⟩;obtain⟨ku,_,_,_,hu4s,_,_⟩:=id b2;have hb7:n2+12<nb+7:=by omega
    have hb6:n2+13<nb+7:=by omega
    have ld70:(⟨[],tb2,nb+7⟩:Mem Ar).load ⟨n2+12,0,none⟩ 3=some (ak (p,w.par p,.slice au L.length L.length)):=ae m8 rfl rfl;have ld71:(⟨[],t7,n7⟩:Mem Ar).load ⟨n2+12,0,none⟩ 3=some (ak (p,w.par p,.slice au L.length L.length)):=ae ((k1.2 _ hb7).trans m8) rfl rfl;have ld72:(⟨[],t8,n8⟩:Mem Ar).load ⟨n2+12,0,none⟩ 3=some (ak (p,w.par p,.slice au L.length L.length)):=ae ((k2.2 _ (Zj hb7 k1.1)).trans ((k1.2 _ hb7).trans m8)) rfl rfl;have ld60:(⟨[],tb2,nb+7⟩:Mem Ar).load ⟨n2+13,0,none⟩ 3=some (ak (c,p,.slice ad' (kids c).length (kids c).length)):=ae m9 rfl rfl;have ld61:(⟨[],t7,n7⟩:Mem Ar).load ⟨n2+13,0,none⟩ 3=some (ak (c,p,.slice ad' (kids c).length (kids c).length)):=ae ((k1.2 _ hb6).trans m9) rfl rfl;have ld62:(⟨[],t8,n8⟩:Mem Ar).load ⟨n2+13,0,none⟩ 3=some (ak (c,p,.slice ad' (kids c).length (kids c).length)):=ae ((k2.2 _ (Zj hb6 k1.1)).trans ((k1.2 _ hb6).trans m9)) rfl rfl;refine nZ (WC.seq (WC.a ?_));refine WD.pure rfl (WD.load (m:=⟨[],tb2,nb+7⟩) (ms:=[]) (v:=.agg ⟨(ak (p,w.par p,.slice au L.length L.length))⟩) rfl ld70 rfl ?_);refine WD.chn (m:=⟨[],tb2,nb+7⟩) (m':=⟨[],t7,n7⟩) (v:=u3) rfl rfl rfl (aW (m:=⟨[],tb2,nb+7⟩) (h:=⟨t7,n7⟩) (vs:=[.slice (some ⟨kq,0,none⟩) (bL w S kids).length (bL w S kids).length,.agg ⟨(ak (p,w.par p,.slice au L.length L.length))⟩]) rfl rfl hd1) ?_;refine WD.load (m:=⟨[],t7,n7⟩) (v:=.agg ⟨(ak (c,p,.slice ad' (kids c).length (kids c).length))⟩) rfl ld61 rfl ?_;refine WD.chn (m:=⟨[],t7,n7⟩) (m':=⟨[],t8,n8⟩) (v:=u4) rfl rfl rfl (aW (m:=⟨[],t7,n7⟩) (h:=⟨t8,n8⟩) (vs:=[u3,.agg ⟨(ak (c,p,.slice ad' (kids c).length (kids c).length))⟩]) rfl rfl hd2) ?_;refine WD.pure rfl (WD.pure rfl (WD.nil ⟨?_,_,_,rfl,?_⟩))
    ·simp only[bi,bn,ld70,ld71,ld72,ld60,ld61,ld62,nT];rfl
    ·have hK8:Kp tbl nx t8 n8:=((hK7.up (Zn nb 7)).trans k1).trans k2;subst hu4s;refine zN (WC.ret ⟨_,_,rfl,rfl,.inr (.inr ⟨he',hu,_,rfl,?_⟩),hK8⟩);rw[← EF hpc,hL];exact b2.low (Nat.zero_le _)
end Go.AI
