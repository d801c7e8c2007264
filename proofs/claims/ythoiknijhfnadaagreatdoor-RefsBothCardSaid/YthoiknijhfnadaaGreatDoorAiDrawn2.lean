/- The evaluator upon a region whose order is drawn: what its one walk has found. No program is named here. -/
import Derived.Test.YthoiknijhfnadaaGreatDoorAiDrawn
namespace Go.AI
def edgesOf(o:Oper):List Nat:=(o.after.toList.filter (Region.binds .any)).map (·.on)
theorem befores_len:∀(l:List Oper) (acc:List (List Nat)),(befores l acc).length=acc.length+l.length
 |[],acc=>by simp[befores]
 |o::r,acc=>by rw[befores_cons,befores_len r];simp;omega
theorem befores_pre:∀(l:List Oper) (acc:List (List Nat)),∃t,befores l acc=acc++t
 |[],acc=>⟨[],by simp[befores]⟩
 |o::r,acc=>by
  obtain⟨t,ht⟩:=befores_pre r (acc++[ahead (edgesOf o) acc])
  exact⟨ahead (edgesOf o) acc::t,by rw[befores_cons];unfold edgesOf at ht;rw[ht];simp[edgesOf]⟩
theorem befores_get:∀(l:List Oper) (acc:List (List Nat)) (j:Nat) (o:Oper),l[j]? = some o→(befores l acc).getD (acc.length+j) []=ahead (edgesOf o) ((befores l acc).take (acc.length+j))
 |[],acc,j,o,h=>by simp at h
 |x::r,acc,0,o,h=>by
  simp only[List.getElem?_cons_zero,zI] at h;subst h
  obtain⟨t,ht⟩:=befores_pre (x::r) acc
  have h2:befores (x::r) acc=befores r (acc++[ahead (edgesOf x) acc]):=befores_cons x r acc
  obtain⟨t2,ht2⟩:=befores_pre r (acc++[ahead (edgesOf x) acc])
  rw[h2,ht2,Nat.add_zero]
  simp
 |x::r,acc,j+1,o,h=>by
  have h':r[j]? = some o:=by simpa using h
  have h2:befores (x::r) acc=befores r (acc++[ahead (edgesOf x) acc]):=befores_cons x r acc
  have:=befores_get r (acc++[ahead (edgesOf x) acc]) j o h'
  rw[h2]
  simp only[List.length_append,List.length_singleton] at this
  rw[show acc.length+(j+1)=acc.length+1+j by omega]
  exact this
theorem bfOk_get:∀{bf:List (List Nat)} {b k i:Nat},bfOk b bf=true→i∈bf.getD k []→i<b+k
 |[],b,k,i,_,h=>by simp at h
 |l::r,b,0,i,h,hi=>by
  simp only[bfOk,Bool.and_eq_true,List.all_eq_true] at h
  have:=h.1 i (by simpa using hi)
  rw[blt_iff,decide_eq_true_eq] at this
  omega
 |l::r,b,k+1,i,h,hi=>by
  simp only[bfOk,Bool.and_eq_true] at h
  have:=bfOk_get h.2 (by simpa using hi)
  omega
structure Order(ops:Array Oper)(bf:List (List Nat)):Prop where
 lt:∀i k,ordB bf i k=true→i<k
 edge:∀k o e,ops[k]? = some o→e∈o.after→Region.binds .any e=true→ordB bf e.on k=true
 up:∀k o i,ops[k]? = some o→ordB bf i k=true→(∃e∈o.after,Region.binds .any e=true∧e.on=i)∨∃e∈o.after,Region.binds .any e=true∧ordB bf i e.on=true
theorem order_of{ops:Array Oper}{bf:List (List Nat)}(h:bf=befores ops.toList [])(hb:bfOk 0 bf=true):Order ops bf:=by
 have key:∀k o,ops[k]? = some o→bf.getD k []=ahead (edgesOf o) (bf.take k):=by
  intro k o ho
  have:=befores_get ops.toList [] k o (by rw[Array.getElem?_toList];exact ho)
  rw[← h] at this
  simpa using this
 have hlt:∀i k,ordB bf i k=true→i<k:=fun i k hi=>by have:=bfOk_get hb (ord_iff.1 hi);omega
 refine⟨hlt,?_,?_⟩
 ·intro k o e ho he hbd
  rw[ord_iff,key k o ho,mem_ahead]
  refine List.mem_append_left _ ?_
  unfold edgesOf
  exact List.mem_map.2 ⟨e,List.mem_filter.2 ⟨Array.mem_toList_iff.2 he,hbd⟩,rfl⟩
 ·intro k o i ho hi
  rw[ord_iff,key k o ho,mem_ahead] at hi
  rcases List.mem_append.1 hi with hi|hi
  ·unfold edgesOf at hi
   obtain⟨e,he,rfl⟩:=List.mem_map.1 hi
   obtain⟨h1,h2⟩:=List.mem_filter.1 he
   exact .inl ⟨e,Array.mem_toList_iff.1 h1,h2,rfl⟩
  ·obtain⟨l,hl,hil⟩:=List.mem_flatten.1 hi
   obtain⟨x,hx,rfl⟩:=List.mem_map.1 hl
   unfold edgesOf at hx
   obtain⟨e,he,rfl⟩:=List.mem_map.1 hx
   obtain⟨h1,h2⟩:=List.mem_filter.1 he
   refine .inr ⟨e,Array.mem_toList_iff.1 h1,h2,?_⟩
   rw[ord_iff]
   rw[List.getD_eq_getElem?_getD,List.getElem?_take] at hil
   split at hil
   ·rw[List.getD_eq_getElem?_getD];exact hil
   ·simp at hil
section
variable {X:Type}{call:CallFn X}{bf:List (List Nat)}{base:Nat}{ds:List (Nat×Option Nat)}{env0:List (Nat×Value)}
structure Grow(k:Nat)(Z Z':DS X):Prop where
 vals:∃nv,Z'.vals=nv++Z.vals∧∀x∈nv,k≤x.1
 fls:∃nf,Z'.fls=nf++Z.fls∧∀x∈nf,k≤x.1
 lds:∃nl,Z'.lds=nl++Z.lds
 chain:∃nc ns,Z'.chain=nc++Z.chain∧Z'.snaps=ns++Z.snaps∧ns.length=nc.length∧∀x∈nc,k≤x
theorem Grow.refl(k:Nat)(Z:DS X):Grow k Z Z:=⟨⟨[],rfl,by simp⟩,⟨[],rfl,by simp⟩,⟨[],rfl⟩,[],[],rfl,rfl,rfl,by simp⟩
theorem Grow.trans{k k':Nat}{Z Z' Z'':DS X}(a:Grow k Z Z')(b:Grow k' Z' Z'')(hk:k≤k'):Grow k Z Z'':=by
 obtain⟨v,v1,v2⟩:=a.vals;obtain⟨v',v1',v2'⟩:=b.vals
 obtain⟨f,f1,f2⟩:=a.fls;obtain⟨f',f1',f2'⟩:=b.fls
 obtain⟨l,l1⟩:=a.lds;obtain⟨l',l1'⟩:=b.lds
 obtain⟨c,s,c1,c2,c3,c4⟩:=a.chain;obtain⟨c',s',c1',c2',c3',c4'⟩:=b.chain
 refine⟨⟨v'++v,by rw[v1',v1];simp,fun x hx=>?_⟩,⟨f'++f,by rw[f1',f1];simp,fun x hx=>?_⟩,⟨l'++l,by rw[l1',l1];simp⟩,c'++c,s'++s,by rw[c1',c1];simp,by rw[c2',c2];simp,by simp[c3,c3'],fun x hx=>?_⟩
 ·rcases List.mem_append.1 hx with h|h
  ·have:=v2' x h;omega
  ·exact v2 x h
 ·rcases List.mem_append.1 hx with h|h
  ·have:=f2' x h;omega
  ·exact f2 x h
 ·rcases List.mem_append.1 hx with h|h
  ·have:=c4' x h;omega
  ·exact c4 x h
theorem env_grow{k:Nat}{Z Z':DS X}(hlt:∀i k,ordB bf i k=true→i<k)(h:Grow k Z Z'):envAt bf ds env0 Z'.vals k=envAt bf ds env0 Z.vals k:=by
 obtain⟨v,v1,v2⟩:=h.vals
 unfold envAt
 rw[v1,List.filter_append]
 have:v.filter (fun x=>ordB bf x.1 k)=[]:=by
  rw[List.filter_eq_nil_iff]
  intro x hx ho
  have:=hlt _ _ ho
  have:=v2 x hx
  omega
 rw[this,List.nil_append]
theorem pubs_grow{k:Nat}{Z Z':DS X}{cs:List Nat}(hlt:∀i k,ordB bf i k=true→i<k)(h:Grow k Z Z'):pubs bf cs Z'.fls k=pubs bf cs Z.fls k:=by
 obtain⟨v,v1,v2⟩:=h.fls
 unfold pubs
 rw[v1,List.filter_append]
 have:v.filter (fun f=>ordB bf f.1 k&&cs.all fun c=>!ordB bf f.1 c)=[]:=by
  rw[List.filter_eq_nil_iff]
  intro x hx ho
  simp only[Bool.and_eq_true] at ho
  have:=hlt _ _ ho.1
  have:=v2 x hx
  omega
 rw[this,List.nil_append]
def Fact(call:CallFn X)(bf:List (List Nat))(base:Nat)(ds:List (Nat×Option Nat))(env0:List (Nat×Value))(Z:DS X)(k:Nat)(g:Option (Nat×Bool))(i:IOp):Prop :=
 (wanted (envAt bf ds env0 Z.vals k) g=some false∧(k,i.dst,undef)∈Z.vals) ∨
 (wanted (envAt bf ds env0 Z.vals k) g=some true∧∃v,(k,i.dst,v)∈Z.vals∧match kindOf i with
  | .pure p=>peval (envAt bf ds env0 Z.vals k) p=some v
  | .load n ag a=>∃ad r,evo (envAt bf ds env0 Z.vals k) a=some (.pointer (some ad))∧(k,.ld ad n,r)∈Z.lds∧oneOf ag r=some v
  | .mget z ag o x y=>ag=false∧o=false∧∃b j n,evo (envAt bf ds env0 Z.vals k) x=some (.map (some b))∧evo (envAt bf ds env0 Z.vals k) y=some (.int j n)∧(k,.mp b j n z,[v])∈Z.lds
  | .alloc=>∃r,allocI (envAt bf ds env0 Z.vals k) i=some r∧v=refTo (base+k) r.2.2∧(k,r.1,AObj.cells r.2.1)∈Z.fls
  | .chain=>(k∉Z.chain∧∃d x ad n c,∃f:Nat×Bool×AObj X,∃cs l,i = .b2s d x∧evo (envAt bf ds env0 Z.vals k) x=some (.slice (some ad) n c)∧f∈Z.fls∧ad.block=base+f.1∧ordB bf f.1 k=true∧only bf f.1 k=true ∧
    (⟨[],[(base+f.1,f.2.2)],0⟩:Mem X).loads (some ad) n=some cs∧cellBytes cs=some l∧v = .string ⟨⟨l⟩⟩)∨∃nc cs ns m m' ms,Z.chain=nc++k::cs∧Z.snaps=ns++m'::m::ms∧ns.length=nc.length∧(∀c∈cs,ordB bf c k=true)∧(∀c∈nc,k<c) ∧
    estep call (envAt bf ds env0 Z.vals k) (layAll base (pubs bf cs Z.fls k) m) i=some (v,m'))
theorem dstep_grow{k:Nat}{g:Option (Nat×Bool)}{i:IOp}{Z Z':DS X}(h:dstep call bf base ds env0 k g i Z=some Z'):Grow k Z Z':=by
 unfold dstep at h
 split at h
 ·injection h with h;subst h
  exact⟨⟨[_],rfl,by simp⟩,⟨[],rfl,by simp⟩,⟨[],rfl⟩,[],[],rfl,rfl,rfl,by simp⟩
 ·split at h
  ·split at h
   ·injection h with h;subst h
    exact⟨⟨[_],rfl,by simp⟩,⟨[],rfl,by simp⟩,⟨[],rfl⟩,[],[],rfl,rfl,rfl,by simp⟩
   ·cases h
  ·split at h
   ·split at h
    ·split at h
     ·injection h with h;subst h
      exact⟨⟨[_],rfl,by simp⟩,⟨[],rfl,by simp⟩,⟨[_],rfl⟩,[],[],rfl,rfl,rfl,by simp⟩
     ·cases h
    ·cases h
   ·cases h
  ·split at h
   ·split at h
    ·injection h with h;subst h
     exact⟨⟨[_],rfl,by simp⟩,⟨[],rfl,by simp⟩,⟨[_],rfl⟩,[],[],rfl,rfl,rfl,by simp⟩
    ·cases h
   ·cases h
  ·split at h
   ·injection h with h;subst h
    exact⟨⟨[_],rfl,by simp⟩,⟨[_],rfl,by simp⟩,⟨[],rfl⟩,[],[],rfl,rfl,rfl,by simp⟩
   ·cases h
  ·split at h
   ·cases hb:(Z.chain.all fun c=>!Nat.beq c k) with
    |false=>rw[hb] at h;cases h
    |true =>
     rw[hb,cond_true] at h
     injection h with h;subst h
     exact⟨⟨[_],rfl,by simp⟩,⟨[],rfl,by simp⟩,⟨[],rfl⟩,[],[],rfl,rfl,rfl,by simp⟩
   ·cases hb:(Z.chain.all fun c=>ordB bf c k) with
    |false=>rw[hb] at h;cases h
    |true =>
     rw[hb,cond_true] at h
     split at h
     ·rename_i m ms hsn
      split at h
      ·injection h with h;subst h
       exact⟨⟨[_],rfl,by simp⟩,⟨[],rfl,by simp⟩,⟨[],rfl⟩,[k],[_],rfl,by rw[hsn];rfl,rfl,by simp⟩
      ·cases h
     ·cases h
 ·cases h
theorem drun_grow:∀{l:List (Option (Nat×Bool)×IOp)} {k:Nat} {Z Z':DS X},drun call bf base ds env0 k l Z=some Z'→Grow k Z Z'
 |[],k,Z,Z',h=>by simp only[drun,zI] at h;subst h;exact .refl k Z
 |(g,i)::r,k,Z,Z',h=>by
  simp only[drun] at h
  split at h
  ·rename_i Z1 h1
   exact(dstep_grow h1).trans (drun_grow h) (Nat.le_succ k)
  ·cases h
theorem dstep_fact{k:Nat}{g:Option (Nat×Bool)}{i:IOp}{Z Z1 Z':DS X}(hlt:∀i k,ordB bf i k=true→i<k)(h:dstep call bf base ds env0 k g i Z=some Z1)(hg:Grow (k+1) Z1 Z'):Fact call bf base ds env0 Z' k g i:=by
 have hg0:Grow k Z Z':=(dstep_grow h).trans hg (Nat.le_succ k)
 unfold Fact
 rw[env_grow hlt hg0]
 obtain⟨nv,v1,v2⟩:=hg.vals
 obtain⟨nf,f1,f2⟩:=hg.fls
 obtain⟨nl,l1⟩:=hg.lds
 obtain⟨nc,ns,c1,c2,c3,c4⟩:=hg.chain
 have inv:∀x,x∈Z1.vals→x∈Z'.vals:=fun x hx=>by rw[v1];exact List.mem_append_right _ hx
 unfold dstep at h
 split at h
 ·rename_i hw
  injection h with h;subst h
  exact .inl ⟨hw,inv _ (List.mem_cons_self ..)⟩
 ·rename_i hw
  refine .inr ⟨hw,?_⟩
  split at h
  ·rename_i p hk
   split at h
   ·rename_i v hv
    injection h with h;subst h
    refine⟨v,inv _ (List.mem_cons_self ..),?_⟩
    rw[hk];exact hv
   ·cases h
  ·rename_i n ag ao hk
   split at h
   ·rename_i ad m ms ha hsn
    split at h
    ·rename_i r hr
     split at h
     ·rename_i v hv
      injection h with h;subst h
      refine⟨v,inv _ (List.mem_cons_self ..),?_⟩
      rw[hk]
      exact⟨ad,r,ha,by rw[l1];exact List.mem_append_right _ (List.mem_cons_self ..),hv⟩
     ·cases h
    ·cases h
   ·cases h
  ·rename_i z ag o x y hk
   split at h
   ·rename_i b j n m ms hgo hx hy hsn
    split at h
    ·rename_i v hr
     injection h with h;subst h
     refine⟨v,inv _ (List.mem_cons_self ..),?_⟩
     rw[hk]
     simp only[Bool.or_eq_false_iff] at hgo
     exact⟨hgo.1,hgo.2,b,j,n,hx,hy,by rw[l1];exact List.mem_append_right _ (List.mem_cons_self ..)⟩
    ·cases h
   ·cases h
  ·rename_i hk
   split at h
   ·rename_i r hr
    injection h with h;subst h
    refine⟨_,inv _ (List.mem_cons_self ..),?_⟩
    rw[hk]
    exact⟨r,hr,rfl,by rw[f1];exact List.mem_append_right _ (List.mem_cons_self ..)⟩
   ·cases h
  ·rename_i hk
   split at h
   ·rename_i v hpk
    cases hb:(Z.chain.all fun c=>!Nat.beq c k) with
    |false=>rw[hb] at h;cases h
    |true =>
     rw[hb,cond_true] at h
     injection h with h;subst h
     refine⟨v,inv _ (List.mem_cons_self ..),?_⟩
     rw[hk]
     refine .inl ⟨?_,?_⟩
     ·rw[c1]
      intro hm
      rcases List.mem_append.1 hm with hm|hm
      ·have:=c4 k hm;omega
      ·have:=List.all_eq_true.1 hb k hm
       simp at this
     ·unfold peekV at hpk
      split at hpk
      ·rename_i d x
       split at hpk
       ·rename_i ad n c hev
        split at hpk
        ·rename_i f hf
         split at hpk
         ·rename_i cs hcs
          simp only[Option.map_eq_some_iff] at hpk
          obtain⟨l,hl,rfl⟩:=hpk
          have hfm:=List.mem_of_find?_eq_some hf
          have hfp:=List.find?_some hf
          simp only[Bool.and_eq_true,Nat.beq_eq] at hfp
          exact⟨d,x,ad,n,c,f,cs,l,rfl,hev,by rw[f1];exact List.mem_append_right _ hfm,hfp.1,hfp.2.1,hfp.2.2,hcs,hl,rfl⟩
         ·cases hpk
        ·cases hpk
       ·cases hpk
      ·cases hpk
   cases hb:(Z.chain.all fun c=>ordB bf c k) with
   |false=>rw[hb] at h;cases h
   |true =>
    rw[hb,cond_true] at h
    split at h
    ·rename_i m ms hsn
     split at h
     ·rename_i v m' he
      injection h with h;subst h
      refine⟨v,inv _ (List.mem_cons_self ..),?_⟩
      rw[hk]
      refine .inr ⟨nc,Z.chain,ns,m,m',ms,c1,c2,c3,fun c hc=>List.all_eq_true.1 hb c hc,fun c hc=>by have:=c4 c hc;omega,?_⟩
      rw[pubs_grow hlt hg0]
      exact he
     ·cases h
    ·cases h
 ·cases h
theorem drun_fact(hlt:∀i k,ordB bf i k=true→i<k):∀{l:List (Option (Nat×Bool)×IOp)} {k:Nat} {Z Z':DS X},drun call bf base ds env0 k l Z=some Z'→∀(j:Nat) (g:Option (Nat×Bool)) (i:IOp),l[j]? = some (g,i)→Fact call bf base ds env0 Z' (k+j) g i
 |[],k,Z,Z',h,j,g,i,hj=>by simp at hj
 |(g0,i0)::r,k,Z,Z',h,j,g,i,hj=>by
  simp only[drun] at h
  split at h
  ·rename_i Z1 h1
   cases j with
   |zero =>
    simp only[List.getElem?_cons_zero,zI,Prod.mk.injEq] at hj
    obtain⟨rfl,rfl⟩:=hj
    exact dstep_fact hlt h1 (drun_grow h)
   |succ j =>
    have:=drun_fact hlt h j g i (by simpa using hj)
    rw[show k+(j+1)=Nat.succ k+j by omega]
    exact this
  ·cases h
structure Once(l:List (Option (Nat×Bool)×IOp))(k:Nat)(Z Z':DS X):Prop where
 vals:∀x∈Z'.vals,x∈Z.vals∨∃g i,k≤x.1∧l[x.1-k]? = some (g,i)∧x.2.1=i.dst
 fls:∀f∈Z'.fls,f∈Z.fls∨∃g i,k≤f.1∧l[f.1-k]? = some (g,i)∧kindOf i = .alloc∧(∃cs,f.2.2 = .cells cs)∧wanted (envAt bf ds env0 Z'.vals f.1) g=some true
 chain:∀c∈Z'.chain,c∈Z.chain∨∃g i,k≤c∧l[c-k]? = some (g,i)∧kindOf i = .chain∧wanted (envAt bf ds env0 Z'.vals c) g=some true
 valsU:(∀x∈Z.vals,x.1<k)→(∀x∈Z.vals,∀y∈Z.vals,x.1=y.1→x=y)→∀x∈Z'.vals,∀y∈Z'.vals,x.1=y.1→x=y
 flsU:(∀x∈Z.fls,x.1<k)→(∀x∈Z.fls,∀y∈Z.fls,x.1=y.1→x=y)→∀x∈Z'.fls,∀y∈Z'.fls,x.1=y.1→x=y
 flsN:(∀x∈Z.fls,x.1<k)→(Z.fls.map (·.1)).Nodup→(Z'.fls.map (·.1)).Nodup
theorem dstep_shape{k:Nat}{g:Option (Nat×Bool)}{i:IOp}{Z Z':DS X}(h:dstep call bf base ds env0 k g i Z=some Z') :
  (∃v,Z'.vals=(k,i.dst,v)::Z.vals)∧(Z'.fls=Z.fls∨kindOf i = .alloc∧wanted (envAt bf ds env0 Z.vals k) g=some true∧∃b cs,Z'.fls=(k,b,.cells cs)::Z.fls)∧(Z'.chain=Z.chain∨kindOf i = .chain∧wanted (envAt bf ds env0 Z.vals k) g=some true∧Z'.chain=k::Z.chain):=by
 unfold dstep at h
 split at h
 ·injection h with h;subst h;exact⟨⟨_,rfl⟩,.inl rfl,.inl rfl⟩
 ·rename_i hw
  split at h
  ·split at h
   ·injection h with h;subst h;exact⟨⟨_,rfl⟩,.inl rfl,.inl rfl⟩
   ·cases h
  ·split at h
   ·split at h
    ·split at h
     ·injection h with h;subst h;exact⟨⟨_,rfl⟩,.inl rfl,.inl rfl⟩
     ·cases h
    ·cases h
   ·cases h
  ·split at h
   ·split at h
    ·injection h with h;subst h;exact⟨⟨_,rfl⟩,.inl rfl,.inl rfl⟩
    ·cases h
   ·cases h
  ·rename_i hk
   split at h
   ·injection h with h;subst h;exact⟨⟨_,rfl⟩,.inr ⟨hk,hw,_,_,rfl⟩,.inl rfl⟩
   ·cases h
  ·rename_i hk
   split at h
   ·cases hb:(Z.chain.all fun c=>!Nat.beq c k) with
    |false=>rw[hb] at h;cases h
    |true=>rw[hb,cond_true] at h;injection h with h;subst h;exact⟨⟨_,rfl⟩,.inl rfl,.inl rfl⟩
   cases hb:(Z.chain.all fun c=>ordB bf c k) with
   |false=>rw[hb] at h;cases h
   |true =>
    rw[hb,cond_true] at h
    split at h
    ·split at h
     ·injection h with h;subst h;exact⟨⟨_,rfl⟩,.inl rfl,.inr ⟨hk,hw,rfl⟩⟩
     ·cases h
    ·cases h
 ·cases h
theorem drun_once(hlt:∀i k,ordB bf i k=true→i<k):∀{l:List (Option (Nat×Bool)×IOp)} {k:Nat} {Z Z':DS X},drun call bf base ds env0 k l Z=some Z'→Once (bf:=bf) (ds:=ds) (env0:=env0) l k Z Z'
 |[],k,Z,Z',h=>by
  simp only[drun,zI] at h;subst h
  exact⟨fun x hx=>.inl hx,fun x hx=>.inl hx,fun x hx=>.inl hx,fun _ h=>h,fun _ h=>h,fun _ h=>h⟩
 |(g,i)::r,k,Z,Z',h=>by
  have hG:=drun_grow h
  simp only[drun] at h
  split at h
  ·rename_i Z1 h1
   have ih:=drun_once hlt h
   obtain⟨⟨v,e1⟩,e2,e3⟩:=dstep_shape h1
   have hidx:∀(x:Nat) (g':Option (Nat×Bool)) (i':IOp),Nat.succ k≤x→r[x-Nat.succ k]? = some (g',i')→k≤x∧((g,i)::r)[x-k]? = some (g',i'):=by
    intro x g' i' hx hr
    refine⟨by omega,?_⟩
    rw[show x-k=(x-Nat.succ k)+1 by omega]
    simpa using hr
   refine⟨?_,?_,?_,?_,?_,?_⟩
   ·intro x hx
    rcases ih.vals x hx with h|⟨g',i',h2,h3,h4⟩
    ·rw[e1] at h
     rcases List.mem_cons.1 h with h|h
     ·subst h;exact .inr ⟨g,i,Nat.le_refl _,by simp,rfl⟩
     ·exact .inl h
    ·obtain⟨q1,q2⟩:=hidx _ _ _ h2 h3
     exact .inr ⟨g',i',q1,q2,h4⟩
   ·intro x hx
    rcases ih.fls x hx with h|⟨g',i',h2,h3,h4⟩
    ·rcases e2 with e2|⟨hk,hw,b,cs,e2⟩
     ·rw[e2] at h;exact .inl h
     ·rw[e2] at h
      rcases List.mem_cons.1 h with h|h
      ·subst h
       exact .inr ⟨g,i,Nat.le_refl _,by simp,hk,⟨cs,rfl⟩,by rw[env_grow hlt hG];exact hw⟩
      ·exact .inl h
    ·obtain⟨q1,q2⟩:=hidx _ _ _ h2 h3
     exact .inr ⟨g',i',q1,q2,h4⟩
   ·intro x hx
    rcases ih.chain x hx with h|⟨g',i',h2,h3,h4⟩
    ·rcases e3 with e3|⟨hk,hw,e3⟩
     ·rw[e3] at h;exact .inl h
     ·rw[e3] at h
      rcases List.mem_cons.1 h with h|h
      ·subst h
       exact .inr ⟨g,i,Nat.le_refl _,by simp,hk,by rw[env_grow hlt hG];exact hw⟩
      ·exact .inl h
    ·obtain⟨q1,q2⟩:=hidx _ _ _ h2 h3
     exact .inr ⟨g',i',q1,q2,h4⟩
   ·intro hl hu
    refine ih.valsU ?_ ?_
    ·intro x hx;rw[e1] at hx
     rcases List.mem_cons.1 hx with h|h
     ·subst h;exact Nat.lt_succ_self k
     ·have:=hl x h;omega
    ·intro x hx y hy hxy
     rw[e1] at hx hy
     rcases List.mem_cons.1 hx with h|h<;>rcases List.mem_cons.1 hy with h'|h'
     ·rw[h,h']
     ·have:=hl y h';rw[h] at hxy;simp only at hxy;omega
     ·have:=hl x h;rw[h'] at hxy;simp only at hxy;omega
     ·exact hu x h y h' hxy
   ·intro hl hu
    refine ih.flsU ?_ ?_
    ·intro x hx
     rcases e2 with e2|⟨_,_,b,cs,e2⟩<;>rw[e2] at hx
     ·have:=hl x hx;omega
     ·rcases List.mem_cons.1 hx with h|h
      ·subst h;exact Nat.lt_succ_self k
      ·have:=hl x h;omega
    ·intro x hx y hy hxy
     rcases e2 with e2|⟨_,_,b,cs,e2⟩<;>rw[e2] at hx hy
     ·exact hu x hx y hy hxy
     ·rcases List.mem_cons.1 hx with h|h<;>rcases List.mem_cons.1 hy with h'|h'
      ·rw[h,h']
      ·have:=hl y h';rw[h] at hxy;simp only at hxy;omega
      ·have:=hl x h;rw[h'] at hxy;simp only at hxy;omega
      ·exact hu x h y h' hxy
   ·intro hl hu
    refine ih.flsN ?_ ?_
    ·intro x hx
     rcases e2 with e2|⟨_,_,b,cs,e2⟩<;>rw[e2] at hx
     ·have:=hl x hx;omega
     ·rcases List.mem_cons.1 hx with h|h
      ·subst h;exact Nat.lt_succ_self k
      ·have:=hl x h;omega
    ·rcases e2 with e2|⟨_,_,b,cs,e2⟩<;>rw[e2]
     ·exact hu
     ·simp only[List.map_cons,List.nodup_cons]
      refine⟨fun hm=>?_,hu⟩
      obtain⟨x,hx,hxk⟩:=List.mem_map.1 hm
      have:=hl x hx;omega
  ·cases h
end
end Go.AI
