/- The evaluator upon a region whose order is drawn: each operation that may come up keeps what holds. No program is named here. -/
import Derived.Test.YthoiknijhfnadaaGreatDoorAiDrawn3
namespace Go.AI
variable {E:Ext}{P:Program}{W0:World}
section
variable {call:CallFn E.X}{bf:List (List Nat)}{ops:Array Oper}{il:List (Option (Nat×Bool)×IOp)}{env0:List (Nat×Value)}{m0:Mem E.X}{ρ0:Ren}{φ0:Foot}{a0:Act}{w0:World}{N:Nat}{Z:DS E.X}{esc:Nat→Bool}
theorem il_get{all:List Oper}:∀{l:List Oper} {il:List (Option (Nat×Bool)×IOp)} {k:Nat} {o:Oper},mkOps P esc N all l=some il→l[k]? = some o→∃g i,il[k]? = some (g,i)∧mkGuard all o.guard=some g∧mkOp P esc N o=some i
 |[],il,k,o,h,hk=>by simp at hk
 |x::l,il,k,o,h,hk=>by
  simp only[mkOps] at h
  split at h
  ·rename_i g i s h1 h2 h3
   injection h with h;subst h
   cases k with
   |zero=>simp only[List.getElem?_cons_zero,zI] at hk;subst hk;exact⟨g,i,rfl,h1,h2⟩
   |succ k=>simpa using il_get h3 (by simpa using hk)
  ·cases h
theorem il_len{all:List Oper}:∀{l:List Oper} {il:List (Option (Nat×Bool)×IOp)},mkOps P esc N all l=some il→il.length=l.length
 |[],il,h=>by simp only[mkOps,zI] at h;subst h;rfl
 |x::l,il,h=>by
  simp only[mkOps] at h
  split at h
  ·rename_i g i s h1 h2 h3
   injection h with h;subst h
   simp[il_len h3]
  ·cases h
theorem numbered_mem:∀{l:List (Option (Nat×Bool)×IOp)} {b j:Nat} {g:Option (Nat×Bool)} {i:IOp},l[j]? = some (g,i)→(b+j,i.dst)∈numbered b l
 |[],b,j,g,i,h=>by simp at h
 |(g0,i0)::r,b,0,g,i,h=>by
  simp only[List.getElem?_cons_zero,zI,Prod.mk.injEq] at h
  obtain⟨rfl,rfl⟩:=h
  exact List.mem_cons_self ..
 |(g0,i0)::r,b,j+1,g,i,h=>by
  refine List.mem_cons_of_mem _ ?_
  rw[show b+(j+1)=Nat.succ b+j by omega]
  exact numbered_mem (by simpa using h)
theorem once_slots:∀{l:List (Option (Nat×Bool)×IOp)} {j k d:Nat} {g g':Option (Nat×Bool)} {i i':IOp},slotsOnce l=true→l[j]? = some (g,i)→l[k]? = some (g',i')→i.dst=some d→i'.dst=some d→j=k
 |[],j,k,d,g,g',i,i',_,h,_,_,_=>by simp at h
 |(g0,i0)::r,j,k,d,g,g',i,i',hs,hj,hk,hd,hd'=>by
  simp only[slotsOnce,Bool.and_eq_true] at hs
  have head:∀(k:Nat) (g':Option (Nat×Bool)) (i':IOp),i0.dst=some d→r[k]? = some (g',i')→i'.dst=some d→False:=by
   intro k g' i' h0 hk hd'
   have h1:=hs.1
   rw[h0] at h1
   simp only[List.all_eq_true] at h1
   have:=h1 (g',i') (List.mem_of_getElem? hk)
   simp only[hd'] at this
   simp at this
  cases j with
  |zero =>
   simp only[List.getElem?_cons_zero,zI,Prod.mk.injEq] at hj
   obtain⟨rfl,rfl⟩:=hj
   cases k with
   |zero=>rfl
   |succ k=>exact(head k g' i' hd (by simpa using hk) hd').elim
  |succ j =>
   cases k with
   |zero =>
    simp only[List.getElem?_cons_zero,zI,Prod.mk.injEq] at hk
    obtain⟨rfl,rfl⟩:=hk
    exact(head j g i hd' (by simpa using hj) hd).elim
   |succ k=>exact congrArg Nat.succ (once_slots hs.2 (by simpa using hj) (by simpa using hk) hd hd')
structure Ctx(E:Ext)(P:Program)(W0:World)(esc:Nat→Bool)(call:CallFn E.X)(bf:List (List Nat))(ops:Array Oper)(il:List (Option (Nat×Bool)×IOp))(env0:List (Nat×Value))(m0:Mem E.X)(ρ0:Ren)(φ0:Foot)(a0:Act)(w0:World)(N:Nat)(Z:DS E.X):Prop where
 made:mkOps P esc N ops.toList ops.toList=some il
 order:Order ops bf
 once:slotsOnce il=true
 facts:∀k g i,il[k]? = some (g,i)→Fact call bf m0.next (numbered 0 il) env0 Z k g i
 on:Once (bf:=bf) (ds:=numbered 0 il) (env0:=env0) il 0 ⟨[],[⟨m0.loc,m0.tbl,m0.next+il.length⟩],[],[],[]⟩ Z
 held:heldAll bf Z Z.lds=true
 calls:CallsOk E P W0 call
 er0:ER ρ0 env0 a0
theorem Ctx.vals(c:Ctx E P W0 esc call bf ops il env0 m0 ρ0 φ0 a0 w0 N Z){k:Nat}{d:Option Nat}{v:Value}(h:(k,d,v)∈Z.vals):∃g i,il[k]? = some (g,i)∧d=i.dst:=by
 rcases c.on.vals _ h with h|⟨g,i,_,h2,h3⟩
 ·simp at h
 ·exact⟨g,i,by simpa using h2,h3⟩
theorem Ctx.fls(c:Ctx E P W0 esc call bf ops il env0 m0 ρ0 φ0 a0 w0 N Z){f:Nat×Bool×AObj E.X}(h:f∈Z.fls):∃g i,il[f.1]? = some (g,i)∧kindOf i = .alloc∧(∃cs,f.2.2 = .cells cs)∧wanted (envAt bf (numbered 0 il) env0 Z.vals f.1) g=some true:=by
 rcases c.on.fls _ h with h|⟨g,i,_,h2,h3⟩
 ·simp at h
 ·exact⟨g,i,by simpa using h2,h3⟩
theorem Ctx.chain(c:Ctx E P W0 esc call bf ops il env0 m0 ρ0 φ0 a0 w0 N Z){k:Nat}(h:k∈Z.chain):∃g i,il[k]? = some (g,i)∧kindOf i = .chain∧wanted (envAt bf (numbered 0 il) env0 Z.vals k) g=some true:=by
 rcases c.on.chain _ h with h|⟨g,i,_,h2,h3⟩
 ·simp at h
 ·exact⟨g,i,by simpa using h2,h3⟩
theorem Ctx.valsU(c:Ctx E P W0 esc call bf ops il env0 m0 ρ0 φ0 a0 w0 N Z):∀x∈Z.vals,∀y∈Z.vals,x.1=y.1→x=y:=c.on.valsU (by simp) (by simp)
theorem Ctx.flsU(c:Ctx E P W0 esc call bf ops il env0 m0 ρ0 φ0 a0 w0 N Z):∀x∈Z.fls,∀y∈Z.fls,x.1=y.1→x=y:=c.on.flsU (by simp) (by simp)
theorem Ctx.flsN(c:Ctx E P W0 esc call bf ops il env0 m0 ρ0 φ0 a0 w0 N Z):(Z.fls.map (·.1)).Nodup:=c.on.flsN (by simp) (by simp)
theorem Ctx.flt(c:Ctx E P W0 esc call bf ops il env0 m0 ρ0 φ0 a0 w0 N Z){f:Nat×Bool×AObj E.X}(h:f∈Z.fls):f.1<ops.size:=by
 obtain⟨g,i,h1,_⟩:=c.fls h
 have h2:=il_len c.made
 rcases Nat.lt_or_ge f.1 il.length with h'|h'
 ·rw[h2,Array.length_toList] at h';exact h'
 ·rw[List.getElem?_eq_none h'] at h1;cases h1
variable {listed:Array Bool}{a:Act}{w:World}{ρ:Ren}{φ:Foot}{B:Nat→Nat}{nc cs:List Nat}{ns ms:List (Mem E.X)}{m:Mem E.X}
theorem Ctx.er(c:Ctx E P W0 esc call bf ops il env0 m0 ρ0 φ0 a0 w0 N Z)(I:Inv W0 bf ops N m0 ρ0 φ0 a0 w0 Z listed a w ρ φ B nc cs ns m ms){k:Nat}(hk:¬isIn listed k)(hr:∀i,ordB bf i k=true→isIn listed i) :
  ER ρ (envAt bf (numbered 0 il) env0 Z.vals k) a:=by
 intro s v h
 unfold envAt at h
 rw[look_append] at h
 cases hq:look s (slotsOf (Z.vals.filter fun x=>ordB bf x.1 k)) with
 |some v' =>
  rw[hq] at h
  simp only[Option.some_or,zI] at h;subst h
  obtain⟨k',hm⟩:=mem_slots.1 (look_mem hq)
  obtain⟨h1,h2⟩:=List.mem_filter.1 hm
  exact I.slots k' s v' h1 (hr k' h2)
 |none =>
  rw[hq,Option.none_or] at h
  obtain⟨h1,h2⟩:=look_filter (f:=fun s=>!memB s (loose bf k (numbered 0 il))) h
  have hs:a.tmps.getD s undef=a0.tmps.getD s undef:=by
   refine I.rest s fun k' v' hv hin=>?_
   cases ho:ordB bf k' k with
   |true=>exact look_none hq v' (mem_slots.2 ⟨k',List.mem_filter.2 ⟨hv,ho⟩⟩)
   |false =>
    have hne:k'≠k:=fun e=>hk (e▸hin)
    have ho2:ordB bf k k'=false:=by
     rw[← Bool.not_eq_true];intro h;exact hk (I.closed k' k hin h)
    obtain⟨g,i,hg,hd⟩:=c.vals hv
    have hmem:(k',some s)∈numbered 0 il:=by
     have:=numbered_mem (b:=0) hg
     rw[Nat.zero_add,← hd] at this;exact this
    have:=loose_mem hmem hne ho ho2
    rw[← memB_iff] at this
    rw[this] at h2;cases h2
  rw[hs]
  exact(c.er0 s v h1).mono I.post.le
theorem Ctx.quiet(c:Ctx E P W0 esc call bf ops il env0 m0 ρ0 φ0 a0 w0 N Z)(I:Inv W0 bf ops N m0 ρ0 φ0 a0 w0 Z listed a w ρ φ B nc cs ns m ms){k:Nat}{d:Option Nat}{v v':Value}(hlt:k<ops.size)(hk:¬isIn listed k)(hr:∀i,ordB bf i k=true→isIn listed i)
  (hv:(k,d,v)∈Z.vals) (hd:∀x,d=some x→x<N) (hvr:VR ρ v v') (hc:k∉Z.chain) (hf:∀f∈Z.fls,f.1≠k) :
  Inv W0 bf ops N m0 ρ0 φ0 a0 w0 Z (listed.setIfInBounds k true) (a.put d v') w ρ φ B nc cs ns m ms:=by
 have hls:k<listed.size:=by rw[I.lsz];exact hlt
 have hin:=fun j=>isIn_set (k:=j) hls
 refine⟨by simp[I.lsz],?_,I.chain,I.snaps,I.len,I.len2,?_,?_,I.post,I.sep,I.next,?_,?_,by rw[size_put];exact I.sz,by rw[defers_put];exact I.df,?_,?_,?_⟩
 ·intro j i hj ho
  rw[hin] at hj ⊢
  rcases hj with rfl|hj
  ·exact .inr (hr i ho)
  ·exact .inr (I.closed j i hj ho)
 ·intro x hx
  rw[hin]
  rintro(rfl|h)
  ·exact hc (by rw[I.chain];exact List.mem_append_left _ hx)
  ·exact I.ncs x hx h
 ·intro x hx;rw[hin];exact .inr (I.css x hx)
 ·intro j e u hj hjin
  rw[hin] at hjin
  by_cases ejk:j=k
  ·subst ejk
   have:=c.valsU _ hj _ hv rfl
   simp only[Prod.mk.injEq,true_and] at this
   obtain⟨h1,h2⟩:=this
   subst h2
   rw[← h1]
   have hlt2:e<a.tmps.size:=by rw[I.sz];exact hd e h1.symm
   simp only[Act.put,Array.getD_eq_getD_getElem?,Array.getElem?_setIfInBounds_self_of_lt hlt2,Option.getD_some]
   exact hvr
  ·rcases hjin with h|hjin
   ·exact(ejk h).elim
   ·have hne:d≠some e:=by
     intro hde
     obtain⟨g,i,hg,hgd⟩:=c.vals hj
     obtain⟨g',i',hg',hgd'⟩:=c.vals hv
     exact ejk (once_slots c.once hg hg' hgd.symm (hgd'.symm.trans hde))
    have:=I.slots j e u hj hjin
    cases d with
    |none=>exact this
    |some d =>
     have hde:d≠e:=fun h=>hne (by rw[h])
     simp only[Act.put,Array.getD_eq_getD_getElem?,Array.getElem?_setIfInBounds,hde,if_false] at this ⊢
     exact this
 ·intro s hs
  have h1:d≠some s:=by
   intro e;subst e
   exact hs k v hv ((hin k).2 (.inl rfl))
  have h2:=I.rest s fun j u hj hjin=>hs j u hj ((hin j).2 (.inr hjin))
  cases d with
  |none=>exact h2
  |some d =>
   have hds:d≠s:=fun h=>h1 (by rw[h])
   simp only[Act.put,Array.getD_eq_getD_getElem?,Array.getElem?_setIfInBounds,hds,if_false] at h2 ⊢
   exact h2
 ·intro f hfm hfin hno
  rw[hin] at hfin
  rcases hfin with h|h
  ·exact(hf f hfm h).elim
  ·exact I.loose f hfm h hno
 ·intro f hfm g hgm hfin hgin
  rw[hin] at hfin hgin
  rcases hfin with h|hfin
  ·exact(hf f hfm h).elim
  ·rcases hgin with h|hgin
   ·exact(hf g hgm h).elim
   ·exact I.inj f hfm g hgm hfin hgin
 ·intro f hfm hfin
  rw[hin] at hfin
  exact I.yet f hfm fun h=>hfin (.inr h)
theorem count_split{f:Nat→Bool}:∀(x y:List Nat),countB f (x++y)=countB f x+countB f y
 |[],y=>by simp[countB]
 |a::x,y=>by
  simp only[List.cons_append,countB,count_split x y]
  cases f a<;>simp only[cond_true,cond_false]<;>omega
theorem count_le{f:Nat→Bool}:∀(x:List Nat),countB f x≤x.length
 |[]=>Nat.le_refl _
 |a::x=>by
  have:=count_le (f:=f) x
  simp only[countB,List.length_cons]
  cases f a<;>simp only[cond_true,cond_false]<;>omega
theorem count_none{f:Nat→Bool}:∀(x:List Nat),(∀a∈x,f a=false)→countB f x=0
 |[],_=>rfl
 |a::x,h=>by
  simp only[countB,h a (List.mem_cons_self ..),cond_false]
  exact count_none x fun b hb=>h b (List.mem_cons_of_mem _ hb)
theorem count_all{f:Nat→Bool}:∀(x:List Nat),(∀a∈x,f a=true)→countB f x=x.length
 |[],_=>rfl
 |a::x,h=>by
  simp only[countB,h a (List.mem_cons_self ..),cond_true,List.length_cons]
  rw[count_all x fun b hb=>h b (List.mem_cons_of_mem _ hb)]
theorem heldAll_get{k:Nat}{q:Rq}{r:List Value}:∀{l:List (Nat×Rq×List Value)},heldAll bf Z l=true→(k,q,r)∈l→loadsIn q r (countB (fun c=>ordB bf c k) Z.chain) (countB (fun c=>!ordB bf k c) Z.chain) Z.snaps=true
 |[],_,h=>by simp at h
 |(k',q',r')::t,h,hm=>by
  simp only[heldAll,Bool.and_eq_true] at h
  rcases List.mem_cons.1 hm with e|hm
  ·simp only[Prod.mk.injEq] at e
   obtain⟨rfl,rfl,rfl⟩:=e
   exact h.1
  ·exact heldAll_get h.2 hm
theorem Ctx.load(c:Ctx E P W0 esc call bf ops il env0 m0 ρ0 φ0 a0 w0 N Z)(I:Inv W0 bf ops N m0 ρ0 φ0 a0 w0 Z listed a w ρ φ B nc cs ns m ms){k:Nat}(hk:¬isIn listed k)(hr:∀i,ordB bf i k=true→isIn listed i){q:Rq}{r:List Value}(h:(k,q,r)∈Z.lds):q.rd m=some r:=by
 have h1:=heldAll_get c.held h
 have hlen:=I.len2
 refine loadsIn_get h1 (j:=ms.length) ?_ ?_ ?_
 ·rw[I.chain,count_split,count_none nc fun x hx=>by
   rw[← Bool.not_eq_true];intro ho;exact I.ncs x hx (hr x ho)]
  have:=count_le (f:=fun c=>ordB bf c k) cs
  omega
 ·rw[I.chain,count_split,count_all cs fun x hx=>by
   cases ho:ordB bf k x with
   |false=>rfl
   |true=>exact(hk (I.closed x k (I.css x hx) ho)).elim]
  omega
 ·rw[I.snaps,List.reverse_append,List.reverse_cons]
  simp
end
end Go.AI
