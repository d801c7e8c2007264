/- The evaluator upon a region whose order is drawn: each operation that may come up keeps what holds. No program is named here. -/
import Derived.Test.YtohdfkipbgnkoaaGreatDoorAiDrawn3
namespace Go.AI
variable {E:Ext}{P:Program}{W0:World}
section
variable {call:aP E.X}{bf:List (List Nat)}{ops:Array Oper}{il:List (Option (Nat×Bool)×IOp)}{env0:LV}{m0:Mem E.X}{ρ0:Ren}{φ0:br}{a0:Act}{w0:World}{N:Nat}{Z:DS E.X}{esc:Nat→Bool}
theorem E6{all:List Oper}:∀{l:List Oper} {il:List (Option (Nat×Bool)×IOp)} {k:Nat} {o:Oper},cG P esc N all l=some il→l[k]? = some o→∃g i,il[k]? = some (g,i)∧nJ all o.guard=some g∧pr P esc N o=some i
 |[],il,k,o,h,hk=>by simp at hk
 |x::l,il,k,o,h,hk=>by
  simp only[cG] at h;split at h
  ·rename_i g i s h1 h2 h3;injection h with h;subst h;cases k with
   |zero=>simp only[ZH,zI] at hk;subst hk;exact⟨g,i,rfl,h1,h2⟩
   |succ k=>simpa using E6 h3 (by simpa using hk)
  ·cases h
theorem tV{all:List Oper}:∀{l:List Oper} {il:List (Option (Nat×Bool)×IOp)},cG P esc N all l=some il→il.length=l.length
 |[],il,h=>by simp only[cG,zI] at h;subst h;rfl
 |x::l,il,h=>by
  simp only[cG] at h;split at h
  ·rename_i g i s h1 h2 h3;injection h with h;subst h;simp[tV h3]
  ·cases h
theorem nA:∀{l:List (Option (Nat×Bool)×IOp)} {b j:Nat} {g:Option (Nat×Bool)} {i:IOp},l[j]? = some (g,i)→(b+j,i.dst)∈aH b l
 |[],b,j,g,i,h=>by simp at h
 |(g0,i0)::r,b,0,g,i,h=>by
  simp only[ZH,zI,Zf] at h;obtain⟨rfl,rfl⟩:=h;exact Zr ..
 |(g0,i0)::r,b,j+1,g,i,h=>by
  refine Zu _ ?_;rw[show b+(j+1)=Nat.succ b+j by omega];exact nA (by simpa using h)
theorem jv:∀{l:List (Option (Nat×Bool)×IOp)} {j k d:Nat} {g g':Option (Nat×Bool)} {i i':IOp},fL l=true→l[j]? = some (g,i)→l[k]? = some (g',i')→i.dst=some d→i'.dst=some d→j=k
 |[],j,k,d,g,g',i,i',_,h,_,_,_=>by simp at h
 |(g0,i0)::r,j,k,d,g,g',i,i',hs,hj,hk,hd,hd'=>by
  simp only[fL,Zi] at hs;have head:∀(k:Nat) (g':Option (Nat×Bool)) (i':IOp),i0.dst=some d→r[k]? = some (g',i')→i'.dst=some d→False:=by
   intro k g' i' h0 hk hd';have h1:=hs.1;rw[h0] at h1;simp only[List.all_eq_true] at h1;have:=h1 (g',i') (ZJ hk);simp only[hd'] at this;simp at this
  cases j with
  |zero =>
   simp only[ZH,zI,Zf] at hj;obtain⟨rfl,rfl⟩:=hj;cases k with
   |zero=>rfl
   |succ k=>exact(head k g' i' hd (by simpa using hk) hd').elim
  |succ j =>
   cases k with
   |zero =>
    simp only[ZH,zI,Zf] at hk;obtain⟨rfl,rfl⟩:=hk;exact(head j g i hd' (by simpa using hj) hd).elim
   |succ k=>exact congrArg Nat.succ (jv hs.2 (by simpa using hj) (by simpa using hk) hd hd')
structure Ctx(E:Ext)(P:Program)(W0:World)(esc:Nat→Bool)(call:aP E.X)(bf:List (List Nat))(ops:Array Oper)(il:List (Option (Nat×Bool)×IOp))(env0:LV)(m0:Mem E.X)(ρ0:Ren)(φ0:br)(a0:Act)(w0:World)(N:Nat)(Z:DS E.X):Prop where
 made:cG P esc N ops.toList ops.toList=some il
 order:Order ops bf
 once:fL il=true
 facts:∀k g i,il[k]? = some (g,i)→Ib call bf m0.next (aH 0 il) env0 Z k g i
 on:Once (bf:=bf) (ds:=aH 0 il) (env0:=env0) il 0 ⟨[],[⟨m0.loc,m0.tbl,m0.next+il.length⟩],[],[],[]⟩ Z
 held:bi bf Z Z.lds=true
 calls:bR E P W0 call
 er0:ER ρ0 env0 a0
theorem Ctx.vals(c:Ctx E P W0 esc call bf ops il env0 m0 ρ0 φ0 a0 w0 N Z){k:Nat}{d:Option Nat}{v:Value}(h:(k,d,v)∈Z.vals):∃g i,il[k]? = some (g,i)∧d=i.dst:=by
 rcases c.on.vals _ h with h|⟨g,i,_,h2,h3⟩
 ·simp at h
 ·exact⟨g,i,by simpa using h2,h3⟩
theorem Ctx.fls(c:Ctx E P W0 esc call bf ops il env0 m0 ρ0 φ0 a0 w0 N Z){f:Nat×Bool×AObj E.X}(h:f∈Z.fls):∃g i,il[f.1]? = some (g,i)∧ce i = .alloc∧(∃cs,f.2.2 = .cells cs)∧wanted (bq bf (aH 0 il) env0 Z.vals f.1) g=some true:=by
 rcases c.on.fls _ h with h|⟨g,i,_,h2,h3⟩
 ·simp at h
 ·exact⟨g,i,by simpa using h2,h3⟩
theorem Ctx.chain(c:Ctx E P W0 esc call bf ops il env0 m0 ρ0 φ0 a0 w0 N Z){k:Nat}(h:k∈Z.chain):∃g i,il[k]? = some (g,i)∧ce i = .chain∧wanted (bq bf (aH 0 il) env0 Z.vals k) g=some true:=by
 rcases c.on.chain _ h with h|⟨g,i,_,h2,h3⟩
 ·simp at h
 ·exact⟨g,i,by simpa using h2,h3⟩
theorem Ctx.valsU(c:Ctx E P W0 esc call bf ops il env0 m0 ρ0 φ0 a0 w0 N Z):∀x∈Z.vals,∀y∈Z.vals,x.1=y.1→x=y:=c.on.valsU (by simp) (by simp)
theorem Ctx.flsU(c:Ctx E P W0 esc call bf ops il env0 m0 ρ0 φ0 a0 w0 N Z):∀x∈Z.fls,∀y∈Z.fls,x.1=y.1→x=y:=c.on.flsU (by simp) (by simp)
theorem Ctx.flsN(c:Ctx E P W0 esc call bf ops il env0 m0 ρ0 φ0 a0 w0 N Z):(Z.fls.map (·.1)).Nodup:=c.on.flsN (by simp) (by simp)
theorem Ctx.flt(c:Ctx E P W0 esc call bf ops il env0 m0 ρ0 φ0 a0 w0 N Z){f:Nat×Bool×AObj E.X}(h:f∈Z.fls):f.1<ops.size:=by
 obtain⟨g,i,h1,_⟩:=c.fls h;have h2:=tV c.made;rcases ZA f.1 il.length with h'|h'
 ·rw[h2,Array.length_toList] at h';exact h'
 ·rw[ZD h'] at h1;cases h1
variable {listed:Array Bool}{a:Act}{w:World}{ρ:Ren}{φ:br}{B:Nat→Nat}{nc cs:List Nat}{ns ms:List (Mem E.X)}{m:Mem E.X}
theorem Ctx.er(c:Ctx E P W0 esc call bf ops il env0 m0 ρ0 φ0 a0 w0 N Z)(I:Inv W0 bf ops N m0 ρ0 φ0 a0 w0 Z listed a w ρ φ B nc cs ns m ms){k:Nat}(hk:¬dB listed k)(hr:∀i,bC bf i k=true→dB listed i) :
  ER ρ (bq bf (aH 0 il) env0 Z.vals k) a:=by
 intro s v h;unfold bq at h;rw[kH] at h;cases hq:aa s (dh (Z.vals.filter fun x=>bC bf x.1 k)) with
 |some v' =>
  rw[hq] at h;simp only[Option.some_or,zI] at h;subst h;obtain⟨k',hm⟩:=mem_slots.1 (pS hq);obtain⟨h1,h2⟩:=List.mem_filter.1 hm;exact I.slots k' s v' h1 (hr k' h2)
 |none =>
  rw[hq,Option.none_or] at h;obtain⟨h1,h2⟩:=hY (f:=fun s=>!gU s (loose bf k (aH 0 il))) h;have hs:a.tmps.getD s undef=a0.tmps.getD s undef:=by
   refine I.rest s fun k' v' hv hin=>?_
   cases ho:bC bf k' k with
   |true=>exact nO hq v' (mem_slots.2 ⟨k',List.mem_filter.2 ⟨hv,ho⟩⟩)
   |false =>
    have hne:k'≠k:=fun e=>hk (e▸hin)
    have ho2:bC bf k k'=false:=by
     rw[← Zl];intro h;exact hk (I.closed k' k hin h)
    obtain⟨g,i,hg,hd⟩:=c.vals hv;have hmem:(k',some s)∈aH 0 il:=by
     have:=nA (b:=0) hg;rw[ZB,← hd] at this;exact this
    have:=k8 hmem hne ho ho2;rw[← pM] at this;rw[this] at h2;cases h2
  rw[hs];exact(c.er0 s v h1).mono I.post.le
theorem Ctx.quiet(c:Ctx E P W0 esc call bf ops il env0 m0 ρ0 φ0 a0 w0 N Z)(I:Inv W0 bf ops N m0 ρ0 φ0 a0 w0 Z listed a w ρ φ B nc cs ns m ms){k:Nat}{d:Option Nat}{v v':Value}(hlt:k<ops.size)(hk:¬dB listed k)(hr:∀i,bC bf i k=true→dB listed i)
  (hv:(k,d,v)∈Z.vals) (hd:∀x,d=some x→x<N) (hvr:VR ρ v v') (hc:k∉Z.chain) (hf:∀f∈Z.fls,f.1≠k) :
  Inv W0 bf ops N m0 ρ0 φ0 a0 w0 Z (listed.setIfInBounds k true) (a.put d v') w ρ φ B nc cs ns m ms:=by
 have hls:k<listed.size:=by rw[I.lsz];exact hlt
 have hin:=fun j=>mE (k:=j) hls
 refine⟨by simp[I.lsz],?_,I.chain,I.snaps,I.len,I.len2,?_,?_,I.post,I.sep,I.next,?_,?_,by rw[my];exact I.sz,by rw[jn];exact I.df,?_,?_,?_⟩
 ·intro j i hj ho;rw[hin] at hj ⊢;rcases hj with rfl|hj
  ·exact .inr (hr i ho)
  ·exact .inr (I.closed j i hj ho)
 ·intro x hx;rw[hin];rintro(rfl|h)
  ·exact hc (by rw[I.chain];exact List.mem_append_left _ hx)
  ·exact I.ncs x hx h
 ·intro x hx;rw[hin];exact .inr (I.css x hx)
 ·intro j e u hj hjin;rw[hin] at hjin;by_cases ejk:j=k
  ·subst ejk;have:=c.valsU _ hj _ hv rfl;simp only[Zf,true_and] at this;obtain⟨h1,h2⟩:=this;subst h2;rw[← h1];have hlt2:e<a.tmps.size:=by rw[I.sz];exact hd e h1.symm
   simp only[Act.put,Zp,Array.getElem?_setIfInBounds_self_of_lt hlt2,Option.getD_some];exact hvr
  ·rcases hjin with h|hjin
   ·exact(ejk h).elim
   ·have hne:d≠some e:=by
     intro hde;obtain⟨g,i,hg,hgd⟩:=c.vals hj;obtain⟨g',i',hg',hgd'⟩:=c.vals hv;exact ejk (jv c.once hg hg' hgd.symm (hgd'.symm.trans hde))
    have:=I.slots j e u hj hjin;cases d with
    |none=>exact this
    |some d =>
     have hde:d≠e:=fun h=>hne (by rw[h])
     simp only[Act.put,Zp,Zz,hde,if_false] at this ⊢;exact this
 ·intro s hs;have h1:d≠some s:=by
   intro e;subst e;exact hs k v hv ((hin k).2 (.inl rfl))
  have h2:=I.rest s fun j u hj hjin=>hs j u hj ((hin j).2 (.inr hjin))
  cases d with
  |none=>exact h2
  |some d =>
   have hds:d≠s:=fun h=>h1 (by rw[h])
   simp only[Act.put,Zp,Zz,hds,if_false] at h2 ⊢;exact h2
 ·intro f hfm hfin hno;rw[hin] at hfin;rcases hfin with h|h
  ·exact(hf f hfm h).elim
  ·exact I.loose f hfm h hno
 ·intro f hfm g hgm hfin hgin;rw[hin] at hfin hgin;rcases hfin with h|hfin
  ·exact(hf f hfm h).elim
  ·rcases hgin with h|hgin
   ·exact(hf g hgm h).elim
   ·exact I.inj f hfm g hgm hfin hgin
 ·intro f hfm hfin;rw[hin] at hfin;exact I.yet f hfm fun h=>hfin (.inr h)
theorem jM{f:Nat→Bool}:∀(x y:List Nat),dG f (x++y)=dG f x+dG f y
 |[],y=>by simp[dG]
 |a::x,y=>by
  simp only[List.cons_append,dG,jM x y];cases f a<;>simp only[cond_true,cond_false]<;>omega
theorem vC{f:Nat→Bool}:∀(x:List Nat),dG f x≤x.length
 |[]=>Ze _
 |a::x=>by
  have:=vC (f:=f) x;simp only[dG,Zy];cases f a<;>simp only[cond_true,cond_false]<;>omega
theorem qr{f:Nat→Bool}:∀(x:List Nat),(∀a∈x,f a=false)→dG f x=0
 |[],_=>rfl
 |a::x,h=>by
  simp only[dG,h a (Zr ..),cond_false];exact qr x fun b hb=>h b (Zu _ hb)
theorem sY{f:Nat→Bool}:∀(x:List Nat),(∀a∈x,f a=true)→dG f x=x.length
 |[],_=>rfl
 |a::x,h=>by
  simp only[dG,h a (Zr ..),cond_true,Zy];rw[sY x fun b hb=>h b (Zu _ hb)]
theorem oG{k:Nat}{q:Rq}{r:List Value}:∀{l:List (Nat×Rq×List Value)},bi bf Z l=true→(k,q,r)∈l→bn q r (dG (fun c=>bC bf c k) Z.chain) (dG (fun c=>!bC bf k c) Z.chain) Z.snaps=true
 |[],_,h=>by simp at h
 |(k',q',r')::t,h,hm=>by
  simp only[bi,Zi] at h;rcases List.mem_cons.1 hm with e|hm
  ·simp only[Zf] at e;obtain⟨rfl,rfl,rfl⟩:=e;exact h.1
  ·exact oG h.2 hm
theorem Ctx.load(c:Ctx E P W0 esc call bf ops il env0 m0 ρ0 φ0 a0 w0 N Z)(I:Inv W0 bf ops N m0 ρ0 φ0 a0 w0 Z listed a w ρ φ B nc cs ns m ms){k:Nat}(hk:¬dB listed k)(hr:∀i,bC bf i k=true→dB listed i){q:Rq}{r:List Value}(h:(k,q,r)∈Z.lds):q.rd m=some r:=by
 have h1:=oG c.held h;have hlen:=I.len2;refine oR h1 (j:=ms.length) ?_ ?_ ?_
 ·rw[I.chain,jM,qr nc fun x hx=>by
   rw[← Zl];intro ho;exact I.ncs x hx (hr x ho)]
  have:=vC (f:=fun c=>bC bf c k) cs;omega
 ·rw[I.chain,jM,sY cs fun x hx=>by
   cases ho:bC bf k x with
   |false=>rfl
   |true=>exact(hk (I.closed x k (I.css x hx) ho)).elim]
  omega
 ·rw[I.snaps,List.reverse_append,List.reverse_cons];simp
end
end Go.AI
