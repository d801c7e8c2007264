/- The evaluator upon a region whose order is drawn: the theorem. No program is named here. -/
import Derived.Test.YthoiknijhfnadaaGreatDoorAiDrawn4
namespace Go.AI
variable {E:Ext}{P:Program}{W0:World}
theorem Post.extra{ρ0 ρ:Ren}{φ0 φ:Foot}{V0 V:View E}{n0 n:Nat}{w0 w w':World}(p:Post W0 ρ0 φ0 V0 n0 w0 ρ φ V n w){i:Nat}{x:Nat×Nat}{c:Obj}(hi:ρ i=none)(hn0:n0≤i)(hin:i<n)
  (hw:w'.heap=w.heap.push c) (ho:w'.os=w.os) (hp:w'.output=w.output):Post W0 ρ0 φ0 V0 n0 w0 (ρ.put i x) φ V n w':=by
 have hle:=le_put (ρ:=ρ) (x:=x) hi
 have hold:∀b,b<w.heap.size→w'.heap[b]? = w.heap[b]? := fun b hb=>by rw[hw,Array.getElem?_push_lt hb];simp[hb]
 have hsz:w'.heap.size=w.heap.size+1:=by rw[hw];simp
 have g:=p.good
 refine⟨⟨?_,?_,g.dis,g.sub,?_,g.frs,by have:=g.size;omega,?_,by rw[ho];exact g.os,by rw[hp];exact g.out⟩,Ren.le_trans p.le hle,p.nle,by have:=p.sz;omega,?_,p.fF,p.fD,p.ids,?_⟩
 ·intro j hj
  have:j≠i:=by omega
  simp only[Ren.put,this,if_false]
  exact g.dom j hj
 ·intro j o h
  obtain⟨b,s,h1,h2⟩:=g.rel j o h
  exact⟨b,s,hle _ _ h1,h2.frame hle fun c hc=>hold c (g.lts j o c h hc)⟩
 ·intro j o b h hb;have:=g.lts j o b h hb;omega
 ·intro b hb;rw[hold b (by have:=g.size;omega)];exact g.base b hb
 ·intro b hb hF
  rw[hold b (by have:=p.sz;omega)]
  exact p.keep b hb hF
 ·intro j hj
  have:j≠i:=by omega
  simp only[Ren.put,this,if_false]
  exact p.old j hj
section
variable {call:CallFn E.X}{bf:List (List Nat)}{ops:Array Oper}{il:List (Option (Nat×Bool)×IOp)}{env0:List (Nat×Value)}{m0:Mem E.X}{ρ0:Ren}{φ0:Foot}{a0:Act}{w0:World}{N:Nat}{Z:DS E.X}{esc:Nat→Bool}
variable {listed:Array Bool}{a:Act}{w:World}{ρ:Ren}{φ:Foot}{B:Nat→Nat}{nc cs:List Nat}{ns ms:List (Mem E.X)}{m:Mem E.X}
theorem Ctx.alloc(c:Ctx E P W0 esc call bf ops il env0 m0 ρ0 φ0 a0 w0 N Z)(I:Inv W0 bf ops N m0 ρ0 φ0 a0 w0 Z listed a w ρ φ B nc cs ns m ms){k:Nat}{d:Option Nat}{hp:Bool}{cl cl':List Value}{q:Option Nat}{e:TypeId}(hlt:k<ops.size)(hk:¬isIn listed k)(hr:∀i,ordB bf i k=true→isIn listed i)
  (hv:(k,d,refTo (m0.next+k) q)∈Z.vals) (hf:(k,hp,AObj.cells cl)∈Z.fls) (hd:∀x,d=some x→x<N) (hc:k∉Z.chain) (hcl:All2 (FR ρ) cl cl') :
  ∃ρ' B',Inv W0 bf ops N m0 ρ0 φ0 a0 w0 Z (listed.setIfInBounds k true) (a.put d (refTo w.heap.size q)) { w with heap:=w.heap.push (.cells ⟨cl'⟩ e) } ρ' φ B' nc cs ns m ms:=by
 have hls:k<listed.size:=by rw[I.lsz];exact hlt
 have hin:=fun j=>isIn_set (k:=j) hls
 obtain⟨hy1,hy2⟩:=I.yet _ hf hk
 simp only at hy1 hy2
 have hle:=le_put (ρ:=ρ) (x:=(w.heap.size,0)) hy1
 have hself:(ρ.put (m0.next+k) (w.heap.size,0)) (m0.next+k)=some (w.heap.size,0):=by simp[Ren.put]
 refine⟨ρ.put (m0.next+k) (w.heap.size,0),fun j=>if j=k then w.heap.size else B j,by simp[I.lsz],?_,I.chain,I.snaps,I.len,I.len2,?_,?_,?_,I.sep,I.next,?_,?_,by rw[size_put];exact I.sz,by rw[defers_put];exact I.df,?_,?_,?_⟩
 ·intro j i hj ho
  rw[hin] at hj ⊢
  rcases hj with rfl|hj
  ·exact .inr (hr i ho)
  ·exact .inr (I.closed j i hj ho)
 ·intro x hx
  rw[hin]
  rintro(rfl|h)
  ·exact hc (by rw[I.chain];exact List.mem_append_left _ hx)
  ·exact I.ncs x hx h
 ·intro x hx;rw[hin];exact .inr (I.css x hx)
 ·exact I.post.extra hy1 (by omega) (by have:=I.next;omega) rfl rfl rfl
 ·intro j e u hj hjin
  rw[hin] at hjin
  by_cases ejk:j=k
  ·subst ejk
   have:=c.valsU _ hj _ hv rfl
   simp only[Prod.mk.injEq,true_and] at this
   obtain⟨h1,h2⟩:=this
   subst h2
   rw[← h1]
   have hlt2:e<a.tmps.size:=by rw[I.sz];exact hd e h1.symm
   simp only[Act.put,Array.getD_eq_getD_getElem?,Array.getElem?_setIfInBounds_self_of_lt hlt2,Option.getD_some]
   exact ref_sound hself
  ·rcases hjin with h|hjin
   ·exact(ejk h).elim
   ·have hne:d≠some e:=by
     intro hde
     obtain⟨g,i,hg,hgd⟩:=c.vals hj
     obtain⟨g',i',hg',hgd'⟩:=c.vals hv
     exact ejk (once_slots c.once hg hg' hgd.symm (hgd'.symm.trans hde))
    have:=(I.slots j e u hj hjin).mono hle
    cases d with
    |none=>exact this
    |some d =>
     have hde:d≠e:=fun h=>hne (by rw[h])
     simp only[Act.put,Array.getD_eq_getD_getElem?,Array.getElem?_setIfInBounds,hde,if_false] at this ⊢
     exact this
 ·intro s hs
  have h1:d≠some s:=by
   intro e;subst e
   exact hs k _ hv ((hin k).2 (.inl rfl))
  have h2:=I.rest s fun j u hj hjin=>hs j u hj ((hin j).2 (.inr hjin))
  cases d with
  |none=>exact h2
  |some d =>
   have hds:d≠s:=fun h=>h1 (by rw[h])
   simp only[Act.put,Array.getD_eq_getD_getElem?,Array.getElem?_setIfInBounds,hds,if_false] at h2 ⊢
   exact h2
 ·intro f hfm hfin hno
  rw[hin] at hfin
  by_cases efk:f.1=k
  ·have hfe:=c.flsU f hfm _ hf efk
   subst hfe
   simp only[if_true]
   refine⟨hself,⟨cl,cl',e,rfl,by simp,hcl.mono fun _ _=>FR.mono hle⟩,?_,?_,by simp,?_,hy2⟩
   ·exact I.post.sz
   ·exact I.post.good.size
   ·intro j oj hj hb
    have:=I.post.good.lts j oj _ hj hb;omega
  ·rcases hfin with h|hfin
   ·exact(efk h).elim
   ·have L:=I.loose f hfm hfin hno
    simp only[efk,if_false]
    refine⟨hle _ _ L.at_,?_,L.lo,L.loW,by have:=L.hi;simp;omega,L.no,L.id⟩
    obtain⟨x,x',e',h1,h2,h3⟩:=L.cells
    refine⟨x,x',e',h1,?_,h3.mono fun _ _=>FR.mono hle⟩
    have hhi:=L.hi
    rw[← h2]
    exact(by rw[Array.getElem?_push_lt hhi];simp[hhi])
 ·intro f hfm g hgm hfin hgin hfo hgo hB
  rw[hin] at hfin hgin
  have hiB:∀f∈Z.fls,isIn listed f.1→(∀c∈cs,ordB bf f.1 c=false)→B f.1<w.heap.size:=fun f hf h1 h2=>(I.loose f hf h1 h2).hi
  by_cases e1:f.1=k<;>by_cases e2:g.1=k
  ·rw[e1,e2]
  ·simp only[e1,e2,if_true,if_false] at hB
   rcases hgin with h|hgin
   ·exact(e2 h).elim
   ·have:=hiB g hgm hgin hgo;omega
  ·simp only[e1,e2,if_true,if_false] at hB
   rcases hfin with h|hfin
   ·exact(e1 h).elim
   ·have:=hiB f hfm hfin hfo;omega
  ·simp only[e1,e2,if_false] at hB
   rcases hfin with h|hfin
   ·exact(e1 h).elim
   ·rcases hgin with h|hgin
    ·exact(e2 h).elim
    ·exact I.inj f hfm g hgm hfin hgin hfo hgo hB
 ·intro f hfm hfin
  rw[hin] at hfin
  have hne:f.1≠k:=fun h=>hfin (.inl h)
  obtain⟨h1,h2⟩:=I.yet f hfm fun h=>hfin (.inr h)
  have:m0.next+f.1≠m0.next+k:=by omega
  exact⟨by simp only[Ren.put,this,if_false];exact h1,h2⟩
theorem pubs_mem{chain:List Nat}{fls:List (Nat×Bool×AObj E.X)}{k:Nat}{f:Nat×Bool×AObj E.X}:f∈pubs bf chain fls k↔f∈fls∧ordB bf f.1 k=true∧∀c∈chain,ordB bf f.1 c=false:=by
 unfold pubs
 rw[List.mem_filter]
 simp only[Bool.and_eq_true,List.all_eq_true,Bool.not_eq_true']
theorem suffix_same{α:Type}:∀{x y:List α} {s t:List α},x++s=y++t→s.length=t.length→x=y∧s=t:=by
 intro x y s t h hl
 have h1:x.length=y.length:=by
  have:=congrArg List.length h
  simp at this;omega
 exact List.append_inj h h1
theorem Ctx.change(c:Ctx E P W0 esc call bf ops il env0 m0 ρ0 φ0 a0 w0 N Z)(I:Inv W0 bf ops N m0 ρ0 φ0 a0 w0 Z listed a w ρ φ B nc cs ns m ms){k:Nat}{o:Oper}{i:IOp}{v:Value}{nc0 cs0:List Nat}{ns0 ms0:List (Mem E.X)}{mm mm':Mem E.X}
  (hlt:k<ops.size) (hk:¬isIn listed k) (hr:∀i,ordB bf i k=true→isIn listed i) (ho:mkOp P esc N o=some i) (hv:(k,i.dst,v)∈Z.vals) (hf:∀f∈Z.fls,f.1≠k)
  (h1:Z.chain=nc0++k::cs0) (h2:Z.snaps=ns0++mm'::mm::ms0) (h3:ns0.length=nc0.length) (h4:∀c∈cs0,ordB bf c k=true) (h4':∀c∈nc0,k<c)
  (h5:estep call (envAt bf (numbered 0 il) env0 Z.vals k) (layAll m0.next (pubs bf cs0 Z.fls k) mm) i=some (v,mm'))
  {K:Act→World→Prop} {Q:Exit→Act→World→Prop}
  (hK:∀v' w' ρ' φ',Inv W0 bf ops N m0 ρ0 φ0 a0 w0 Z (listed.setIfInBounds k true) (a.put o.dst v') w' ρ' φ' B nc0 (k::cs0) ns0 mm' (mm::ms0)→K (a.put o.dst v') w'):o.wp P a w K Q:=by
 obtain⟨e1,e2⟩:=cut_same (D:=fun c=>isIn listed c) (I.chain.symm.trans h1) I.ncs I.css hk (fun x hx=>hr x (h4 x hx))
 subst e1;subst e2
 have hs:=I.snaps.symm.trans h2
 have hl2:=I.len2
 have hl:(m::ms).length=(mm::ms0).length:=by
  have hh:=congrArg List.length hs
  have:=I.len
  simp only[List.length_append,List.length_cons,List.length_nil] at hh this ⊢
  omega
 obtain⟨s1,s2⟩:=suffix_same (x:=ns) (y:=ns0++[mm']) (by rw[hs];simp) hl
 injection s2 with s2 s3
 subst s1;subst s2;subst s3
 have hER:=c.er I hk hr
 -- the objects that are taken in now
 have hmem:=fun f=>pubs_mem (bf:=bf) (chain:=cs) (fls:=Z.fls) (k:=k) (f:=f)
 obtain⟨φ1,p1,p2,p3,p4,p5⟩:=lay_sound (B:=B) (Nat.le_refl m0.next) (pubs bf cs Z.fls k) m φ rfl I.sep I.post
  (fun f hfm=>by
   obtain⟨q1,q2,q3⟩:=(hmem f).1 hfm
   exact I.loose f q1 (hr _ q2) q3)
  ((c.flsN).sublist ((List.filter_sublist).map _))
  (fun f hfm g hgm=>by
   obtain⟨q1,q2,q3⟩:=(hmem f).1 hfm
   obtain⟨r1,r2,r3⟩:=(hmem g).1 hgm
   exact I.inj f q1 g r1 (hr _ q2) (hr _ r2) q3 r3)
 have hst:St E W0 ρ φ1 (envAt bf (numbered 0 il) env0 Z.vals k) (layAll m0.next (pubs bf cs Z.fls k) m) N a w:=⟨hER,I.sz,I.df,p2,by rw[p3];exact p1.good⟩
 refine estep_wp ho c.calls hst h5 ?_
 intro v' w' ρ' φ' hvr hpost hsep
 rw[p3] at hpost
 refine hK v' w' ρ' φ' ?_
 have hls:k<listed.size:=by rw[I.lsz];exact hlt
 have hin:=fun j=>isIn_set (k:=j) hls
 obtain⟨hd1,hd2⟩:=dst_ok ho
 rw[hd1]
 -- a block that is not taken in stays so
 have hstay:∀f∈Z.fls,isIn listed f.1→(∀x∈k::cs,ordB bf f.1 x=false)→(∀j oj,(layAll m0.next (pubs bf cs Z.fls k) m).get j=some oj→¬(φ1 j).2 (B f.1))∧(layAll m0.next (pubs bf cs Z.fls k) m).get (m0.next+f.1)=none:=by
  intro f hfm hfin hno
  have L:=I.loose f hfm hfin fun x hx=>hno x (List.mem_cons_of_mem _ hx)
  refine⟨fun j oj hj hb=>?_,?_⟩
  ·rcases p5 j oj hj _ hb with⟨g,hg,hB⟩|⟨j',oj',hj',hb'⟩
   ·obtain⟨q1,q2,q3⟩:=(hmem g).1 hg
    have:=I.inj f hfm g q1 hfin (hr _ q2) (fun x hx=>hno x (List.mem_cons_of_mem _ hx)) q3 hB
    have h0:=hno k (List.mem_cons_self ..)
    rw[this,q2] at h0;cases h0
   ·exact L.no j' oj' hj' hb'
  ·rw[(p4 _ fun g hg=>?_).1]
   ·exact L.id
   ·obtain⟨q1,q2,q3⟩:=(hmem g).1 hg
    intro he
    have he':g.1=f.1:=by omega
    have h0:=hno k (List.mem_cons_self ..)
    rw[← he',q2] at h0;cases h0
 have hnx:=I.next
 have hids:∀f∈Z.fls,(layAll m0.next (pubs bf cs Z.fls k) m).get (m0.next+f.1)=none→mm'.get (m0.next+f.1)=none:=by
  intro f hfm hnone
  cases hq:mm'.get (m0.next+f.1) with
  |none=>rfl
  |some x =>
   exfalso
   have:=c.flt hfm
   rcases hpost.ids _ x hq with h|⟨y,hy⟩
   ·omega
   ·rw[hnone] at hy;cases hy
 refine⟨by simp[I.lsz],?_,h1,h2,h3,by simp[I.len2],?_,?_,p1.trans hpost,hsep,by have:=hpost.nle;omega,?_,?_,by rw[size_put];exact I.sz,by rw[defers_put];exact I.df,?_,?_,?_⟩
 ·intro j i hj ho
  rw[hin] at hj ⊢
  rcases hj with rfl|hj
  ·exact .inr (hr i ho)
  ·exact .inr (I.closed j i hj ho)
 ·intro x hx
  rw[hin]
  rintro(rfl|h)
  ·have:=h4' x hx;omega
  ·exact I.ncs x (List.mem_append_left _ hx) h
 ·intro x hx
  rw[hin]
  rcases List.mem_cons.1 hx with rfl|hx
  ·exact .inl rfl
  ·exact .inr (I.css x hx)
 ·intro j e u hj hjin
  rw[hin] at hjin
  by_cases ejk:j=k
  ·subst ejk
   have:=c.valsU _ hj _ hv rfl
   simp only[Prod.mk.injEq,true_and] at this
   obtain⟨g1,g2⟩:=this
   subst g2
   rw[← g1]
   have hlt2:e<a.tmps.size:=by rw[I.sz];exact hd2 e g1.symm
   simp only[Act.put,Array.getD_eq_getD_getElem?,Array.getElem?_setIfInBounds_self_of_lt hlt2,Option.getD_some]
   exact hvr
  ·rcases hjin with h|hjin
   ·exact(ejk h).elim
   ·have hne:i.dst≠some e:=by
     intro hde
     obtain⟨g,i',hg,hgd⟩:=c.vals hj
     obtain⟨g',i'',hg',hgd'⟩:=c.vals hv
     exact ejk (once_slots c.once hg hg' hgd.symm (hgd'.symm.trans hde))
    have:=(I.slots j e u hj hjin).mono hpost.le
    cases hdd:i.dst with
    |none=>exact this
    |some d =>
     have hde:d≠e:=fun h=>hne (by rw[hdd,h])
     simp only[Act.put,Array.getD_eq_getD_getElem?,Array.getElem?_setIfInBounds,hde,if_false] at this ⊢
     exact this
 ·intro s hs
  have g1:i.dst≠some s:=by
   intro e
   rw[e] at hv
   exact hs k _ hv ((hin k).2 (.inl rfl))
  have g2:=I.rest s fun j u hj hjin=>hs j u hj ((hin j).2 (.inr hjin))
  cases hdd:i.dst with
  |none=>exact g2
  |some d =>
   have hds:d≠s:=fun h=>g1 (by rw[hdd,h])
   simp only[Act.put,Array.getD_eq_getD_getElem?,Array.getElem?_setIfInBounds,hds,if_false] at g2 ⊢
   exact g2
 ·intro f hfm hfin hno
  rw[hin] at hfin
  rcases hfin with h|hfin
  ·exact(hf f hfm h).elim
  ·have L:=I.loose f hfm hfin fun x hx=>hno x (List.mem_cons_of_mem _ hx)
   obtain⟨g1,g2⟩:=hstay f hfm hfin hno
   refine⟨hpost.le _ _ L.at_,?_,L.lo,L.loW,Nat.lt_of_lt_of_le L.hi hpost.sz,?_,hids f hfm g2⟩
   ·obtain⟨x,x',e',u1,u2,u3⟩:=L.cells
    refine⟨x,x',e',u1,?_,u3.mono fun _ _=>FR.mono hpost.le⟩
    rw[hpost.keep _ L.hi fun j oj hj hF=>g1 j oj hj (p1.good.sub j oj _ hj hF)]
    exact u2
   ·intro j oj hj hD
    rcases hpost.fD j oj _ hj hD with h|⟨j',oj',hj',hD'⟩
    ·have:=L.hi;omega
    ·exact g1 j' oj' hj' hD'
 ·intro f hfm g hgm hfin hgin hfo hgo
  rw[hin] at hfin hgin
  rcases hfin with h|hfin
  ·exact(hf f hfm h).elim
  ·rcases hgin with h|hgin
   ·exact(hf g hgm h).elim
   ·exact I.inj f hfm g hgm hfin hgin (fun x hx=>hfo x (List.mem_cons_of_mem _ hx)) (fun x hx=>hgo x (List.mem_cons_of_mem _ hx))
 ·intro f hfm hfin
  rw[hin] at hfin
  obtain⟨u1,u2⟩:=I.yet f hfm fun h=>hfin (.inr h)
  have hft:=c.flt hfm
  refine⟨by rw[hpost.old _ (by omega)];exact u1,hids f hfm ?_⟩
  rw[(p4 _ fun g hg=>?_).1]
  ·exact u2
  ·obtain⟨q1,q2,q3⟩:=(hmem g).1 hg
   intro he
   have he':g.1=f.1:=by omega
   exact hfin (.inr (he'▸hr _ q2))
theorem alloc_ok1{o:Oper}{i:IOp}(ho:mkOp1 P esc N o=some i)(hk:kindOf i = .alloc)(env:List (Nat×Value))(a:Act):AllocOk P env a o.op i:=by
 obtain⟨dst,op,ty,pos,af,gd⟩:=o
 cases dst with
 |none =>
  simp only[mkOp1] at ho
  exfalso
  repeat(first|contradiction|(injection ho with ho;subst ho;cases hk)|split at ho)
 |some d =>
  simp only[mkOp1] at ho
  cases hd:Nat.blt d N with
  |false=>rw[hd] at ho;cases ho
  |true =>
   rw[hd,cond_true] at ho
   split at ho
   ·injection ho with ho;subst ho;simp[kindOf] at hk
   ·split at ho
    case h_2 =>
     split at ho
     ·rename_i z hz
      split at ho
      ·injection ho with ho;subst ho;cases hk
      ·injection ho with ho;subst ho;exact alloc_new _ hz
     ·cases ho
    case h_3 =>
     simp only[Option.map_eq_some_iff] at ho
     obtain⟨y,hy,rfl⟩:=ho
     exact alloc_box _ _ hy
    case h_4 =>
     split at ho
     ·rename_i e hu
      split at ho
      ·rename_i z k qs h1 h2 h3
       split at ho
       ·rename_i hle
        injection ho with ho;subst ho
        exact alloc_bslice _ _ _ hu h1 h2 h3 hle
       ·cases ho
      ·cases ho
     ·cases ho
    all_goals exfalso
    all_goals repeat(first|contradiction|(injection ho with ho;subst ho;cases hk)|(simp only[Option.map_eq_some_iff] at ho;obtain⟨_,_,h⟩:=ho;subst h;cases hk)|split at ho)
theorem alloc_ok{o:Oper}{i:IOp}(ho:mkOp P esc N o=some i)(hk:kindOf i = .alloc)(env:List (Nat×Value))(a:Act):AllocOk P env a o.op i:=by
 rcases mkOp_inv ho with h|⟨rfl,_⟩
 ·exact alloc_ok1 h hk env a
 ·generalize o.dst=d at hk;cases d<;>cases hk
theorem kind_load{i:IOp}{n:Nat}{g:Bool}{x:Opd}(h:kindOf i = .load n g x):∃d,i = .load d n g x:=by
 cases i<;>simp[kindOf] at h
 obtain⟨rfl,rfl,rfl⟩:=h
 exact⟨_,rfl⟩
theorem kind_pure{i:IOp}{p:PureOp}(h:kindOf i = .pure p):∃d,i = .pure d p:=by
 cases i<;>simp[kindOf] at h
 subst h
 exact⟨_,rfl⟩
theorem pure_of1{dst:Option Tmp}{op:Op}{ty:TypeId}{pos:String}{af:Array Edge}{gd:Option (Nat×Bool)}{d:Nat}{p:PureOp}(hm:mkOp1 P esc N ⟨dst,op,ty,pos,af,gd⟩=some (.pure d p)):mkPure P op=some p:=by
 cases dst with
 |none =>
  simp only[mkOp1] at hm
  exfalso
  repeat(first|contradiction|(injection hm with hm;contradiction)|split at hm)
 |some d' =>
  simp only[mkOp1] at hm
  cases hd:Nat.blt d' N with
  |false=>rw[hd] at hm;cases hm
  |true =>
   rw[hd,cond_true] at hm
   split at hm
   ·rename_i q hq
    injection hm with hm;injection hm with _ h;subst h;exact hq
   ·exfalso
    split at hm
    all_goals repeat(first|contradiction|(injection hm with hm;contradiction)|(simp only[Option.map_eq_some_iff] at hm;obtain⟨_,_,h⟩:=hm;contradiction)|split at hm)
theorem pure_of{dst:Option Tmp}{op:Op}{ty:TypeId}{pos:String}{af:Array Edge}{gd:Option (Nat×Bool)}{d:Nat}{p:PureOp}(hm:mkOp P esc N ⟨dst,op,ty,pos,af,gd⟩=some (.pure d p)):mkPure P op=some p:=by
 rcases mkOp_inv hm with h|⟨h,_⟩
 ·exact pure_of1 h
 ·cases dst<;>cases h
theorem load_of1{dst:Option Tmp}{op:Op}{ty:TypeId}{pos:String}{af:Array Edge}{gd:Option (Nat×Bool)}{d n:Nat}{g:Bool}{x:Opd}(hm:mkOp1 P esc N ⟨dst,op,ty,pos,af,gd⟩=some (.load d n g x)) :
  ∃t y,op = .load t y∧aggT P t=some g∧(∃k,sizeT P t=some k∧n=bif g then k else 1)∧n≠0∧mkOpd y=some x:=by
 cases dst with
 |none =>
  simp only[mkOp1] at hm
  exfalso
  repeat(first|contradiction|(injection hm with hm;contradiction)|split at hm)
 |some d' =>
  simp only[mkOp1] at hm
  cases hd:Nat.blt d' N with
  |false=>rw[hd] at hm;cases hm
  |true =>
   rw[hd,cond_true] at hm
   split at hm
   ·injection hm with hm;contradiction
   ·split at hm
    case h_1 =>
     split at hm
     ·rename_i g0 n0 y0 h1 h2 h3
      split at hm
      ·cases hm
      ·rename_i hz
       injection hm with hm
       injection hm with e1 e2 e3 e4
       subst e3;subst e4
       refine⟨_,_,rfl,h1,⟨n0,h2,e2.symm⟩,?_,h3⟩
       rw[← e2]
       cases g0 with
       |true =>
        simp only[Bool.true_and] at hz
        intro e
        simp only[cond_true] at e
        rw[e] at hz;simp at hz
       |false=>simp
     ·cases hm
    all_goals exfalso
    all_goals repeat(first|contradiction|(injection hm with hm;contradiction)|(simp only[Option.map_eq_some_iff] at hm;obtain⟨_,_,h⟩:=hm;contradiction)|split at hm)
theorem load_of{dst:Option Tmp}{op:Op}{ty:TypeId}{pos:String}{af:Array Edge}{gd:Option (Nat×Bool)}{d n:Nat}{g:Bool}{x:Opd}(hm:mkOp P esc N ⟨dst,op,ty,pos,af,gd⟩=some (.load d n g x)) :
  ∃t y,op = .load t y∧aggT P t=some g∧(∃k,sizeT P t=some k∧n=bif g then k else 1)∧n≠0∧mkOpd y=some x:=by
 rcases mkOp_inv hm with h|⟨h,_⟩
 ·exact load_of1 h
 ·cases dst<;>cases h
theorem mget_of1{dst:Option Tmp}{op:Op}{ty:TypeId}{pos:String}{af:Array Edge}{gd:Option (Nat×Bool)}{d:Nat}{z:List Value}{g o:Bool}{x y:Opd}(hm:mkOp1 P esc N ⟨dst,op,ty,pos,af,gd⟩=some (.mget d z g o x y)) :
  ∃t mm kk kt e ik zv,op = .lookup t mm kk o∧P.underlying t=some (.map kt e)∧P.underlying kt=some (.int ik)∧zInt P e=some zv∧z=[zv]∧mkOpd mm=some x∧mkOpd kk=some y:=by
 cases dst with
 |none =>
  simp only[mkOp1] at hm
  exfalso
  repeat(first|contradiction|(injection hm with hm;contradiction)|split at hm)
 |some d' =>
  simp only[mkOp1] at hm
  cases hd:Nat.blt d' N with
  |false=>rw[hd] at hm;cases hm
  |true =>
   rw[hd,cond_true] at hm
   split at hm
   ·injection hm with hm;contradiction
   ·split at hm
    rotate_right 3
    ·split at hm
     ·rename_i kt e hu
      split at hm
      ·rename_i ik zv x y hk hz hx hy
       injection hm with hm
       injection hm with e1 e2 e3 e4 e5 e6
       subst e2;subst e4;subst e5;subst e6
       exact⟨_,_,_,kt,e,ik,zv,rfl,hu,hk,hz,rfl,hx,hy⟩
      ·cases hm
     ·cases hm
    all_goals exfalso
    all_goals repeat(first|contradiction|(injection hm with hm;contradiction)|(simp only[Option.map_eq_some_iff] at hm;obtain⟨_,_,h⟩:=hm;contradiction)|split at hm)
theorem mget_of{dst:Option Tmp}{op:Op}{ty:TypeId}{pos:String}{af:Array Edge}{gd:Option (Nat×Bool)}{d:Nat}{z:List Value}{g o:Bool}{x y:Opd}(hm:mkOp P esc N ⟨dst,op,ty,pos,af,gd⟩=some (.mget d z g o x y)) :
  ∃t mm kk kt e ik zv,op = .lookup t mm kk o∧P.underlying t=some (.map kt e)∧P.underlying kt=some (.int ik)∧zInt P e=some zv∧z=[zv]∧mkOpd mm=some x∧mkOpd kk=some y:=by
 rcases mkOp_inv hm with h|⟨h,_⟩
 ·exact mget_of1 h
 ·cases dst<;>cases h
theorem kind_mget{i:IOp}{z:List Value}{g o:Bool}{x y:Opd}(h:kindOf i = .mget z g o x y):∃d,i = .mget d z g o x y:=by
 cases i<;>simp[kindOf] at h
 obtain⟨rfl,rfl,rfl,rfl,rfl⟩:=h
 exact⟨_,rfl⟩
theorem mget_value{env:List (Nat×Value)}{t:TypeId}{mm kk:Operand}{kt e:TypeId}{ik:IntKind}{zv v:Value}{x y:Opd}{b:Nat}{j:IntKind}{n:Int}{dst:Option Tmp}{ty:TypeId}{pos:String}{af:Array Edge}{gd:Option (Nat×Bool)}
  (hu:P.underlying t=some (.map kt e)) (hk:P.underlying kt=some (.int ik)) (hz:zInt P e=some zv) (hx:mkOpd mm=some x) (hy:mkOpd kk=some y)
  (hi:evo env x=some (.map (some b))) (hn:evo env y=some (.int j n)) (hr:m.mrd b j n [zv]=some [v]) (hE:ER ρ env a) (hG:Good (E:=E) W0 ρ φ m.get m.next w) :
  ∃v',(execOp a.eval ⟨dst,.lookup t mm kk false,ty,pos,af,gd⟩).run P w = .ok (.value v') w∧VR ρ v v':=by
 obtain⟨zk,zn,rfl⟩:=zInt_int hz
 obtain⟨b',s,hb,hrb⟩:=(opd_sound hx hi hE).map_inv
 have hq:=(opd_sound hy hn hE).int_inv
 unfold Mem.mrd at hr
 split at hr
 ·rename_i es c he
  obtain⟨es',h1,h2,h3⟩:=map_at hG he hrb
  split at hr
  ·rename_i j' u bo hf
   injection hr with hr
   injection hr with hr
   subst hr
   obtain⟨v',c',q1,q2,_⟩:=key_sound (D:=.int ik) ⟨_,rfl⟩ h2 hf
   refine⟨v',?_,.x q2⟩
   simp only[execOp,hb,hq,Instr.lookup,Sem.run_bind,run_under hu,Result.andThen_ok,MapKept.run_getObj_map h1,Sem.run_pure,check_int hk,find_int hk q1]
   rfl
  ·rename_i hf
   injection hr with hr
   injection hr with hr
   subst hr
   have q1:=key_sound (D:=.int ik) ⟨_,rfl⟩ h2 hf
   refine⟨.int zk zn,?_,.of_flat (.int _ _)⟩
   simp only[execOp,hb,hq,Instr.lookup,Sem.run_bind,run_under hu,Result.andThen_ok,MapKept.run_getObj_map h1,Sem.run_pure,check_int hk,find_int hk q1,zInt_run hz]
   rfl
  ·cases hr
 ·cases hr
theorem load_value{env:List (Nat×Value)}{t:TypeId}{x:Operand}{n:Nat}{g:Bool}{y:Opd}{ad:Addr}{r:List Value}{v:Value}{dst:Option Tmp}{ty:TypeId}{pos:String}{af:Array Edge}{gd:Option (Nat×Bool)}(hg:aggT P t=some g)(hn:∃k,sizeT P t=some k∧n=bif g then k else 1)(hn0:n≠0)(hx:mkOpd x=some y)
  (had:evo env y=some (.pointer (some ad))) (hr:m.load ad n=some r) (hv:oneOf g r=some v) (hE:ER ρ env a) (hG:Good (E:=E) W0 ρ φ m.get m.next w) :
  ∃v',(execOp a.eval ⟨dst,.load t x,ty,pos,af,gd⟩).run P w = .ok (.value v') w∧VR ρ v v':=by
 have hp:=opd_sound hx had hE
 obtain⟨k,hk,rfl⟩:=hn
 cases hq:a.eval x<;>rw[hq] at hp<;>have hf:=hp.flat_ptr<;>cases hf
 rename_i i b s o hrb
 obtain⟨r',l1,l2,l3⟩:=load_sound (P:=P) hr hG hn0 (.ptr hrb)
 unfold oneOf at hv
 cases g with
 |true =>
  simp only[cond_true,zI] at hv l1;subst hv
  refine⟨.agg ⟨r'⟩,?_,.x (.agg l2)⟩
  simp only[execOp,hq,Instr.loadAt,Instr.sureAddr,loadVar,Sem.run_bind,Sem.run_pure,Result.andThen_ok,run_agg hg,if_true,run_size hk,l1]
 |false =>
  simp only[cond_false] at hv
  split at hv
  ·rename_i c
   injection hv with hv;subst hv
   obtain⟨yv,l4,l5⟩:=l3 c rfl rfl
   refine⟨yv,?_,.of_flat l5⟩
   simp only[execOp,hq,Instr.loadAt,Instr.sureAddr,loadVar,Sem.run_bind,Sem.run_pure,Result.andThen_ok,run_agg hg,Bool.false_eq_true,if_false,l4]
  ·cases hv
theorem b2s_of{o:Oper}{i:IOp}{d:Nat}{x:Opd}(hm:mkOp P esc N o=some i)(hi:i = .b2s d x) :
  ∃s t y e,o.op = .convert s t y∧P.underlying s=some (.slice e)∧P.underlying t=some .string∧P.underlying e=some (.int .u8)∧mkOpd y=some x:=by
 rcases mkOp_inv hm with h|⟨h,_⟩
 rotate_left
 ·rw[hi] at h;generalize o.dst=d' at h;cases d'<;>cases h
 subst hi
 obtain⟨dst,op,ty,pos,af,gd⟩:=o
 cases dst with
 |none =>
  simp only[mkOp1] at h
  exfalso
  repeat(first|contradiction|(injection h with h;contradiction)|split at h)
 |some d' =>
  simp only[mkOp1] at h
  cases hd:Nat.blt d' N with
  |false=>rw[hd] at h;cases h
  |true =>
   rw[hd,cond_true] at h
   split at h
   ·injection h with h;contradiction
   ·split at h
    case h_6 =>
     split at h
     ·split at h
      ·simp only[Option.map_eq_some_iff] at h
       obtain⟨_,_,h⟩:=h
       contradiction
      ·cases h
     ·rename_i e h1 h2
      split at h
      ·rename_i h3
       simp only[Option.map_eq_some_iff] at h
       obtain⟨y,hy,h⟩:=h
       injection h with h4 h5
       subst h5
       exact⟨_,_,_,e,rfl,h1,h2,h3,hy⟩
      ·cases h
     ·exfalso
      repeat(first|contradiction|(injection h with h;contradiction)|(simp only[Option.map_eq_some_iff] at h;obtain⟨_,_,h⟩:=h;contradiction)|split at h)
     ·exfalso
      repeat(first|contradiction|(injection h with h;contradiction)|(simp only[Option.map_eq_some_iff] at h;obtain⟨_,_,h⟩:=h;contradiction)|split at h)
     ·cases h
    all_goals exfalso
    all_goals repeat(first|contradiction|(injection h with h;contradiction)|(simp only[Option.map_eq_some_iff] at h;obtain⟨_,_,h⟩:=h;contradiction)|split at h)
theorem b2s_value{env:List (Nat×Value)}{s t e:TypeId}{x:Operand}{y:Opd}{ad:Addr}{n c:Nat}{cl:List Value}{l:List UInt8}(hs1:P.underlying s=some (.slice e))(ht:P.underlying t=some .string)(he:P.underlying e=some (.int .u8))(hx:mkOpd x=some y)
  (hq:evo env y=some (.slice (some ad) n c)) (hcs:m.loads (some ad) n=some cl) (hl:cellBytes cl=some l) (hE:ER ρ env a) (hG:Good (E:=E) W0 ρ φ m.get m.next w) (dst:Option Tmp) (ty:TypeId) (pos:String) (af:Array Edge) (gd:Option (Nat×Bool)) :
  (execOp a.eval ⟨dst,.convert s t x,ty,pos,af,gd⟩).run P w = .ok (.value (.string ⟨⟨l⟩⟩)) w:=by
 have hf:=(opd_sound hx hq hE).flat_slice
 obtain⟨z,c',hz⟩:=hf.slice_shape
 rw[hz] at hf
 obtain⟨r',l1,l2⟩:=loads_sound (P:=P) hcs hG hf (by simp) (fun h=>h)
 obtain⟨ns,rfl,rfl⟩:=cellBytes_inv hl
 have:=ints_same l2
 subst this
 obtain⟨zz,rfl⟩:∃zz,z=some zz:=by cases hf<;>exact⟨_,rfl⟩
 simp only[execOp,hz,convert,Sem.run_bind,run_under hs1,run_under ht,run_under he,Result.andThen_ok,Conv.bytesToString,Sem.run_pure]
 simp only at l1
 rw[l1]
 simp only[Result.andThen_ok]
 rw[← Array.forIn_toList]
 rw[push_loop (fun n s=>rfl) ns ByteArray.empty]
 simp
theorem Ctx.step(c:Ctx E P W0 esc call bf ops il env0 m0 ρ0 φ0 a0 w0 N Z)(I:Inv W0 bf ops N m0 ρ0 φ0 a0 w0 Z listed a w ρ φ B nc cs ns m ms){k:Nat}(hlt:k<ops.size)(hk:¬isIn listed k)(hr:∀i,ordB bf i k=true→isIn listed i){K:Act→World→Prop}{Q:Exit→Act→World→Prop}
  (hK:∀a' w' ρ' φ' B' nc' cs' ns' m' ms',Inv W0 bf ops N m0 ρ0 φ0 a0 w0 Z (listed.setIfInBounds k true) a' w' ρ' φ' B' nc' cs' ns' m' ms'→K a' w'):wpOp P ops Q k K a w:=by
 have hop:ops[k]? = some ops[k]:=by simp[hlt]
 generalize ops[k]=o at hop
 obtain⟨g,i,hil,hg,ho⟩:=il_get c.made (by rw[Array.getElem?_toList];exact hop)
 have hER:=c.er I hk hr
 obtain⟨hd1,hd2⟩:=dst_ok ho
 have hfact:=c.facts k g i hil
 have same:∀{g':Option (Nat×Bool)} {i':IOp},il[k]? = some (g',i')→g'=g∧i'=i:=by
  intro g' i' h
  rw[hil] at h
  simp only[zI,Prod.mk.injEq] at h
  exact⟨h.1.symm,h.2.symm⟩
 have hchain:(kindOf i≠.chain∨wanted (envAt bf (numbered 0 il) env0 Z.vals k) g=some false)→k∉Z.chain:=by
  intro h hm
  obtain⟨g',i',h1,h2,h3⟩:=c.chain hm
  obtain⟨rfl,rfl⟩:=same h1
  rcases h with h|h
  ·exact h h2
  ·rw[h] at h3;cases h3
 have hfls:(kindOf i≠.alloc∨wanted (envAt bf (numbered 0 il) env0 Z.vals k) g=some false)→∀f∈Z.fls,f.1≠k:=by
  intro h f hm e
  obtain⟨g',i',h1,h2,_,h3⟩:=c.fls hm
  rw[e] at h1 h3
  obtain⟨rfl,rfl⟩:=same h1
  rcases h with h|h
  ·exact h h2
  ·rw[h] at h3;cases h3
 unfold wpOp
 simp only[hop]
 rcases hfact with⟨hw,hv⟩|⟨hw,v,hv,hm⟩
 ·rw[wanted_sound rfl hg hw hER]
  simp only[Bool.false_eq_true,if_false]
  rw[hd1]
  exact hK _ _ _ _ _ _ _ _ _ _ (c.quiet I hlt hk hr hv hd2 undef_vr (hchain (.inr hw)) (hfls (.inr hw)))
 ·rw[wanted_sound rfl hg hw hER,if_pos rfl]
  refine .inl ?_
  cases hkd:kindOf i with
  |pure p =>
   rw[hkd] at hm
   obtain⟨d,rfl⟩:=kind_pure hkd
   have hst:St E W0 ρ φ (envAt bf (numbered 0 il) env0 Z.vals k) m N a w:=⟨hER,I.sz,I.df,I.sep,I.post.good⟩
   obtain⟨dst,op,ty,pos,af,gd⟩:=o
   have hmp:=pure_of ho
   obtain⟨v',h1,h2⟩:=pure_sound op p v hmp hm hER w dst ty pos af gd
   unfold Oper.wp
   rw[h1]
   show K ((a.put dst v')) w
   simp only at hd1
   rw[hd1]
   exact hK _ _ _ _ _ _ _ _ _ _ (c.quiet I hlt hk hr hv hd2 h2 (hchain (.inl (by rw[hkd];simp))) (hfls (.inl (by rw[hkd];simp))))
  |load n ag x =>
   rw[hkd] at hm
   obtain⟨ad,r,h1,h2,h3⟩:=hm
   obtain⟨d,rfl⟩:=kind_load hkd
   have hld:=c.load I hk hr h2
   obtain⟨dst,op,ty,pos,af,gd⟩:=o
   simp only at hd1
   obtain⟨t,y,rfl,q1,q2,q3,q4⟩:=load_of ho
   obtain⟨v',k1,k2⟩:=load_value (P:=P) (dst:=dst) (ty:=ty) (pos:=pos) (af:=af) (gd:=gd) q1 q2 q3 q4 h1 hld h3 hER I.post.good
   unfold Oper.wp
   rw[k1]
   show K ((a.put dst v')) w
   rw[hd1]
   exact hK _ _ _ _ _ _ _ _ _ _ (c.quiet I hlt hk hr hv hd2 k2 (hchain (.inl (by rw[hkd];simp))) (hfls (.inl (by rw[hkd];simp))))
  |mget z ag oo x y =>
   rw[hkd] at hm
   obtain⟨rfl,rfl,b,j,n,h1,h2,h3⟩:=hm
   obtain⟨d,rfl⟩:=kind_mget hkd
   have hld:=c.load I hk hr h3
   obtain⟨dst,op,ty,pos,af,gd⟩:=o
   simp only at hd1
   obtain⟨t,mm,kk,kt,e,ik,zv,rfl,q1,q2,q3,rfl,q4,q5⟩:=mget_of ho
   obtain⟨v',k1,k2⟩:=mget_value (P:=P) (dst:=dst) (ty:=ty) (pos:=pos) (af:=af) (gd:=gd) q1 q2 q3 q4 q5 h1 h2 hld hER I.post.good
   unfold Oper.wp
   rw[k1]
   show K ((a.put dst v')) w
   rw[hd1]
   exact hK _ _ _ _ _ _ _ _ _ _ (c.quiet I hlt hk hr hv hd2 k2 (hchain (.inl (by rw[hkd];simp))) (hfls (.inl (by rw[hkd];simp))))
  |alloc =>
   rw[hkd] at hm
   obtain⟨r,h1,h2,h3⟩:=hm
   subst h2
   obtain⟨cs',e,k1,k2⟩:=alloc_ok ho hkd (envAt bf (numbered 0 il) env0 Z.vals k) a ρ r w h1 hER o.dst o.type o.pos o.after o.guard
   unfold Oper.wp
   have:(⟨o.dst,o.op,o.type,o.pos,o.after,o.guard⟩:Oper)=o:=rfl
   rw[this] at k1
   rw[k1]
   show K (a.put o.dst (refTo w.heap.size r.2.2)) _
   rw[hd1]
   obtain⟨ρ',B',hI⟩:=c.alloc I (e:=e) hlt hk hr hv h3 hd2 (hchain (.inl (by rw[hkd];simp))) k2
   exact hK _ _ _ _ _ _ _ _ _ _ hI
  |chain =>
   rw[hkd] at hm
   rcases hm with⟨hnot,d,x,ad,n,c0,f,cl,l,hi,hev,hfm,had,hf1,hf2,hcs,hl,hvl⟩|hm
   ·subst hvl
    have hno:∀x∈cs,ordB bf f.1 x=false:=by
     intro x hx
     rw[← Bool.not_eq_true]
     intro h
     have hxb:x<bf.length:=by
      rcases Nat.lt_or_ge x bf.length with h'|h'
      ·exact h'
      ·unfold ordB at h
       rw[List.getD_eq_getElem?_getD,List.getElem?_eq_none h'] at h
       cases h
     have h2:=List.all_eq_true.1 hf2 x (List.mem_range.2 hxb)
     rw[h] at h2
     simp only[Bool.not_true,Bool.false_or,Bool.or_eq_true,Nat.beq_eq] at h2
     rcases h2 with h2|h2
     ·exact hk (h2▸I.css x hx)
     ·exact hk (I.closed x k (I.css x hx) h2)
    have L:=I.loose f hfm (hr _ hf1) hno
    obtain⟨φ1,p1,p2,p3,p4,p5⟩:=lay_sound (B:=B) (Nat.le_refl m0.next) [f] m φ rfl I.sep I.post (fun f' hf'=>by rw[List.mem_singleton] at hf';subst hf';exact L) (by simp) (fun f' hf' g' hg' _=>by rw[List.mem_singleton] at hf' hg';subst hf';subst hg';rfl)
    have hgood:Good (E:=E) W0 ρ φ1 (⟨[],[(m0.next+f.1,f.2.2)],m.next⟩:Mem E.X).get m.next w:=by
     refine p1.good.part (fun i oi hi=>?_) (Nat.le_refl _)
     have hi':look i [(m0.next+f.1,f.2.2)]=some oi:=hi
     rw[zC] at hi'
     split at hi'
     ·rename_i e
      injection hi' with hi'
      subst e;subst hi'
      obtain⟨cs1,cs1',e1,ho,_,_⟩:=L.cells
      obtain⟨fk,fh,fo⟩:=f
      simp only at ho ⊢
      subst ho
      have hnone:=L.id
      show(layAll m0.next [(fk,fh,AObj.cells cs1)] m).get (m0.next+fk)=_
      unfold Mem.get at hnone ⊢
      cases hq:look (m0.next+fk) m.loc with
      |some x=>rw[hq] at hnone;cases hnone
      |none=>cases fh<;>simp[layAll,zC,hq]
     ·simp[look] at hi'
    obtain⟨s,t,y,e,q1,q2,q3,q4,q5⟩:=b2s_of ho hi
    have hrun:=b2s_value (P:=P) (m:=(⟨[],[(m0.next+f.1,f.2.2)],m.next⟩:Mem E.X)) q2 q3 q4 q5 hev hcs hl hER hgood o.dst o.type o.pos o.after o.guard
    have:(⟨o.dst,.convert s t y,o.type,o.pos,o.after,o.guard⟩:Oper)=o:=by rw[← q1]
    rw[this] at hrun
    unfold Oper.wp
    rw[hrun]
    show K (a.put o.dst (.string ⟨⟨l⟩⟩)) w
    rw[hd1]
    exact hK _ _ _ _ _ _ _ _ _ _ (c.quiet I hlt hk hr hv hd2 (.of_flat (.str _)) hnot (hfls (.inl (by rw[hkd];simp))))
   obtain⟨nc0,cs0,ns0,mm,mm',ms0,h1,h2,h3,h4,h4',h5⟩:=hm
   exact c.change I hlt hk hr ho hv (hfls (.inl (by rw[hkd];simp))) h1 h2 h3 h4 h4' h5 fun v' w' ρ' φ' hI=>hK _ _ _ _ _ _ _ _ _ _ hI
end
end Go.AI
