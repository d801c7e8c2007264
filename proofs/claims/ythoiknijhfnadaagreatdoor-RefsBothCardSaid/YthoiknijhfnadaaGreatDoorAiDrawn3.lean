/- The evaluator upon a region whose order is drawn: whatever order comes up, the model ends where the walk ended. No program is named here. -/
import Derived.Test.YthoiknijhfnadaaGreatDoorAiDrawn2
namespace Go.AI
variable {E:Ext}{P:Program}{W0:World}
theorem Post.adopt{ρ0 ρ:Ren}{φ0 φ:Foot}{V0 V:View E}{n0 n:Nat}{w0 w:World}(p:Post W0 ρ0 φ0 V0 n0 w0 ρ φ V n w){i b:Nat}(o:AObj E.X)(hi:V i=none)(hn0:n0≤i)(hρ:ρ i=some (b,0))
  (hrel:ObjR E ρ o b 0 (· = b) (· = b) w) (hlo:w0.heap.size≤b) (hW:W0.heap.size≤b) (hhi:b<w.heap.size) (hF:∀j oj,V j=some oj→¬(φ j).2 b) :
  Post W0 ρ0 φ0 V0 n0 w0 ρ (fun j=>if j=i then((· = b),(· = b)) else φ j) (V.put i o) n w:=by
 have hV:∀j oj,V.put i o j=some oj→(j=i∧oj=o)∨(j≠i∧V j=some oj):=by
  intro j oj h
  by_cases e:j=i
  ·subst e;simp only[View.put,if_true,zI] at h;exact .inl ⟨rfl,h.symm⟩
  ·simp only[View.put,e,if_false] at h;exact .inr ⟨e,h⟩
 have g:=p.good
 refine⟨⟨g.dom,?_,?_,?_,?_,?_,g.size,g.base,g.os,g.out⟩,p.le,p.nle,p.sz,p.keep,?_,?_,?_,p.old⟩
 ·intro j oj h
  rcases hV j oj h with⟨rfl,rfl⟩|⟨h1,h2⟩
  ·exact⟨b,0,hρ,by simpa using hrel⟩
  ·simp only[h1,if_false];exact g.rel j oj h2
 ·intro j k oj ok c hj hk hne hc hd
  rcases hV j oj hj with⟨rfl,rfl⟩|⟨h1,h2⟩<;>rcases hV k ok hk with⟨rfl,rfl⟩|⟨h3,h4⟩
  ·exact hne rfl
  ·simp only[if_true] at hc;simp only[h3,if_false] at hd
   subst hc;exact hF k ok h4 hd
  ·simp only[h1,if_false] at hc;simp only[if_true] at hd
   subst hd;exact hF j oj h2 (g.sub j oj _ h2 hc)
  ·simp only[h1,if_false] at hc;simp only[h3,if_false] at hd
   exact g.dis j k oj ok c h2 h4 hne hc hd
 ·intro j oj c hj hc
  rcases hV j oj hj with⟨rfl,rfl⟩|⟨h1,h2⟩
  ·simp only[if_true] at hc ⊢; exact hc
  ·simp only[h1,if_false] at hc ⊢; exact g.sub j oj c h2 hc
 ·intro j oj c hj hc
  rcases hV j oj hj with⟨rfl,rfl⟩|⟨h1,h2⟩
  ·simp only[if_true] at hc;rw[hc];exact hhi
  ·simp only[h1,if_false] at hc;exact g.lts j oj c h2 hc
 ·intro j oj c hj hc
  rcases hV j oj hj with⟨rfl,rfl⟩|⟨h1,h2⟩
  ·simp only[if_true] at hc;rw[hc];exact hW
  ·simp only[h1,if_false] at hc;exact g.frs j oj c h2 hc
 ·intro j oj c hj hc
  rcases hV j oj hj with⟨rfl,rfl⟩|⟨h1,h2⟩
  ·simp only[if_true] at hc;rw[hc];exact .inl hlo
  ·simp only[h1,if_false] at hc;exact p.fF j oj c h2 hc
 ·intro j oj c hj hc
  rcases hV j oj hj with⟨rfl,rfl⟩|⟨h1,h2⟩
  ·simp only[if_true] at hc;rw[hc];exact .inl hlo
  ·simp only[h1,if_false] at hc;exact p.fD j oj c h2 hc
 ·intro j oj hj
  rcases hV j oj hj with⟨rfl,rfl⟩|⟨_,h2⟩
  ·exact .inl hn0
  ·exact p.ids j oj h2
structure Loose(ρ:Ren)(base:Nat)(w0 w:World)(V:View E)(φ:Foot)(W0:World)(f:Nat×Bool×AObj E.X)(b:Nat):Prop where
 at_:ρ (base+f.1)=some (b,0)
 cells:∃cs cs' e,f.2.2 = .cells cs∧w.heap[b]? = some (.cells ⟨cs'⟩ e)∧All2 (FR ρ) cs cs'
 lo:w0.heap.size≤b
 loW:W0.heap.size≤b
 hi:b<w.heap.size
 no:∀j oj,V j=some oj→¬(φ j).2 b
 id:V (base+f.1)=none
theorem lay_sound{base:Nat}{ρ0 ρ:Ren}{φ0:Foot}{V0:View E}{n0 n:Nat}{w0 w:World}{B:Nat→Nat}(hb:n0≤base):∀(l:List (Nat×Bool×AObj E.X)) (m:Mem E.X) (φ:Foot),m.next=n→m.Sep→Post W0 ρ0 φ0 V0 n0 w0 ρ φ m.get n w →
  (∀f∈l,Loose ρ base w0 w m.get φ W0 f (B f.1))→(l.map (·.1)).Nodup→(∀f∈l,∀g∈l,B f.1=B g.1→f.1=g.1) →
  ∃φ',Post W0 ρ0 φ0 V0 n0 w0 ρ φ' (layAll base l m).get n w∧(layAll base l m).Sep∧(layAll base l m).next=n ∧
   (∀i,(∀f∈l,base+f.1≠i)→(layAll base l m).get i=m.get i∧φ' i=φ i)∧(∀i o,(layAll base l m).get i=some o→∀c,(φ' i).2 c→(∃f∈l,c=B f.1)∨∃j oj,m.get j=some oj∧(φ j).2 c)
 |[],m,φ,hn,hs,p,_,_,_=>⟨φ,p,hs,hn,fun i _=>⟨rfl,rfl⟩,fun i o h c hc=>.inr ⟨i,o,h,hc⟩⟩
 |f::l,m,φ,hn,hs,p,hl,hnd,hinj=>by
  obtain⟨k,hp,o⟩:=f
  have h0:=hl (k,hp,o) (List.mem_cons_self ..)
  obtain⟨cs,cs',e,ho,hw,hc⟩:=h0.cells
  simp only at ho
  subst ho
  simp only[List.map_cons,List.nodup_cons] at hnd
  have hnone:look (base+k) m.loc=none∧look (base+k) m.tbl=none:=by
   have:=h0.id
   unfold Mem.get at this
   constructor
   ·cases hq:look (base+k) m.loc with
    |none=>rfl
    |some x=>rw[hq] at this;cases this
   ·cases hq:look (base+k) m.loc with
    |none=>rw[hq] at this;exact this
    |some x=>rw[hq] at this;cases this
  -- the memory with this one taken in
  generalize hm1:(bif hp then(⟨m.loc,(base+k,.cells cs)::m.tbl,m.next⟩:Mem E.X) else⟨(base+k,.cells cs)::m.loc,m.tbl,m.next⟩)=m1
  have hget:m1.get=View.put (E:=E) m.get (base+k) (.cells cs):=by
   rw[← hm1]
   funext j
   by_cases hj:j=base+k
   ·subst hj
    cases hp<;>simp[Mem.get,View.put,zC,hnone.1]
   ·cases hp<;>simp[Mem.get,View.put,zC,hj]
  have hsep:m1.Sep:=by
   rw[← hm1]
   intro i x y
   cases hp
   ·simp only[cond_false,zC]
    intro ha hb
    split at ha
    ·rename_i e;rw[e,hnone.2] at hb;cases hb
    ·exact hs i x y ha hb
   ·simp only[cond_true,zC]
    intro ha hb
    split at hb
    ·rename_i e;rw[e,hnone.1] at ha;cases ha
    ·exact hs i x y ha hb
  have hn1:m1.next=n:=by rw[← hm1];cases hp<;>exact hn
  have p1:=p.adopt (.cells cs) h0.id (by omega) h0.at_ ⟨rfl,fun _=>Iff.rfl,fun _=>Iff.rfl,⟨cs'⟩,e,(0,0),hw,hc,free_zero _⟩ h0.lo h0.loW h0.hi h0.no
  rw[← hget] at p1
  have hl1:∀g∈l,Loose ρ base w0 w m1.get (fun j=>if j=base+k then((· = B k),(· = B k)) else φ j) W0 g (B g.1):=by
   intro g hg
   have hg0:=hl g (List.mem_cons_of_mem _ hg)
   have hne:g.1≠k:=fun e=>hnd.1 (List.mem_map.2 ⟨g,hg,e⟩)
   refine⟨hg0.at_,hg0.cells,hg0.lo,hg0.loW,hg0.hi,?_,?_⟩
   ·intro j oj hj
    rw[hget] at hj
    by_cases ej:j=base+k
    ·simp only[ej,if_true]
     intro hc'
     exact hne (hinj g (List.mem_cons_of_mem _ hg) (k,hp,.cells cs) (List.mem_cons_self ..) hc')
    ·simp only[View.put,ej,if_false] at hj
     simp only[ej,if_false]
     exact hg0.no j oj hj
   ·rw[hget]
    have:base+g.1≠base+k:=by omega
    simp only[View.put,this,if_false]
    exact hg0.id
  obtain⟨φ',q1,q2,q3,q4,q5⟩:=lay_sound hb l m1 _ hn1 hsep p1 hl1 hnd.2 (fun a ha b hb=>hinj a (List.mem_cons_of_mem _ ha) b (List.mem_cons_of_mem _ hb))
  have hlay:layAll base ((k,hp,.cells cs)::l) m=layAll base l m1:=by rw[← hm1];rfl
  rw[hlay]
  refine⟨φ',q1,q2,q3,?_,?_⟩
  ·intro i hi
   have h1:=q4 i fun g hg=>hi g (List.mem_cons_of_mem _ hg)
   have h2:i≠base+k:=fun e=>hi (k,hp,.cells cs) (List.mem_cons_self ..) e.symm
   rw[hget] at h1
   simp only[View.put,h2,if_false] at h1
   exact h1
  ·intro i oi hi c hc'
   rcases q5 i oi hi c hc' with⟨g,hg,h⟩|⟨j,oj,hj,h⟩
   ·exact .inl ⟨g,List.mem_cons_of_mem _ hg,h⟩
   ·rw[hget] at hj
    by_cases ej:j=base+k
    ·simp only[ej,if_true] at h
     exact .inl ⟨_,List.mem_cons_self ..,h⟩
    ·simp only[View.put,ej,if_false] at hj
     simp only[ej,if_false] at h
     exact .inr ⟨j,oj,hj,h⟩
theorem cut_same{α:Type}{D:α→Prop}:∀{nc nc0 cs cs0:List α} {k:α},nc++cs=nc0++k::cs0→(∀c∈nc,¬D c)→(∀c∈cs,D c)→¬D k→(∀c∈cs0,D c)→nc=nc0++[k]∧cs=cs0
 |[],nc0,cs,cs0,k,h,_,h2,h3,_=>by
  rw[List.nil_append] at h
  exact(h3 (h2 k (by rw[h];simp))).elim
 |x::nc,[],cs,cs0,k,h,h1,h2,h3,h4=>by
  simp only[List.cons_append,List.nil_append,List.cons.injEq] at h
  obtain⟨rfl,h⟩:=h
  cases nc with
  |nil=>exact⟨rfl,by simpa using h⟩
  |cons y nc =>
   exfalso
   have:y∈cs0:=by rw[← h];simp
   exact h1 y (by simp) (h4 y this)
 |x::nc,y::nc0,cs,cs0,k,h,h1,h2,h3,h4=>by
  simp only[List.cons_append,List.cons.injEq] at h
  obtain⟨rfl,h⟩:=h
  obtain⟨e1,e2⟩:=cut_same h (fun c hc=>h1 c (List.mem_cons_of_mem _ hc)) h2 h3 h4
  exact⟨by rw[e1];rfl,e2⟩
section
variable {call:CallFn E.X}{bf:List (List Nat)}{ops:Array Oper}{il:List (Option (Nat×Bool)×IOp)}{env0:List (Nat×Value)}{m0:Mem E.X}{ρ0:Ren}{φ0:Foot}{a0:Act}{w0:World}{N:Nat}{Z:DS E.X}
def isIn(listed:Array Bool)(k:Nat):Prop:=listed.getD k false=true
structure Inv(W0:World)(bf:List (List Nat))(ops:Array Oper)(N:Nat)(m0:Mem E.X)(ρ0:Ren)(φ0:Foot)(a0:Act)(w0:World)(Z:DS E.X)(listed:Array Bool)(a:Act)(w:World)(ρ:Ren)(φ:Foot)(B:Nat→Nat)(nc cs:List Nat)(ns:List (Mem E.X))(m:Mem E.X)(ms:List (Mem E.X)):Prop where
 lsz:listed.size=ops.size
 closed:∀k i,isIn listed k→ordB bf i k=true→isIn listed i
 chain:Z.chain=nc++cs
 snaps:Z.snaps=ns++m::ms
 len:ns.length=nc.length
 len2:ms.length=cs.length
 ncs:∀c∈nc,¬isIn listed c
 css:∀c∈cs,isIn listed c
 post:Post (E:=E) W0 ρ0 φ0 m0.get m0.next w0 ρ φ m.get m.next w
 sep:m.Sep
 next:m0.next+ops.size≤m.next
 slots:∀k d v,(k,some d,v)∈Z.vals→isIn listed k→VR ρ v (a.tmps.getD d undef)
 rest:∀s,(∀k v,(k,some s,v)∈Z.vals→¬isIn listed k)→a.tmps.getD s undef=a0.tmps.getD s undef
 sz:a.tmps.size=N
 df:a.defers=[]
 loose:∀f∈Z.fls,isIn listed f.1→(∀c∈cs,ordB bf f.1 c=false)→Loose ρ m0.next w0 w m.get φ W0 f (B f.1)
 inj:∀f∈Z.fls,∀g∈Z.fls,isIn listed f.1→isIn listed g.1→(∀c∈cs,ordB bf f.1 c=false)→(∀c∈cs,ordB bf g.1 c=false)→B f.1=B g.1→f.1=g.1
 yet:∀f∈Z.fls,¬isIn listed f.1→ρ (m0.next+f.1)=none∧m.get (m0.next+f.1)=none
theorem isIn_set{listed:Array Bool}{i k:Nat}(hi:i<listed.size):isIn (listed.setIfInBounds i true) k↔(k=i∨isIn listed k):=by
 unfold isIn
 by_cases e:k=i
 ·subst e
  simp[hi]
 ·simp only[e,false_or]
  rw[Array.getD_eq_getD_getElem?,Array.getElem?_setIfInBounds]
  simp only[Ne.symm e,if_false]
  rw[Array.getD_eq_getD_getElem?]
end
end Go.AI
