/- A forest that words tell: parents, first and last children, neighbours; what a walk through it tells. No program is named here. -/
import Derived.Orders
noncomputable section
namespace Go.Fo
structure Wd where
 par:Nat→Nat
 fst:Nat→Nat
 lst:Nat→Nat
 nxt:Nat→Nat
 prv:Nat→Nat
def Links(w:Wd):Nat→List Nat→Prop
 |_,[]=>True
 |p,x::r=>w.prv x=p∧w.nxt x=r.headD 0∧Links w x r
structure Inv(w:Wd)(S:List Nat)(kids:Nat→List Nat)(d:Nat→Nat):Prop where
 pos:¬0∈S
 sub:∀a,a∈S→∀b,b∈kids a→b∈S∧w.par b=a
 par:∀b,b∈S→w.par b≠0→w.par b∈S∧b∈kids (w.par b)
 nd:∀a,a∈S→(kids a).Nodup
 root:∀b,b∈S→w.par b=0→d b=0
 dep:∀b,b∈S→w.par b≠0→d b=d (w.par b)+1
 fst:∀a,a∈S→w.fst a=(kids a).headD 0
 lst:∀a,a∈S→w.lst a=(kids a).getLastD 0
 links:∀a,a∈S→Links w 0 (kids a)
inductive Un(w:Wd)(top:Nat):Nat→Prop
 |refl:Un w top top
 |up {a:Nat} (h:w.par a≠0) (t:Un w top (w.par a)):Un w top a
theorem nodup_len:∀(l S:List Nat),l.Nodup→(∀x,x∈l→x∈S)→l.length≤S.length
 |[],_,_,_=>by simp
 |a::l,S,h,hs=>by
  have h1:=List.nodup_cons.1 h;have ha:a∈S:=hs a (by simp);have h2:=nodup_len l (S.erase a) h1.2 fun x hx=>by
   have hne:x≠a:=fun e=>h1.1 (e▸hx)
   exact(List.mem_erase_of_ne hne).2 (hs x (by simp[hx]))
  have h3:=List.length_erase_of_mem ha;have h4:0<S.length:=List.length_pos_of_mem ha;simp only[List.length_cons];omega
section
variable {w:Wd}{S:List Nat}{kids:Nat→List Nat}{d:Nat→Nat}
theorem Inv.ne0(I:Inv w S kids d){a:Nat}(h:a∈S):a≠0:=fun e=>I.pos (e▸h)
theorem Inv.path(I:Inv w S kids d):∀(k a:Nat),a∈S→d a=k→∃l:List Nat,l.length=k+1∧l.Nodup∧(∀x,x∈l→x∈S∧d x≤k):=by
 intro k;induction k with
 |zero =>
  intro a ha hk;refine⟨[a],by simp,by simp,fun x hx=>?_⟩;rw[List.mem_singleton.1 hx];exact⟨ha,by omega⟩
 |succ k ih =>
  intro a ha hk;by_cases h0:w.par a=0
  ·have:=I.root a ha h0;omega
  ·have h1:=I.dep a ha h0;obtain⟨l,h2,h3,h4⟩:=ih (w.par a) (I.par a ha h0).1 (by omega);refine⟨a::l,by simp[h2],List.nodup_cons.2 ⟨fun hm=>?_,h3⟩,fun x hx=>?_⟩
   ·have:=(h4 a hm).2;omega
   ·rcases List.mem_cons.1 hx with rfl|hx
    ·exact⟨ha,by omega⟩
    ·exact⟨(h4 x hx).1,by have:=(h4 x hx).2;omega⟩
theorem Inv.lt(I:Inv w S kids d){a:Nat}(h:a∈S):d a<S.length:=by
 obtain⟨l,h1,h2,h3⟩:=I.path (d a) a h rfl;have:=nodup_len l S h2 fun x hx=>(h3 x hx).1
 omega
theorem Inv.kid(I:Inv w S kids d){a b:Nat}(ha:a∈S)(hb:b∈kids a):b∈S∧w.par b=a∧w.par b≠0∧d b=d a+1:=by
 obtain⟨h1,h2⟩:=I.sub a ha b hb;have h3:w.par b≠0:=by rw[h2];exact I.ne0 ha
 exact⟨h1,h2,h3,by rw[I.dep b h1 h3,h2]⟩
theorem Un.mem(I:Inv w S kids d){top a:Nat}(h:Un w top a)(ha:a∈S):top∈S:=by
 induction h with
 |refl=>exact ha
 |up h0 _ ih=>exact ih (I.par _ ha h0).1
theorem Un.dep(I:Inv w S kids d){top a:Nat}(h:Un w top a)(ha:a∈S):d top≤d a∧(d top=d a→top=a):=by
 induction h with
 |refl=>exact⟨Nat.le_refl _,fun _=>rfl⟩
 |up h0 _ ih =>
  have h1:=ih (I.par _ ha h0).1;have h2:=I.dep _ ha h0;exact⟨by omega,fun e=>by omega⟩
theorem Un.trans{a b c:Nat}(h:Un w b c)(h':Un w a b):Un w a c:=by
 induction h with
 |refl=>exact h'
 |up h0 _ ih=>exact .up h0 ih
theorem Un.kid(I:Inv w S kids d){a b:Nat}(ha:a∈S)(hb:b∈kids a):Un w a b:=by
 obtain⟨_,h2,h3,_⟩:=I.kid ha hb;exact .up h3 (by rw[h2];exact .refl)
theorem Un.line{a b c:Nat}(h:Un w a c)(h':Un w b c):Un w a b∨Un w b a:=by
 induction h with
 |refl=>exact .inr h'
 |up h0 t ih =>
  cases h' with
  |refl=>exact .inl (.up h0 t)
  |up _ t'=>exact ih t'
def pre(kids:Nat→List Nat):Nat→Nat→List Nat
 |0,_=>[]
 |f+1,a=>a::(kids a).flatMap (pre kids f)
theorem lP{α β:Type}{f g:α→List β}:∀{l:List α},(∀x,x∈l→f x=g x)→l.flatMap f=l.flatMap g
 |[],_=>rfl
 |a::l,h=>by
  rw[List.flatMap_cons,List.flatMap_cons,h a (by simp),lP fun x hx=>h x (by simp[hx])]
theorem Inv.QT(I:Inv w S kids d):∀(f f' a:Nat),a∈S→S.length≤f+d a→S.length≤f'+d a→pre kids f a=pre kids f' a
 |0,f',a,ha,h,_=>by have:=I.lt ha;omega
 |f+1,0,a,ha,_,h'=>by have:=I.lt ha;omega
 |f+1,f'+1,a,ha,h,h'=>by
  simp only[pre];congr 1;refine lP fun b hb=>?_
  obtain⟨h1,_,_,h4⟩:=I.kid ha hb;exact I.QT f f' b h1 (by omega) (by omega)
def Pre(S:List Nat)(kids:Nat→List Nat)(a:Nat):List Nat:=pre kids S.length a
theorem Inv.OF(I:Inv w S kids d){a:Nat}(ha:a∈S):Pre S kids a=a::(kids a).flatMap (Pre S kids):=by
 have h:=I.QT S.length (S.length+1) a ha (by omega) (by omega);unfold Pre;rw[h];rfl
theorem Inv.below{P:Nat→Prop}(I:Inv w S kids d)(h:∀a,a∈S→(∀b,b∈kids a→P b)→P a):∀a,a∈S→P a:=by
 have key:∀n a,a∈S→S.length≤n+d a→P a:=by
  intro n;induction n with
  |zero=>intro a ha hn;have:=I.lt ha;omega
  |succ n ih =>
   intro a ha hn;refine h a ha fun b hb=>?_
   obtain⟨h1,_,_,h4⟩:=I.kid ha hb;exact ih b h1 (by omega)
 exact fun a ha=>key S.length a ha (by omega)
theorem Inv.Qx(I:Inv w S kids d):∀a,a∈S→∀x,x∈Pre S kids a↔(x∈S∧Un w a x):=by
 refine I.below fun a ha ih x=>?_
 rw[I.OF ha,List.mem_cons,List.mem_flatMap];constructor
 ·rintro(rfl|⟨b,hb,hx⟩)
  ·exact⟨ha,.refl⟩
  ·obtain⟨h1,h2⟩:=(ih b hb x).1 hx;exact⟨h1,h2.trans (Un.kid I ha hb)⟩
 ·rintro⟨hx,hu⟩;by_cases he:x=a
  ·exact .inl he
  ·refine .inr ?_
   -- the last step ahead of a
   have key:∀x,Un w a x→x∈S→x≠a→∃b,b∈kids a∧Un w b x:=by
    intro x hu;induction hu with
    |refl=>intro _ hne;exact absurd rfl hne
    |up h0 t ih2 =>
     intro hx hne;rename_i y;by_cases hp:w.par y=a
     ·exact⟨y,hp▸(I.par y hx h0).2,.refl⟩
     ·obtain⟨b,hb,hu⟩:=ih2 (I.par y hx h0).1 hp;exact⟨b,hb,.up h0 hu⟩
   obtain⟨b,hb,hub⟩:=key x hu hx he;exact⟨b,hb,(ih b hb x).2 ⟨hx,hub⟩⟩
theorem Inv.Q0(I:Inv w S kids d){a b c x:Nat}(ha:a∈S)(hb:b∈kids a)(hc:c∈kids a)(h:Un w b x)(h':Un w c x):b=c:=by
 obtain⟨b1,_,_,b4⟩:=I.kid ha hb;obtain⟨c1,_,_,c4⟩:=I.kid ha hc;rcases h.line h' with q|q
 ·exact(q.dep I c1).2 (by omega)
 ·exact((q.dep I b1).2 (by omega)).symm
theorem lF{f:Nat→List Nat}:∀{l:List Nat},l.Nodup→(∀a,a∈l→(f a).Nodup)→(∀a b x,a∈l→b∈l→x∈f a→x∈f b→a=b)→(l.flatMap f).Nodup
 |[],_,_,_=>by simp
 |a::l,h,h1,h2=>by
  have h0:=List.nodup_cons.1 h;rw[List.flatMap_cons,List.nodup_append];refine⟨h1 a (by simp),lF h0.2 (fun b hb=>h1 b (by simp[hb])) (fun b c x hb hc=>h2 b c x (by simp[hb]) (by simp[hc])),fun x hx y hy e=>?_⟩;subst e;obtain⟨b,hb,hxb⟩:=List.mem_flatMap.1 hy;exact h0.1 ((h2 a b x (by simp) (by simp[hb]) hx hxb)▸hb)
theorem Inv.QU(I:Inv w S kids d):∀a,a∈S→(Pre S kids a).Nodup:=by
 refine I.below fun a ha ih=>?_
 rw[I.OF ha,List.nodup_cons];constructor
 ·intro h;obtain⟨b,hb,hx⟩:=List.mem_flatMap.1 h;obtain⟨b1,_,_,b4⟩:=I.kid ha hb;have h1:=(((I.Qx b b1 a).1 hx).2.dep I ha).1;omega
 ·refine lF (I.nd a ha) ih fun b c x hb hc hx hx'=>?_
  exact I.Q0 ha hb hc ((I.Qx b (I.kid ha hb).1 x).1 hx).2 ((I.Qx c (I.kid ha hc).1 x).1 hx').2
theorem pn{f:Nat→List Nat}{l:List Nat}{a:Nat}(h:a∈l):(f a).Sublist (l.flatMap f):=by
 induction l with
 |nil=>cases h
 |cons b l ih =>
  rw[List.flatMap_cons];rcases List.mem_cons.1 h with rfl|h
  ·exact List.sublist_append_left _ _
  ·exact(ih h).trans (List.sublist_append_right _ _)
theorem Inv.a(I:Inv w S kids d):∀a,a∈S→∀x,x∈Pre S kids a→x≠a→w.par x≠0∧List.Sublist [w.par x,x] (Pre S kids a):=by
 refine I.below fun a ha ih x hx hne=>?_
 rw[I.OF ha] at hx ⊢;rcases List.mem_cons.1 hx with rfl|hx
 ·exact absurd rfl hne
 obtain⟨b,hb,hxb⟩:=List.mem_flatMap.1 hx;obtain⟨b1,b2,b3,b4⟩:=I.kid ha hb;by_cases he:x=b
 ·subst he;refine⟨b3,?_⟩;rw[b2];exact(List.singleton_sublist.2 hx).cons_cons a
 ·obtain⟨h1,h2⟩:=ih b hb x hxb he;exact⟨h1,(h2.trans (pn hb)).cons a⟩
theorem Inv.QV(I:Inv w S kids d){a x:Nat}(ha:a∈S)(hx:x∈S):Un w a x↔x∈Pre S kids a:=by
 rw[I.Qx a ha x];exact⟨fun h=>⟨hx,h⟩,fun h=>h.2⟩
theorem Un.root{r a:Nat}(h:Un w r a)(h0:w.par a=0):r=a:=by
 cases h with
 |refl=>rfl
 |up h1 _=>exact absurd h0 h1
def later(x:Nat):List Nat→List Nat
 |[]=>[]
 |y::r=>if y=x then r else later x r
theorem oC{x y:Nat}:∀{l:List Nat},y∈later x l→y∈l
 |[],h=>by cases h
 |z::r,h=>by
  unfold later at h;split at h
  ·exact List.mem_cons_of_mem _ h
  ·exact List.mem_cons_of_mem _ (oC h)
theorem qL{x y:Nat}{ys:List Nat}:∀{l:List Nat},l.Nodup→later x l=y::ys→later y l=ys
 |[],_,h=>by cases h
 |z::r,hn,h=>by
  have h0:=List.nodup_cons.1 hn;unfold later at h;split at h
  ·subst h;have:z≠y:=fun e=>h0.1 (by rw[e];simp)
   unfold later;rw[if_neg this];unfold later;rw[if_pos rfl]
  ·have hy:y∈r:=oC (by rw[h];simp);have:z≠y:=fun e=>h0.1 (e▸hy)
   unfold later;rw[if_neg this];exact qL h0.2 h
theorem oX{p x:Nat}:∀{l:List Nat},Links w p l→x∈l→w.nxt x=(later x l).headD 0
 |[],_,h=>by cases h
 |y::r,hl,h=>by
  unfold later;by_cases e:y=x
  ·subst e;rw[if_pos rfl];exact hl.2.1
  ·rw[if_neg e];exact oX hl.2.2 ((List.mem_cons.1 h).resolve_left fun h=>e h.symm)
def fol(w:Wd)(S:List Nat)(kids:Nat→List Nat)(top:Nat):Nat→Nat→List Nat
 |0,_=>[]
 |k+1,x=>if x=top then[] else(later x (kids (w.par x))).flatMap (Pre S kids)++fol w S kids top k (w.par x)
def Fol(w:Wd)(S:List Nat)(kids:Nat→List Nat)(d:Nat→Nat)(top x:Nat):List Nat:=fol w S kids top (d x+1) x
theorem fol_top{top:Nat}:Fol w S kids d top top=[]:=by
 unfold Fol fol;rw[if_pos rfl]
theorem Inv.QI(I:Inv w S kids d){top x:Nat}(hx:x∈S)(hne:x≠top)(h0:w.par x≠0):Fol w S kids d top x=(later x (kids (w.par x))).flatMap (Pre S kids)++Fol w S kids d top (w.par x):=by
 have h:=I.dep x hx h0;unfold Fol;rw[h,fol,if_neg hne]
theorem Un.QB{top x:Nat}(h:Un w top x)(hne:x≠top):w.par x≠0∧Un w top (w.par x):=by
 cases h with
 |refl=>exact absurd rfl hne
 |up h t=>exact⟨h,t⟩
theorem Inv.QW(I:Inv w S kids d){top x y:Nat}{ys:List Nat}(hx:x∈S)(hu:Un w top x)(hk:kids x=y::ys) :
  y∈S∧Un w top y∧(kids x).flatMap (Pre S kids)++Fol w S kids d top x=Pre S kids y++Fol w S kids d top y:=by
 have hy:y∈kids x:=by rw[hk];simp
 obtain⟨y1,y2,y3,y4⟩:=I.kid hx hy;have huy:Un w top y:=.up y3 (by rw[y2];exact hu);have hne:y≠top:=fun e=>by
  have:=(hu.dep I hx).1;rw[← e] at this;omega
 refine⟨y1,huy,?_⟩;rw[I.QI y1 hne y3,y2,hk];have:later y (y::ys)=ys:=by unfold later;rw[if_pos rfl]
 rw[this,List.flatMap_cons,List.append_assoc]
theorem Inv.QM(I:Inv w S kids d){top x y:Nat}{ys:List Nat}(hx:x∈S)(hu:Un w top x)(hne:x≠top)(hl:later x (kids (w.par x))=y::ys) :
  y∈S∧Un w top y∧Fol w S kids d top x=Pre S kids y++Fol w S kids d top y:=by
 obtain⟨h0,hup⟩:=hu.QB hne;have hp:=(I.par x hx h0).1;have hy:y∈kids (w.par x):=oC (x:=x) (by rw[hl];simp);obtain⟨y1,y2,y3,y4⟩:=I.kid hp hy;have huy:Un w top y:=.up y3 (by rw[y2];exact hup);have hny:y≠top:=fun e=>by
  have:=(hup.dep I hp).1;rw[← e] at this;omega
 refine⟨y1,huy,?_⟩;rw[I.QI hx hne h0,I.QI y1 hny y3,y2,hl,qL (I.nd _ hp) hl,List.flatMap_cons,List.append_assoc]
theorem Inv.down_up(I:Inv w S kids d){top x:Nat}(hx:x∈S)(hu:Un w top x)(hne:x≠top)(hl:later x (kids (w.par x))=[]) :
  w.par x∈S∧Un w top (w.par x)∧d (w.par x)<d x∧Fol w S kids d top x=Fol w S kids d top (w.par x):=by
 obtain⟨h0,hup⟩:=hu.QB hne;have:=I.dep x hx h0;refine⟨(I.par x hx h0).1,hup,by omega,?_⟩;rw[I.QI hx hne h0,hl];rfl
theorem Inv.Q1(I:Inv w S kids d){x:Nat}(hx:x∈S)(h0:w.par x≠0):w.nxt x=(later x (kids (w.par x))).headD 0 :=
 oX (I.links _ (I.par x hx h0).1) (I.par x hx h0).2
end
end Go.Fo
namespace Go.Fo
def up(f:Nat→Nat)(a v:Nat):Nat→Nat:=fun x=>if x=a then v else f x
theorem up_same{f:Nat→Nat}{a v:Nat}:up f a v a=v:=by unfold up;rw[if_pos rfl]
theorem up_ne{f:Nat→Nat}{a v x:Nat}(h:x≠a):up f a v x=f x:=by unfold up;rw[if_neg h]
def addW(w:Wd)(p c:Nat):Wd where
 par:=up w.par c p
 fst:=if w.lst p=0 then up w.fst p c else w.fst
 lst:=up w.lst p c
 nxt:=if w.lst p=0 then up w.nxt c 0 else up (up w.nxt c 0) (w.lst p) c
 prv:=up w.prv c (w.lst p)
def addK(kids:Nat→List Nat)(p c:Nat):Nat→List Nat:=fun a=>if a=p then kids p++[c] else kids a
def cutW(w:Wd)(c:Nat):Wd where
 par:=up w.par c 0
 fst:=if w.prv c=0 then up w.fst (w.par c) (w.nxt c) else w.fst
 lst:=if w.nxt c=0 then up w.lst (w.par c) (w.prv c) else w.lst
 nxt:=up (if w.prv c=0 then w.nxt else up w.nxt (w.prv c) (w.nxt c)) c 0
 prv:=up (if w.nxt c=0 then w.prv else up w.prv (w.nxt c) (w.prv c)) c 0
def cutK(kids:Nat→List Nat)(p c:Nat):Nat→List Nat:=fun a=>if a=p then(kids p).filter (fun x=>x != c) else kids a
theorem hX{w w':Wd}:∀{l:List Nat} {p:Nat},Links w p l→(∀x,x∈l→w'.prv x=w.prv x∧w'.nxt x=w.nxt x)→Links w' p l
 |[],_,_,_=>trivial
 |x::r,p,h,hs=>by
  have h1:=hs x (by simp);exact⟨by rw[h1.1];exact h.1,by rw[h1.2];exact h.2.1,hX h.2.2 fun y hy=>hs y (by simp[hy])⟩
theorem getLastD_mem:∀{l:List Nat} {p:Nat},l≠[]→l.getLastD p∈l
 |[],_,h=>absurd rfl h
 |[x],_,_=>by simp
 |x::y::r,p,_=>by
  rw[List.getLastD_cons];exact List.mem_cons_of_mem _ (getLastD_mem (by simp))
theorem sK{l:List Nat}{p:Nat}(h:l≠[]):l.headD p∈l:=by
 cases l with
 |nil=>exact absurd rfl h
 |cons x r=>simp
theorem rD{w w':Wd}{c:Nat}(h2:w'.nxt c=0):∀{l:List Nat} {p:Nat},Links w p l→l.Nodup→w'.prv c=l.getLastD p→(∀x,x∈l→w'.prv x=w.prv x)→(∀x,x∈l→w'.nxt x=if x=l.getLastD p then c else w.nxt x)→Links w' p (l++[c])
 |[],p,_,_,h1,_,_=>⟨by simpa using h1,h2,trivial⟩
 |x::r,p,h,hn,h1,h3,h4=>by
  have hn':=List.nodup_cons.1 hn;rw[List.getLastD_cons] at h1;simp only[List.getLastD_cons] at h4;refine⟨by rw[h3 x (by simp)];exact h.1,?_,rD h2 h.2.2 hn'.2 h1 (fun y hy=>h3 y (by simp[hy])) (fun y hy=>h4 y (by simp[hy]))⟩;rw[h4 x (by simp)];cases r with
  |nil=>simp
  |cons y s =>
   have hm:(y::s).getLastD x∈y::s:=getLastD_mem (by simp);have hne:x≠(y::s).getLastD x:=fun e=>hn'.1 (e▸hm)
   rw[if_neg hne,h.2.1];simp
section
variable {w:Wd}{S:List Nat}{kids:Nat→List Nat}{d:Nat→Nat}
theorem Inv.QC(I:Inv w S kids d){p:Nat}(hp:p∈S):(w.lst p=0↔kids p=[]):=by
 rw[I.lst p hp];constructor
 ·intro h;by_cases e:kids p=[]
  ·exact e
  ·have hm:(kids p).getLastD 0∈kids p:=getLastD_mem e;rw[h] at hm;exact absurd (I.kid hp hm).1 I.pos
 ·intro h;rw[h];rfl
theorem Inv.add(I:Inv w S kids d){p c:Nat}(hp:p∈S)(hc:c∈S)(h0:w.par c=0)(hu:¬Un w c p):∃d',Inv (addW w p c) S (addK kids p c) d':=by
 classical
 have hcp:c≠p:=fun e=>hu (e▸.refl)
 have hnot:∀a,a∈S→¬c∈kids a:=fun a ha h=>(I.kid ha h).2.2.1 h0
 have hkid:∀a b,a∈S→b∈kids a→b≠c:=fun a b ha hb e=>hnot a ha (e▸hb)
 have hp0:=I.ne0 hp;have hlast:kids p≠[]→w.lst p∈kids p:=fun h=>by rw[I.lst p hp];exact getLastD_mem h
 have hunp:∀b,w.par b≠0→(Un w c b↔Un w c (w.par b)):=fun b hb=>⟨fun h=>by
  cases h with
  |refl=>exact absurd h0 hb
  |up _ t=>exact t,fun h=>.up hb h⟩
 refine⟨fun x=>if Un w c x then d x+d p+1 else d x,?_⟩;refine⟨I.pos,?_,?_,?_,?_,?_,?_,?_,?_⟩
 ·intro a ha b hb;simp only[addK] at hb;show b∈S∧up w.par c p b=a;by_cases e:a=p
  ·rw[if_pos e] at hb;rcases List.mem_append.1 hb with hb|hb
   ·have hne:=hkid p b hp hb;exact⟨(I.kid hp hb).1,by rw[up_ne hne,e];exact(I.kid hp hb).2.1⟩
   ·rw[List.mem_singleton.1 hb];exact⟨hc,by rw[up_same,e]⟩
  ·rw[if_neg e] at hb;exact⟨(I.kid ha hb).1,by rw[up_ne (hkid a b ha hb)];exact(I.kid ha hb).2.1⟩
 ·intro b hb hb0;show up w.par c p b∈S∧b∈addK kids p c (up w.par c p b);change up w.par c p b≠0 at hb0;by_cases e:b=c
  ·subst e;rw[up_same];exact⟨hp,by simp[addK]⟩
  ·rw[up_ne e] at hb0 ⊢;obtain⟨h1,h2⟩:=I.par b hb hb0;refine⟨h1,?_⟩;unfold addK;split
   ·rename_i e2;rw[e2] at h2;exact List.mem_append_left _ h2
   ·exact h2
 ·intro a ha;unfold addK;split
  ·rw[List.nodup_append];exact⟨I.nd p hp,by simp,fun x hx y hy e=>hkid p x hp hx (e.trans (List.mem_singleton.1 hy))⟩
  ·exact I.nd a ha
 ·intro b hb hb0;change up w.par c p b=0 at hb0;have hne:b≠c:=fun e=>by rw[e,up_same] at hb0;exact hp0 hb0
  rw[up_ne hne] at hb0;have:¬Un w c b:=fun h=>hne ((h.root hb0).symm)
  simp only[this,if_false];exact I.root b hb hb0
 ·intro b hb hb0;change up w.par c p b≠0 at hb0;show(if Un w c b then d b+d p+1 else d b)=(if Un w c (up w.par c p b) then d (up w.par c p b)+d p+1 else d (up w.par c p b))+1;by_cases e:b=c
  ·subst e;rw[up_same,if_pos .refl,if_neg hu,I.root b hb h0];omega
  ·rw[up_ne e] at hb0 ⊢;have h1:=I.dep b hb hb0;by_cases h2:Un w c b
   ·rw[if_pos h2,if_pos ((hunp b hb0).1 h2)];omega
   ·rw[if_neg h2,if_neg fun h=>h2 ((hunp b hb0).2 h)];exact h1
 ·intro a ha;show(if w.lst p=0 then up w.fst p c else w.fst) a=(addK kids p c a).headD 0;unfold addK;by_cases e:a=p
  ·subst e;rw[if_pos rfl];by_cases h1:w.lst a=0
   ·rw[if_pos h1,up_same,(I.QC ha).1 h1];rfl
   ·rw[if_neg h1,I.fst a ha];cases hk:kids a with
    |nil=>exact absurd ((I.QC ha).2 hk) h1
    |cons x r=>rfl
  ·rw[if_neg e,← I.fst a ha];split
   ·exact up_ne e
   ·rfl
 ·intro a ha;show up w.lst p c a=(addK kids p c a).getLastD 0;unfold addK;by_cases e:a=p
  ·subst e;rw[if_pos rfl,up_same];simp
  ·rw[if_neg e,up_ne e];exact I.lst a ha
 ·intro a ha;unfold addK;by_cases e:a=p
  ·subst e;rw[if_pos rfl];refine rD (w:=w) ?_ (I.links a ha) (I.nd a ha) ?_ ?_ ?_
   ·show(if w.lst a=0 then up w.nxt c 0 else up (up w.nxt c 0) (w.lst a) c) c=0;split
    ·exact up_same
    ·rename_i h1;have:c≠w.lst a:=fun e2=>hnot a ha (e2▸hlast fun h=>h1 ((I.QC ha).2 h))
     rw[up_ne this,up_same]
   ·show up w.prv c (w.lst a) c=_;rw[up_same,I.lst a ha]
   ·intro x hx;exact up_ne (hkid a x ha hx)
   ·intro x hx;show(if w.lst a=0 then up w.nxt c 0 else up (up w.nxt c 0) (w.lst a) c) x=_;have h1:¬w.lst a=0:=fun h=>by rw[(I.QC ha).1 h] at hx;cases hx
    rw[if_neg h1,← I.lst a ha];by_cases h2:x=w.lst a
    ·rw[if_pos h2,h2,up_same]
    ·rw[if_neg h2,up_ne h2,up_ne (hkid a x ha hx)]
  ·rw[if_neg e];refine hX (I.links a ha) fun x hx=>⟨up_ne (hkid a x ha hx),?_⟩
   show(if w.lst p=0 then up w.nxt c 0 else up (up w.nxt c 0) (w.lst p) c) x=_;split
   ·exact up_ne (hkid a x ha hx)
   ·rename_i h1;have h2:x≠w.lst p:=fun e2=>by
     have h3:=(I.kid hp (hlast fun h=>h1 ((I.QC hp).2 h))).2.1;rw[← e2,(I.kid ha hx).2.1] at h3;exact e h3
    rw[up_ne h2,up_ne (hkid a x ha hx)]
theorem wC{w:Wd}{c:Nat}{l2:List Nat}:∀{l1:List Nat} {p:Nat},Links w p (l1++c::l2)→w.prv c=l1.getLastD p∧w.nxt c=l2.headD 0
 |[],_,h=>⟨h.1,h.2.1⟩
 |x::r,p,h=>by rw[List.getLastD_cons];exact wC h.2.2
theorem tL{w w':Wd}{c:Nat}{l2:List Nat}(hn2:l2.Nodup)(h3:∀x,x∈l2→w'.nxt x=w.nxt x):∀{l1:List Nat} {p:Nat},Links w p (l1++c::l2)→l1.Nodup→(∀x,x∈l1→w'.prv x=w.prv x)→(∀x,x∈l1→w'.nxt x=if x=l1.getLastD p then l2.headD 0 else w.nxt x) →
  (∀x,x∈l2→w'.prv x=if x=l2.headD 0 then l1.getLastD p else w.prv x)→Links w' p (l1++l2)
 |[],p,h,_,_,_,h4=>by
  cases l2 with
  |nil=>trivial
  |cons y s =>
   have hn:=List.nodup_cons.1 hn2;have hl:Links w c (y::s):=h.2.2;refine⟨by rw[h4 y (by simp),if_pos (by simp)];rfl,by rw[h3 y (by simp)];exact hl.2.1,?_⟩;refine hX hl.2.2 fun x hx=>⟨?_,h3 x (by simp[hx])⟩
   rw[h4 x (by simp[hx])];have:x≠(y::s).headD 0:=fun e=>hn.1 (by simpa[e] using hx)
   rw[if_neg this]
 |x::r,p,h,hn,h1,h2,h4=>by
  have hn':=List.nodup_cons.1 hn;simp only[List.getLastD_cons] at h2 h4;refine⟨by rw[h1 x (by simp)];exact h.1,?_,tL hn2 h3 h.2.2 hn'.2 (fun y hy=>h1 y (by simp[hy])) (fun y hy=>h2 y (by simp[hy])) h4⟩;rw[h2 x (by simp)];cases r with
  |nil=>simp
  |cons y s =>
   have hm:(y::s).getLastD x∈y::s:=getLastD_mem (by simp);have hne:x≠(y::s).getLastD x:=fun e=>hn'.1 (e▸hm)
   rw[if_neg hne,h.2.1];simp
theorem tt{c:Nat}:∀{l:List Nat},¬c∈l→l.filter (fun x=>x != c)=l:=fun{l} h=>by
 rw[List.filter_eq_self];intro x hx;have:x≠c:=fun e=>h (e▸hx)
 simp[this]
theorem Inv.cut(I:Inv w S kids d){c:Nat}(hc:c∈S)(h0:w.par c≠0):∃d',Inv (cutW w c) S (cutK kids (w.par c) c) d':=by
 classical
 obtain⟨hp,hk⟩:=I.par c hc h0;generalize hpe:w.par c=p at hp hk h0;obtain⟨l1,l2,hl⟩:=List.append_of_mem hk;have hnd:=I.nd p hp;rw[hl,List.nodup_append,List.nodup_cons] at hnd;obtain⟨hn1,⟨hc2,hn2⟩,hx⟩:=hnd;have hc1:¬c∈l1:=fun h=>hx c h c (by simp) rfl
 have hfil:(kids p).filter (fun x=>x != c)=l1++l2:=by
  rw[hl,List.filter_append,tt hc1];have:(c::l2).filter (fun x=>x != c)=l2:=by
   rw[List.filter_cons];simp[tt hc2]
  rw[this]
 obtain⟨hprv,hnxt⟩:=wC (hl▸I.links p hp);have hm1:∀x,x∈l1→x∈kids p:=fun x h=>by rw[hl];simp[h]
 have hm2:∀x,x∈l2→x∈kids p:=fun x h=>by rw[hl];simp[h]
 have hS:∀x,x∈kids p→x∈S∧w.par x=p:=fun x h=>⟨(I.kid hp h).1,(I.kid hp h).2.1⟩
 have hprv0:w.prv c=0↔l1=[]:=by
  rw[hprv];refine⟨fun h=>?_,fun h=>by rw[h];rfl⟩;by_cases e:l1=[]
  ·exact e
  ·have hm:l1.getLastD 0∈l1:=getLastD_mem e;rw[h] at hm;exact absurd (hS 0 (hm1 0 hm)).1 I.pos
 have hnxt0:w.nxt c=0↔l2=[]:=by
  rw[hnxt];refine⟨fun h=>?_,fun h=>by rw[h];rfl⟩;by_cases e:l2=[]
  ·exact e
  ·have hm:l2.headD 0∈l2:=sK e;rw[h] at hm;exact absurd (hS 0 (hm2 0 hm)).1 I.pos
 have hprvm:w.prv c≠0→w.prv c∈l1:=fun h=>by rw[hprv];exact getLastD_mem fun e=>h (hprv0.2 e)
 have hnxtm:w.nxt c≠0→w.nxt c∈l2:=fun h=>by rw[hnxt];exact sK fun e=>h (hnxt0.2 e)
 have hkc:∀a b,a∈S→b∈kids a→a≠p→b≠c:=fun a b ha hb hne e=>hne (by rw[←(I.kid ha hb).2.1,e,hpe])
 have hunp:∀b,b≠c→w.par b≠0→(Un w c b↔Un w c (w.par b)):=fun b hne hb=>⟨fun h=>(h.QB hne).2,fun h=>.up hb h⟩
 refine⟨fun x=>if Un w c x then d x-d c else d x,?_⟩;have hpar:(cutW w c).par=up w.par c 0:=rfl;have hfst:(cutW w c).fst=if w.prv c=0 then up w.fst p (w.nxt c) else w.fst:=by rw[← hpe];rfl
 have hlst:(cutW w c).lst=if w.nxt c=0 then up w.lst p (w.prv c) else w.lst:=by rw[← hpe];rfl
 have hnx:(cutW w c).nxt=up (if w.prv c=0 then w.nxt else up w.nxt (w.prv c) (w.nxt c)) c 0:=rfl;have hpv:(cutW w c).prv=up (if w.nxt c=0 then w.prv else up w.prv (w.nxt c) (w.prv c)) c 0:=rfl;have hkp:cutK kids p c p=l1++l2:=by unfold cutK;rw[if_pos rfl];exact hfil
 have hkn:∀a,a≠p→cutK kids p c a=kids a:=fun a h=>by unfold cutK;rw[if_neg h]
 refine⟨I.pos,?_,?_,?_,?_,?_,?_,?_,?_⟩
 ·intro a ha b hb;rw[hpar];by_cases e:a=p
  ·subst e;rw[hkp] at hb;have hne:b≠c:=fun e=>by
    rcases List.mem_append.1 hb with h|h
    ·exact hc1 (e▸h)
    ·exact hc2 (e▸h)
   have hb':b∈kids a:=(List.mem_append.1 hb).elim (hm1 b) (hm2 b);rw[up_ne hne];exact hS b hb'
  ·rw[hkn a e] at hb;rw[up_ne (hkc a b ha hb e)];exact⟨(I.kid ha hb).1,(I.kid ha hb).2.1⟩
 ·intro b hb hb0;rw[hpar] at hb0 ⊢;have hne:b≠c:=fun e=>by rw[e,up_same] at hb0;exact hb0 rfl
  rw[up_ne hne] at hb0 ⊢;obtain⟨h1,h2⟩:=I.par b hb hb0;refine⟨h1,?_⟩;by_cases e:w.par b=p
  ·rw[e,hkp];rw[e,hl] at h2;rcases List.mem_append.1 h2 with h|h
   ·exact List.mem_append_left _ h
   ·exact List.mem_append_right _ ((List.mem_cons.1 h).resolve_left hne)
  ·rw[hkn _ e];exact h2
 ·intro a ha;by_cases e:a=p
  ·rw[e,hkp,List.nodup_append];exact⟨hn1,hn2,fun x h y h'=>hx x h y (by simp[h'])⟩
  ·rw[hkn a e];exact I.nd a ha
 ·intro b hb hb0;rw[hpar] at hb0;by_cases e:b=c
  ·subst e;simp only[Un.refl,if_true];omega
  ·rw[up_ne e] at hb0;have:¬Un w c b:=fun h=>e (h.root hb0).symm
   simp only[this,if_false];exact I.root b hb hb0
 ·intro b hb hb0;rw[hpar] at hb0 ⊢;have hne:b≠c:=fun e=>by rw[e,up_same] at hb0;exact hb0 rfl
  rw[up_ne hne] at hb0 ⊢;have h1:=I.dep b hb hb0;by_cases h2:Un w c b
  ·have h3:=(hunp b hne hb0).1 h2;have h4:=(h3.dep I (I.par b hb hb0).1).1;simp only[h2,h3,if_true];omega
  ·have h3:¬Un w c (w.par b):=fun h=>h2 ((hunp b hne hb0).2 h)
   simp only[h2,h3,if_false];exact h1
 ·intro a ha;rw[hfst];by_cases e:a=p
  ·subst e;rw[hkp];by_cases h1:w.prv c=0
   ·rw[if_pos h1,up_same,hprv0.1 h1,hnxt];rfl
   ·rw[if_neg h1,I.fst a ha,hl];cases l1 with
    |nil=>exact absurd (hprv0.2 rfl) h1
    |cons x r=>rfl
  ·rw[hkn a e,← I.fst a ha];split
   ·exact up_ne e
   ·rfl
 ·intro a ha;rw[hlst];by_cases e:a=p
  ·subst e;rw[hkp];by_cases h1:w.nxt c=0
   ·rw[if_pos h1,up_same,hnxt0.1 h1,hprv,List.append_nil]
   ·rw[if_neg h1,I.lst a ha,hl];cases l2 with
    |nil=>exact absurd (hnxt0.2 rfl) h1
    |cons y s=>simp
  ·rw[hkn a e,← I.lst a ha];split
   ·exact up_ne e
   ·rfl
 ·intro a ha;by_cases e:a=p
  ·subst e;rw[hkp];have hne1:∀x,x∈l1→x≠c:=fun x h e=>hc1 (e▸h)
   have hne2:∀x,x∈l2→x≠c:=fun x h e=>hc2 (e▸h)
   refine tL (w:=w) (c:=c) hn2 ?_ (hl▸I.links a ha) hn1 ?_ ?_ ?_
   ·intro x h;rw[hnx,up_ne (hne2 x h)];split
    ·rfl
    ·rename_i h1;exact up_ne fun e2=>hx _ (hprvm h1) x (by simp[h]) e2.symm
   ·intro x h;rw[hpv,up_ne (hne1 x h)];split
    ·rfl
    ·rename_i h1;exact up_ne fun e2=>hx x h _ (by simp[hnxtm h1]) e2
   ·intro x h;have h1:¬w.prv c=0:=fun h1=>by rw[hprv0.1 h1] at h;cases h
    rw[hnx,up_ne (hne1 x h),if_neg h1,← hprv,← hnxt];by_cases h2:x=w.prv c
    ·rw[if_pos h2,h2,up_same]
    ·rw[if_neg h2,up_ne h2]
   ·intro x h;have h1:¬w.nxt c=0:=fun h1=>by rw[hnxt0.1 h1] at h;cases h
    rw[hpv,up_ne (hne2 x h),if_neg h1,← hprv,← hnxt];by_cases h2:x=w.nxt c
    ·rw[if_pos h2,h2,up_same]
    ·rw[if_neg h2,up_ne h2]
  ·rw[hkn a e];refine hX (I.links a ha) fun x h=>?_
   have hne:=hkc a x ha h e;have hnp:¬x∈kids p:=fun h2=>e (by rw[←(I.kid ha h).2.1,(hS x h2).2])
   rw[hpv,hnx,up_ne hne,up_ne hne];constructor
   ·split
    ·rfl
    ·rename_i h1;exact up_ne fun e2=>hnp (e2▸hm2 _ (hnxtm h1))
   ·split
    ·rfl
    ·rename_i h1;exact up_ne fun e2=>hnp (e2▸hm1 _ (hprvm h1))
end
end Go.Fo
namespace Go.Fo
def HP(w:Wd)(S:List Nat)(kids:Nat→List Nat)(x:Nat):List Nat→Nat
 |[]=>0
 |a::r=>(if w.par a=0 then(Pre S kids a).count x else 0)+HP w S kids x r
section
variable {w:Wd}{S:List Nat}{kids:Nat→List Nat}{d:Nat→Nat}
end
end Go.Fo
namespace Go.Fo
variable {w:Wd}{S:List Nat}{kids:Nat→List Nat}{d:Nat→Nat}
def Rest(w:Wd)(S:List Nat)(kids:Nat→List Nat)(d:Nat→Nat)(top x:Nat):List Nat:=(kids x).flatMap (Pre S kids)++Fol w S kids d top x
theorem Inv.QD(I:Inv w S kids d){top y:Nat}(hy:y∈S):Pre S kids y++Fol w S kids d top y=y::Rest w S kids d top y:=by
 rw[I.OF hy];rfl
theorem Inv.Q2(I:Inv w S kids d){top:Nat}:∀(k b:Nat),d b≤k→b∈S→Un w top b→Fol w S kids d top b=[]∨∃y,y∈S∧Un w top y∧Fol w S kids d top b=y::Rest w S kids d top y:=by
 intro k;induction k with
 |zero =>
  intro b hk hb hu;by_cases e:b=top
  ·subst e;exact .inl fol_top
  ·cases hl:later b (kids (w.par b)) with
   |nil=>have:=(I.down_up hb hu e hl).2.2.1;omega
   |cons y ys =>
    obtain⟨h1,h2,h3⟩:=I.QM hb hu e hl;exact .inr ⟨y,h1,h2,h3.trans (I.QD h1)⟩
 |succ k ih =>
  intro b hk hb hu;by_cases e:b=top
  ·subst e;exact .inl fol_top
  ·cases hl:later b (kids (w.par b)) with
   |nil =>
    obtain⟨h1,h2,h3,h4⟩:=I.down_up hb hu e hl;rw[h4];exact ih _ (by omega) h1 h2
   |cons y ys =>
    obtain⟨h1,h2,h3⟩:=I.QM hb hu e hl;exact .inr ⟨y,h1,h2,h3.trans (I.QD h1)⟩
theorem Inv.Q3(I:Inv w S kids d){top x:Nat}(hx:x∈S)(hu:Un w top x):Rest w S kids d top x=[]∨∃y,y∈S∧Un w top y∧Rest w S kids d top x=y::Rest w S kids d top y:=by
 cases hk:kids x with
 |nil =>
  have e:Rest w S kids d top x=Fol w S kids d top x:=by unfold Rest;rw[hk];rfl
  rw[e];exact I.Q2 (d x) x (Nat.le_refl _) hx hu
 |cons y ys =>
  obtain⟨h1,h2,h3⟩:=I.QW hx hu hk;exact .inr ⟨y,h1,h2,h3.trans (I.QD h1)⟩
theorem Inv.Q4(I:Inv w S kids d){top:Nat}(h:top∈S):Pre S kids top=top::Rest w S kids d top top:=by
 rw[I.OF h];unfold Rest;rw[fol_top,List.append_nil]
end Go.Fo
namespace Go.Fo
variable {w:Wd}{S:List Nat}{kids:Nat→List Nat}{d:Nat→Nat}
end Go.Fo
namespace Go.Fo
section
variable {w w':Wd}{S:List Nat}{kids:Nat→List Nat}{d:Nat→Nat}
theorem Un.congr(h:∀x,w'.par x=w.par x){a b:Nat}(u:Un w a b):Un w' a b:=by
 induction u with
 |refl=>exact .refl
 |@up z h0 _ ih=>exact .up (by rw[h];exact h0) (by rw[h];exact ih)
theorem un_step{y z:Nat}:Un w y z↔y=z∨(w.par z≠0∧Un w y (w.par z)):=by
 constructor
 ·intro h;cases h with
  |refl=>exact .inl rfl
  |up h t=>exact .inr ⟨h,t⟩
 ·rintro(rfl|⟨h,t⟩)
  ·exact .refl
  ·exact .up h t
theorem Inv.Q5(I:Inv w S kids d){a b:Nat}(hb:b∈S)(h:Un w a b)(h':Un w b a):a=b:=by
 have ha:=h.mem I hb;have h1:=h.dep I hb;have h2:=h'.dep I ha;exact h1.2 (by omega)
theorem Inv.Qy(I:Inv w S kids d){a:Nat}(ha:a∈S)(h0:w.par a≠0):¬Un w a (w.par a):=by
 intro h;have h1:=I.dep a ha h0;have h2:=h.dep I (I.par a ha h0).1;omega
theorem addW_par{p c x:Nat}:(addW w p c).par x=if x=c then p else w.par x:=rfl
theorem cutW_par{c x:Nat}:(cutW w c).par x=if x=c then 0 else w.par x:=rfl
theorem Inv.QE(I:Inv w S kids d){p c:Nat}(hp:p∈S)(h0:w.par c=0){y z:Nat}(hz:z∈S):Un (addW w p c) y z↔Un w y z∨(Un w y p∧Un w c z):=by
 have hp0:=I.ne0 hp;constructor
 ·intro h;induction h with
  |refl=>exact .inl .refl
  |@up z h1 _ ih =>
   rw[addW_par] at h1 ih;by_cases e:z=c
   ·rw[if_pos e] at ih;rcases ih hp with h|⟨h,_⟩
    ·exact .inr ⟨h,e▸.refl⟩
    ·exact .inr ⟨h,e▸.refl⟩
   ·rw[if_neg e] at h1 ih;rcases ih (I.par z hz h1).1 with h|⟨h,h'⟩
    ·exact .inl (.up h1 h)
    ·exact .inr ⟨h,.up h1 h'⟩
 ·have low:∀{y z:Nat},Un w y z→Un (addW w p c) y z:=by
   intro y z h;induction h with
   |refl=>exact .refl
   |@up z h1 _ ih =>
    have e:z≠c:=fun e=>h1 (e▸h0)
    exact .up (by rw[addW_par,if_neg e];exact h1) (by rw[addW_par,if_neg e];exact ih)
  rintro(h|⟨h,h'⟩)
  ·exact low h
  ·have h1:Un (addW w p c) y c:=.up (by rw[addW_par,if_pos rfl];exact hp0) (by rw[addW_par,if_pos rfl];exact low h);exact(low h').trans h1
theorem Inv.Q6(I:Inv w S kids d){p c:Nat}(hp:p∈S)(h0:w.par c=0)(hu:¬Un w c p){y z:Nat}(hz:z∈S)(h1:Un w y z)(h2:Un w y p)(h3:Un w c z):False:=by
 rcases h1.line h3 with h|h
 ·have:=h.root h0;exact hu (this▸h2)
 ·exact hu (h2.trans h)
theorem Inv.QF(I:Inv w S kids d){c:Nat}(hc:c∈S)(h0:w.par c≠0){y z:Nat}(hz:z∈S):Un (cutW w c) y z↔Un w y z∧(Un w c z→Un w c y):=by
 constructor
 ·intro h;induction h with
  |refl=>exact⟨.refl,id⟩
  |@up z h1 _ ih =>
   rw[cutW_par] at h1 ih;by_cases e:z=c
   ·rw[if_pos e] at h1;exact absurd rfl h1
   ·rw[if_neg e] at h1 ih;obtain⟨q1,q2⟩:=ih (I.par z hz h1).1;refine⟨.up h1 q1,fun h=>q2 ?_⟩;rcases un_step.1 h with e'|⟨_,h⟩
    ·exact absurd e'.symm e
    ·exact h
 ·rintro⟨h,hq⟩;induction h with
  |refl=>exact .refl
  |@up z h1 h2 ih =>
   by_cases e:z=c
   ·subst e;have hy:Un w z y:=hq .refl;have:y=z:=I.Q5 hz (.up h1 h2) hy;rw[this];exact .refl
   ·refine .up (by rw[cutW_par,if_neg e];exact h1) ?_;rw[cutW_par,if_neg e];exact ih (I.par z hz h1).1 fun h=>hq (.up h1 h)
open Classical
def T(w:Wd)(S:List Nat)(own:Nat→Nat)(y:Nat):Nat:=(S.map fun z=>if Un w y z then own z else 0).sum
theorem ye{f g:Nat→Nat}:∀{l:List Nat},(∀z,z∈l→f z≤g z)→(l.map f).sum≤(l.map g).sum
 |[],_=>Nat.le_refl _
 |a::l,h=>by
  simp only[List.map_cons,List.sum_cons];have h1:=h a (by simp);have h2:=ye (l:=l) fun z hz=>h z (by simp[hz])
  omega
theorem gp{f g:Nat→Nat}{l:List Nat}(h:∀z,z∈l→f z=g z):(l.map f).sum=(l.map g).sum:=by rw[List.map_congr_left h]
theorem ux{f g:Nat→Nat}:∀{l:List Nat},(l.map fun z=>f z+g z).sum=(l.map f).sum+(l.map g).sum
 |[]=>rfl
 |a::l=>by
  simp only[List.map_cons,List.sum_cons];have:=ux (f:=f) (g:=g) (l:=l);omega
theorem sum_zero{f:Nat→Nat}{l:List Nat}(h:∀z,z∈l→f z=0):(l.map f).sum=0:=by
 rw[gp (g:=fun _=>0) h];clear h;induction l with
 |nil=>rfl
 |cons a l ih=>simp only[List.map_cons,List.sum_cons,ih]
theorem zD{f:Nat→Nat}:∀{l:List Nat} {a:Nat},a∈l→f a≤(l.map f).sum
 |b::l,a,h=>by
  simp only[List.map_cons,List.sum_cons];rcases List.mem_cons.1 h with rfl|h
  ·omega
  ·have:=zD (f:=f) h;omega
theorem AM{f g:Nat→Nat}{a:Nat}:∀{l:List Nat},l.Nodup→a∈l→(∀z,z∈l→z≠a→f z=g z)→(l.map f).sum+g a=(l.map g).sum+f a
 |b::l,hn,h,hs=>by
  have hn':=List.nodup_cons.1 hn;simp only[List.map_cons,List.sum_cons];by_cases e:a=b
  ·subst e;have:(l.map f).sum=(l.map g).sum:=gp fun z hz=>hs z (by simp[hz]) fun e=>hn'.1 (e▸hz)
   omega
  ·have h':a∈l:=(List.mem_cons.1 h).resolve_left e;have h1:=hs b (by simp) fun e'=>e e'.symm
   have h2:=AM hn'.2 h' fun z hz=>hs z (by simp[hz])
   omega
theorem Le{own:Nat→Nat}{y:Nat}(hy:y∈S):own y≤T w S own y:=by
 have:=zD (f:=fun z=>if Un w y z then own z else 0) hy;simp only[Un.refl,if_true] at this;exact this
theorem Nh{own:Nat→Nat}(hn:S.Nodup){a v y:Nat}(ha:a∈S):T w S (up own a v) y+(if Un w y a then own a else 0)=T w S own y+(if Un w y a then v else 0):=by
 have h:=AM (f:=fun z=>if Un w y z then up own a v z else 0) (g:=fun z=>if Un w y z then own z else 0) hn ha fun z _ hz=>by
  simp only[up_ne hz]
 simp only[up_same] at h;exact h
theorem Inv.Q7(I:Inv w S kids d){own:Nat→Nat}{p c y:Nat}(hp:p∈S)(h0:w.par c=0)(hu:¬Un w c p):T (addW w p c) S own y=T w S own y+if Un w y p then T w S own c else 0:=by
 have key:∀z,z∈S→(if Un (addW w p c) y z then own z else 0)=(if Un w y z then own z else 0)+(if Un w y p∧Un w c z then own z else 0):=by
  intro z hz;by_cases h1:Un w y z
  ·have h2:¬(Un w y p∧Un w c z):=fun h=>I.Q6 hp h0 hu hz h1 h.1 h.2
   rw[if_pos h1,if_neg h2,if_pos ((I.QE hp h0 hz).2 (.inl h1))];omega
  ·by_cases h2:Un w y p∧Un w c z
   ·rw[if_neg h1,if_pos h2,if_pos ((I.QE hp h0 hz).2 (.inr h2))];omega
   ·rw[if_neg h1,if_neg h2,if_neg fun h=>((I.QE hp h0 hz).1 h).elim h1 h2]
 unfold T;rw[gp key,ux];congr 1;by_cases h:Un w y p
 ·rw[if_pos h];exact gp fun z _=>by simp only[h,true_and]
 ·rw[if_neg h];exact sum_zero fun z _=>if_neg fun q=>h q.1
theorem Inv.Q8(I:Inv w S kids d){own:Nat→Nat}{c y:Nat}(hc:c∈S)(h0:w.par c≠0):T w S own y=T (cutW w c) S own y+if Un w y (w.par c) then T w S own c else 0:=by
 have key:∀z,z∈S→(if Un w y z then own z else 0)=(if Un (cutW w c) y z then own z else 0)+(if Un w y (w.par c)∧Un w c z then own z else 0):=by
  intro z hz;by_cases h1:Un w y z
  ·rw[if_pos h1];by_cases h2:Un w y (w.par c)∧Un w c z
   ·have h3:¬Un w c y:=fun h=>by
     have:Un w c (w.par c):=h2.1.trans h;exact I.Qy hc h0 this
    rw[if_pos h2,if_neg fun h=>h3 (((I.QF hc h0 hz).1 h).2 h2.2)];omega
   ·have h3:Un w c z→Un w c y:=fun h=>by
     rcases h1.line h with q|q
     ·rcases un_step.1 q with e|⟨_,q⟩
      ·rw[e];exact .refl
      ·exact absurd ⟨q,h⟩ h2
     ·exact q
    rw[if_neg h2,if_pos ((I.QF hc h0 hz).2 ⟨h1,h3⟩)];omega
  ·have h2:¬(Un w y (w.par c)∧Un w c z):=fun h=>h1 (h.2.trans (.up h0 h.1))
   rw[if_neg h1,if_neg h2,if_neg fun h=>h1 ((I.QF hc h0 hz).1 h).1]
 unfold T;rw[gp key,ux];congr 1;by_cases h:Un w y (w.par c)
 ·rw[if_pos h];exact gp fun z _=>by simp only[h,true_and]
 ·rw[if_neg h];exact sum_zero fun z _=>if_neg fun q=>h q.1
theorem PG{own:Nat→Nat}{y c:Nat}(h:Un w y c):T w S own c≤T w S own y:=by
 refine ye fun z _=>?_
 by_cases h1:Un w c z
 ·rw[if_pos h1,if_pos (h1.trans h)];exact Nat.le_refl _
 ·rw[if_neg h1];exact Nat.zero_le _
theorem Jj{own:Nat→Nat}{B y:Nat}(h:∀a,a∈S→own a≤B):T w S own y≤S.length*B:=by
 have h1:T w S own y≤(S.map fun _=>B).sum:=ye fun z hz=>by
  split
  ·exact h z hz
  ·exact Nat.zero_le _
 refine Nat.le_trans h1 (Nat.le_of_eq ?_);clear h h1;induction S with
 |nil=>simp
 |cons a l ih =>
  simp only[List.map_cons,List.sum_cons,List.length_cons,ih,Nat.succ_mul];omega
end
end Go.Fo
namespace Go.Fo
open Classical
structure LInv(w:Wd)(S:List Nat)(kids:Nat→List Nat)(d:Nat→Nat)(lm ow sm:Nat→Nat)(B:Nat):Prop where
 inv:Inv w S kids d
 own:∀a,a∈S→ow a≤B
 sum:∀a,a∈S→sm a=T w S ow a
 lim:∀a,a∈S→lm a=0∨sm a+1≤lm a
 lmB:∀a,a∈S→lm a≤4294967297
def jH(w:Wd)(sm:Nat→Nat)(a n:Nat):Nat→Nat:=fun z=>if Un w z a then sm z+n else sm z
def fS(w:Wd)(sm:Nat→Nat)(a n:Nat):Nat→Nat:=fun z=>if Un w z a then sm z-n else sm z
section
variable {w w':Wd}{S:List Nat}{kids:Nat→List Nat}{d:Nat→Nat}{lm ow sm:Nat→Nat}{B:Nat}
theorem LInv.bound(L:LInv w S kids d lm ow sm B){a:Nat}(ha:a∈S):sm a≤S.length*B:=by
 rw[L.sum a ha];exact Jj L.own
theorem LInv.more(L:LInv w S kids d lm ow sm B){C:Nat}(h:B≤C):LInv w S kids d lm ow sm C:=⟨L.inv,fun a ha=>Nat.le_trans (L.own a ha) h,L.sum,L.lim,L.lmB⟩
theorem LInv.mono(L:LInv w S kids d lm ow sm B){y c:Nat}(hc:c∈S)(h:Un w y c):sm c≤sm y:=by
 rw[L.sum c hc,L.sum y (h.mem L.inv hc)];exact PG h
theorem LInv.QX(L:LInv w S kids d lm ow sm B){a:Nat}(ha:a∈S):ow a≤sm a:=by
 rw[L.sum a ha];exact Le ha
theorem LInv.inc(L:LInv w S kids d lm ow sm B)(hn:S.Nodup){a n:Nat}(ha:a∈S)(hf:∀z,z∈S→Un w z a→lm z=0∨sm z+n+1≤lm z):LInv w S kids d lm (up ow a (ow a+n)) (jH w sm a n) (B+n):=by
 refine⟨L.inv,fun z hz=>?_,fun z hz=>?_,fun z hz=>?_,L.lmB⟩
 ·by_cases e:z=a
  ·subst e;rw[up_same];have:=L.own z hz;omega
  ·rw[up_ne e];have:=L.own z hz;omega
 ·have h:=Nh (w:=w) (own:=ow) (y:=z) hn ha (v:=ow a+n);have h2:=L.sum z hz;unfold jH;by_cases e:Un w z a
  ·rw[if_pos e] at h ⊢;rw[if_pos e] at h;omega
  ·rw[if_neg e] at h ⊢;rw[if_neg e] at h;omega
 ·unfold jH;by_cases e:Un w z a
  ·rw[if_pos e];exact(hf z hz e).imp id fun h=>h
  ·rw[if_neg e];exact L.lim z hz
theorem LInv.dec(L:LInv w S kids d lm ow sm B)(hn:S.Nodup){a n:Nat}(ha:a∈S)(h0:n≤ow a):LInv w S kids d lm (up ow a (ow a-n)) (fS w sm a n) B:=by
 refine⟨L.inv,fun z hz=>?_,fun z hz=>?_,fun z hz=>?_,L.lmB⟩
 ·by_cases e:z=a
  ·subst e;rw[up_same];have:=L.own z hz;omega
  ·rw[up_ne e];exact L.own z hz
 ·have h:=Nh (w:=w) (own:=ow) (y:=z) hn ha (v:=ow a-n);have h2:=L.sum z hz;unfold fS;by_cases e:Un w z a
  ·rw[if_pos e] at h ⊢;rw[if_pos e] at h;have h3:=L.QX ha;have h4:=L.mono ha e;omega
  ·rw[if_neg e] at h ⊢;rw[if_neg e] at h;omega
 ·unfold fS;by_cases e:Un w z a
  ·rw[if_pos e];have:=L.lim z hz;omega
  ·rw[if_neg e];exact L.lim z hz
theorem LInv.Q9(L:LInv w S kids d lm ow sm B){a v:Nat}(hv:v=0∨sm a+1≤v)(hB:v≤4294967297):LInv w S kids d (up lm a v) ow sm B:=by
 refine⟨L.inv,L.own,L.sum,fun z hz=>?_,fun z hz=>?_⟩
 ·by_cases e:z=a
  ·subst e;rw[up_same];exact hv
  ·rw[up_ne e];exact L.lim z hz
 ·by_cases e:z=a
  ·subst e;rw[up_same];exact hB
  ·rw[up_ne e];exact L.lmB z hz
theorem Inv.QJ(I:Inv w S kids d){p c:Nat}(hp:p∈S)(h0:w.par c=0){z:Nat}:Un (addW w p c) z p↔Un w z p:=by
 rw[I.QE hp h0 hp];exact⟨fun h=>h.elim id fun h=>h.1,.inl⟩
theorem Inv.QK(I:Inv w S kids d){c:Nat}(hc:c∈S)(h0:w.par c≠0){z:Nat}:Un (cutW w c) z (w.par c)↔Un w z (w.par c):=by
 rw[I.QF hc h0 (I.par c hc h0).1];exact⟨fun h=>h.1,fun h=>⟨h,fun h'=>absurd h' (I.Qy hc h0)⟩⟩
theorem LInv.add(L:LInv w S kids d lm ow sm B){p c:Nat}(hp:p∈S)(hc:c∈S)(h0:w.par c=0)(hu:¬Un w c p)(hf:∀z,z∈S→Un w z p→lm z=0∨sm z+sm c+1≤lm z) :
  ∃d',LInv (addW w p c) S (addK kids p c) d' lm ow (jH w sm p (sm c)) B:=by
 obtain⟨d',I'⟩:=L.inv.add hp hc h0 hu;refine⟨d',I',L.own,fun z hz=>?_,fun z hz=>?_,L.lmB⟩
 ·rw[L.inv.Q7 hp h0 hu,← L.sum z hz,← L.sum c hc];unfold jH;by_cases e:Un w z p
  ·rw[if_pos e,if_pos e]
  ·rw[if_neg e,if_neg e];rfl
 ·unfold jH;by_cases e:Un w z p
  ·rw[if_pos e];exact hf z hz e
  ·rw[if_neg e];exact L.lim z hz
theorem LInv.cut(L:LInv w S kids d lm ow sm B){c:Nat}(hc:c∈S)(h0:w.par c≠0) :
  ∃d',LInv (cutW w c) S (cutK kids (w.par c) c) d' lm ow (fS w sm (w.par c) (sm c)) B:=by
 obtain⟨d',I'⟩:=L.inv.cut hc h0;refine⟨d',I',L.own,fun z hz=>?_,fun z hz=>?_,L.lmB⟩
 ·have h:=L.inv.Q8 (own:=ow) (y:=z) hc h0;rw[← L.sum z hz,← L.sum c hc] at h;unfold fS;by_cases e:Un w z (w.par c)
  ·rw[if_pos e] at h ⊢; omega
  ·rw[if_neg e] at h ⊢; omega
 ·unfold fS;have:=L.lim z hz;by_cases e:Un w z (w.par c)
  ·rw[if_pos e];omega
  ·rw[if_neg e];exact this
def mvS(w:Wd)(sm:Nat→Nat)(c p:Nat):Nat→Nat:=jH (cutW w c) (fS w sm (w.par c) (sm c)) p (sm c)
theorem Inv.QG(I:Inv w S kids d){c:Nat}(hc:c∈S)(h0:w.par c≠0){y:Nat}(hy:y∈S)(hu:¬Un w c y){z:Nat}:Un (cutW w c) z y↔Un w z y:=by
 rw[I.QF hc h0 hy];exact⟨fun h=>h.1,fun h=>⟨h,fun h'=>absurd h' hu⟩⟩
theorem mvS_eq(L:LInv w S kids d lm ow sm B){c p:Nat}(hc:c∈S)(h0:w.par c≠0)(hp:p∈S)(hu:¬Un w c p){z:Nat} :
  mvS w sm c p z=(if Un w z (w.par c) then sm z-sm c else sm z)+if Un w z p then sm c else 0:=by
 unfold mvS jH fS;simp only[L.inv.QG hc h0 hp hu];by_cases e:Un w z p
 ·rw[if_pos e,if_pos e]
 ·rw[if_neg e,if_neg e];rfl
theorem LInv.QN(L:LInv w S kids d lm ow sm B){c p:Nat}(hc:c∈S)(h0:w.par c≠0)(hp:p∈S)(hu:¬Un w c p):mvS w sm c p c=sm c:=by
 rw[mvS_eq L hc h0 hp hu,if_neg (L.inv.Qy hc h0),if_neg hu];rfl
end
end Go.Fo
