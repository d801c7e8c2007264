/- A forest that words tell: parents, first and last children, neighbours; what a walk through it tells. No program is named here. -/
import Derived.Orders
namespace Go.Fo
structure Wd where
 par:Nat→Nat
 fst:Nat→Nat
 lst:Nat→Nat
 nxt:Nat→Nat
 prv:Nat→Nat
def Links(w:Wd):Nat→List Nat→Prop
 |_,[]=>True
 |p,x::r=>w.prv x=p∧w.nxt x=r.headD 0∧Links w x r
structure Inv(w:Wd)(S:List Nat)(kids:Nat→List Nat)(d:Nat→Nat):Prop where
 pos:¬0∈S
 sub:∀a,a∈S→∀b,b∈kids a→b∈S∧w.par b=a
 par:∀b,b∈S→w.par b≠0→w.par b∈S∧b∈kids (w.par b)
 nd:∀a,a∈S→(kids a).Nodup
 root:∀b,b∈S→w.par b=0→d b=0
 dep:∀b,b∈S→w.par b≠0→d b=d (w.par b)+1
 fst:∀a,a∈S→w.fst a=(kids a).headD 0
 lst:∀a,a∈S→w.lst a=(kids a).getLastD 0
 links:∀a,a∈S→Links w 0 (kids a)
inductive Un(w:Wd)(top:Nat):Nat→Prop
 |refl:Un w top top
 |up {a:Nat} (h:w.par a≠0) (t:Un w top (w.par a)):Un w top a
theorem nodup_len:∀(l S:List Nat),l.Nodup→(∀x,x∈l→x∈S)→l.length≤S.length
 |[],_,_,_=>by simp
 |a::l,S,h,hs=>by
  have h1:=List.nodup_cons.1 h
  have ha:a∈S:=hs a (by simp)
  have h2:=nodup_len l (S.erase a) h1.2 fun x hx=>by
   have hne:x≠a:=fun e=>h1.1 (e▸hx)
   exact(List.mem_erase_of_ne hne).2 (hs x (by simp[hx]))
  have h3:=List.length_erase_of_mem ha
  have h4:0<S.length:=List.length_pos_of_mem ha
  simp only[List.length_cons];omega
section
variable {w:Wd}{S:List Nat}{kids:Nat→List Nat}{d:Nat→Nat}
theorem Inv.ne0(I:Inv w S kids d){a:Nat}(h:a∈S):a≠0:=fun e=>I.pos (e▸h)
theorem Inv.path(I:Inv w S kids d):∀(k a:Nat),a∈S→d a=k→∃l:List Nat,l.length=k+1∧l.Nodup∧(∀x,x∈l→x∈S∧d x≤k):=by
 intro k
 induction k with
 |zero =>
  intro a ha hk
  refine⟨[a],by simp,by simp,fun x hx=>?_⟩
  rw[List.mem_singleton.1 hx]
  exact⟨ha,by omega⟩
 |succ k ih =>
  intro a ha hk
  by_cases h0:w.par a=0
  ·have:=I.root a ha h0;omega
  ·have h1:=I.dep a ha h0
   obtain⟨l,h2,h3,h4⟩:=ih (w.par a) (I.par a ha h0).1 (by omega)
   refine⟨a::l,by simp[h2],List.nodup_cons.2 ⟨fun hm=>?_,h3⟩,fun x hx=>?_⟩
   ·have:=(h4 a hm).2;omega
   ·rcases List.mem_cons.1 hx with rfl|hx
    ·exact⟨ha,by omega⟩
    ·exact⟨(h4 x hx).1,by have:=(h4 x hx).2;omega⟩
theorem Inv.lt(I:Inv w S kids d){a:Nat}(h:a∈S):d a<S.length:=by
 obtain⟨l,h1,h2,h3⟩:=I.path (d a) a h rfl
 have:=nodup_len l S h2 fun x hx=>(h3 x hx).1
 omega
theorem Inv.kid(I:Inv w S kids d){a b:Nat}(ha:a∈S)(hb:b∈kids a):b∈S∧w.par b=a∧w.par b≠0∧d b=d a+1:=by
 obtain⟨h1,h2⟩:=I.sub a ha b hb
 have h3:w.par b≠0:=by rw[h2];exact I.ne0 ha
 exact⟨h1,h2,h3,by rw[I.dep b h1 h3,h2]⟩
theorem Un.dep(I:Inv w S kids d){top a:Nat}(h:Un w top a)(ha:a∈S):d top≤d a∧(d top=d a→top=a):=by
 induction h with
 |refl=>exact⟨Nat.le_refl _,fun _=>rfl⟩
 |up h0 _ ih =>
  have h1:=ih (I.par _ ha h0).1
  have h2:=I.dep _ ha h0
  exact⟨by omega,fun e=>by omega⟩
theorem Un.trans{a b c:Nat}(h:Un w b c)(h':Un w a b):Un w a c:=by
 induction h with
 |refl=>exact h'
 |up h0 _ ih=>exact .up h0 ih
theorem Un.kid(I:Inv w S kids d){a b:Nat}(ha:a∈S)(hb:b∈kids a):Un w a b:=by
 obtain⟨_,h2,h3,_⟩:=I.kid ha hb
 exact .up h3 (by rw[h2];exact .refl)
theorem Un.line{a b c:Nat}(h:Un w a c)(h':Un w b c):Un w a b∨Un w b a:=by
 induction h with
 |refl=>exact .inr h'
 |up h0 t ih =>
  cases h' with
  |refl=>exact .inl (.up h0 t)
  |up _ t'=>exact ih t'
def pre(kids:Nat→List Nat):Nat→Nat→List Nat
 |0,_=>[]
 |f+1,a=>a::(kids a).flatMap (pre kids f)
theorem flatMap_congr{α β:Type}{f g:α→List β}:∀{l:List α},(∀x,x∈l→f x=g x)→l.flatMap f=l.flatMap g
 |[],_=>rfl
 |a::l,h=>by
  rw[List.flatMap_cons,List.flatMap_cons,h a (by simp),flatMap_congr fun x hx=>h x (by simp[hx])]
theorem Inv.stable(I:Inv w S kids d):∀(f f' a:Nat),a∈S→S.length≤f+d a→S.length≤f'+d a→pre kids f a=pre kids f' a
 |0,f',a,ha,h,_=>by have:=I.lt ha;omega
 |f+1,0,a,ha,_,h'=>by have:=I.lt ha;omega
 |f+1,f'+1,a,ha,h,h'=>by
  simp only[pre]
  congr 1
  refine flatMap_congr fun b hb=>?_
  obtain⟨h1,_,_,h4⟩:=I.kid ha hb
  exact I.stable f f' b h1 (by omega) (by omega)
def Pre(S:List Nat)(kids:Nat→List Nat)(a:Nat):List Nat:=pre kids S.length a
theorem Inv.pre_eq(I:Inv w S kids d){a:Nat}(ha:a∈S):Pre S kids a=a::(kids a).flatMap (Pre S kids):=by
 have h:=I.stable S.length (S.length+1) a ha (by omega) (by omega)
 unfold Pre
 rw[h];rfl
theorem Inv.below{P:Nat→Prop}(I:Inv w S kids d)(h:∀a,a∈S→(∀b,b∈kids a→P b)→P a):∀a,a∈S→P a:=by
 have key:∀n a,a∈S→S.length≤n+d a→P a:=by
  intro n
  induction n with
  |zero=>intro a ha hn;have:=I.lt ha;omega
  |succ n ih =>
   intro a ha hn
   refine h a ha fun b hb=>?_
   obtain⟨h1,_,_,h4⟩:=I.kid ha hb
   exact ih b h1 (by omega)
 exact fun a ha=>key S.length a ha (by omega)
theorem Inv.mem_pre(I:Inv w S kids d):∀a,a∈S→∀x,x∈Pre S kids a↔(x∈S∧Un w a x):=by
 refine I.below fun a ha ih x=>?_
 rw[I.pre_eq ha,List.mem_cons,List.mem_flatMap]
 constructor
 ·rintro(rfl|⟨b,hb,hx⟩)
  ·exact⟨ha,.refl⟩
  ·obtain⟨h1,h2⟩:=(ih b hb x).1 hx
   exact⟨h1,h2.trans (Un.kid I ha hb)⟩
 ·rintro⟨hx,hu⟩
  by_cases he:x=a
  ·exact .inl he
  ·refine .inr ?_
   -- the last step ahead of a
   have key:∀x,Un w a x→x∈S→x≠a→∃b,b∈kids a∧Un w b x:=by
    intro x hu
    induction hu with
    |refl=>intro _ hne;exact absurd rfl hne
    |up h0 t ih2 =>
     intro hx hne
     rename_i y
     by_cases hp:w.par y=a
     ·exact⟨y,hp▸(I.par y hx h0).2,.refl⟩
     ·obtain⟨b,hb,hu⟩:=ih2 (I.par y hx h0).1 hp
      exact⟨b,hb,.up h0 hu⟩
   obtain⟨b,hb,hub⟩:=key x hu hx he
   exact⟨b,hb,(ih b hb x).2 ⟨hx,hub⟩⟩
theorem Inv.one_kid(I:Inv w S kids d){a b c x:Nat}(ha:a∈S)(hb:b∈kids a)(hc:c∈kids a)(h:Un w b x)(h':Un w c x):b=c:=by
 obtain⟨b1,_,_,b4⟩:=I.kid ha hb
 obtain⟨c1,_,_,c4⟩:=I.kid ha hc
 rcases h.line h' with q|q
 ·exact(q.dep I c1).2 (by omega)
 ·exact((q.dep I b1).2 (by omega)).symm
theorem nodup_flatMap{f:Nat→List Nat}:∀{l:List Nat},l.Nodup→(∀a,a∈l→(f a).Nodup)→(∀a b x,a∈l→b∈l→x∈f a→x∈f b→a=b)→(l.flatMap f).Nodup
 |[],_,_,_=>by simp
 |a::l,h,h1,h2=>by
  have h0:=List.nodup_cons.1 h
  rw[List.flatMap_cons,List.nodup_append]
  refine⟨h1 a (by simp),nodup_flatMap h0.2 (fun b hb=>h1 b (by simp[hb])) (fun b c x hb hc=>h2 b c x (by simp[hb]) (by simp[hc])),fun x hx y hy e=>?_⟩
  subst e
  obtain⟨b,hb,hxb⟩:=List.mem_flatMap.1 hy
  exact h0.1 ((h2 a b x (by simp) (by simp[hb]) hx hxb)▸hb)
theorem Inv.nodup_pre(I:Inv w S kids d):∀a,a∈S→(Pre S kids a).Nodup:=by
 refine I.below fun a ha ih=>?_
 rw[I.pre_eq ha,List.nodup_cons]
 constructor
 ·intro h
  obtain⟨b,hb,hx⟩:=List.mem_flatMap.1 h
  obtain⟨b1,_,_,b4⟩:=I.kid ha hb
  have h1:=(((I.mem_pre b b1 a).1 hx).2.dep I ha).1
  omega
 ·refine nodup_flatMap (I.nd a ha) ih fun b c x hb hc hx hx'=>?_
  exact I.one_kid ha hb hc ((I.mem_pre b (I.kid ha hb).1 x).1 hx).2 ((I.mem_pre c (I.kid ha hc).1 x).1 hx').2
theorem sublist_flatMap{f:Nat→List Nat}{l:List Nat}{a:Nat}(h:a∈l):(f a).Sublist (l.flatMap f):=by
 induction l with
 |nil=>cases h
 |cons b l ih =>
  rw[List.flatMap_cons]
  rcases List.mem_cons.1 h with rfl|h
  ·exact List.sublist_append_left _ _
  ·exact(ih h).trans (List.sublist_append_right _ _)
theorem Inv.ahead(I:Inv w S kids d):∀a,a∈S→∀x,x∈Pre S kids a→x≠a→w.par x≠0∧List.Sublist [w.par x,x] (Pre S kids a):=by
 refine I.below fun a ha ih x hx hne=>?_
 rw[I.pre_eq ha] at hx ⊢
 rcases List.mem_cons.1 hx with rfl|hx
 ·exact absurd rfl hne
 obtain⟨b,hb,hxb⟩:=List.mem_flatMap.1 hx
 obtain⟨b1,b2,b3,b4⟩:=I.kid ha hb
 by_cases he:x=b
 ·subst he
  refine⟨b3,?_⟩
  rw[b2]
  exact(List.singleton_sublist.2 hx).cons_cons a
 ·obtain⟨h1,h2⟩:=ih b hb x hxb he
  exact⟨h1,(h2.trans (sublist_flatMap hb)).cons a⟩
theorem Inv.un_iff(I:Inv w S kids d){a x:Nat}(ha:a∈S)(hx:x∈S):Un w a x↔x∈Pre S kids a:=by
 rw[I.mem_pre a ha x];exact⟨fun h=>⟨hx,h⟩,fun h=>h.2⟩
theorem Un.root{r a:Nat}(h:Un w r a)(h0:w.par a=0):r=a:=by
 cases h with
 |refl=>rfl
 |up h1 _=>exact absurd h0 h1
def later(x:Nat):List Nat→List Nat
 |[]=>[]
 |y::r=>if y=x then r else later x r
theorem later_sub{x y:Nat}:∀{l:List Nat},y∈later x l→y∈l
 |[],h=>by cases h
 |z::r,h=>by
  unfold later at h
  split at h
  ·exact List.mem_cons_of_mem _ h
  ·exact List.mem_cons_of_mem _ (later_sub h)
theorem later_cons{x y:Nat}{ys:List Nat}:∀{l:List Nat},l.Nodup→later x l=y::ys→later y l=ys
 |[],_,h=>by cases h
 |z::r,hn,h=>by
  have h0:=List.nodup_cons.1 hn
  unfold later at h
  split at h
  ·subst h
   have:z≠y:=fun e=>h0.1 (by rw[e];simp)
   unfold later
   rw[if_neg this]
   unfold later
   rw[if_pos rfl]
  ·have hy:y∈r:=later_sub (by rw[h];simp)
   have:z≠y:=fun e=>h0.1 (e▸hy)
   unfold later
   rw[if_neg this]
   exact later_cons h0.2 h
theorem links_later{p x:Nat}:∀{l:List Nat},Links w p l→x∈l→w.nxt x=(later x l).headD 0
 |[],_,h=>by cases h
 |y::r,hl,h=>by
  unfold later
  by_cases e:y=x
  ·subst e;rw[if_pos rfl];exact hl.2.1
  ·rw[if_neg e]
   exact links_later hl.2.2 ((List.mem_cons.1 h).resolve_left fun h=>e h.symm)
def fol(w:Wd)(S:List Nat)(kids:Nat→List Nat)(top:Nat):Nat→Nat→List Nat
 |0,_=>[]
 |k+1,x=>if x=top then[] else(later x (kids (w.par x))).flatMap (Pre S kids)++fol w S kids top k (w.par x)
def Fol(w:Wd)(S:List Nat)(kids:Nat→List Nat)(d:Nat→Nat)(top x:Nat):List Nat:=fol w S kids top (d x+1) x
theorem fol_top{top:Nat}:Fol w S kids d top top=[]:=by
 unfold Fol fol;rw[if_pos rfl]
theorem Inv.fol_eq(I:Inv w S kids d){top x:Nat}(hx:x∈S)(hne:x≠top)(h0:w.par x≠0):Fol w S kids d top x=(later x (kids (w.par x))).flatMap (Pre S kids)++Fol w S kids d top (w.par x):=by
 have h:=I.dep x hx h0
 unfold Fol
 rw[h,fol,if_neg hne]
theorem Un.par_of{top x:Nat}(h:Un w top x)(hne:x≠top):w.par x≠0∧Un w top (w.par x):=by
 cases h with
 |refl=>exact absurd rfl hne
 |up h t=>exact⟨h,t⟩
theorem Inv.down_kid(I:Inv w S kids d){top x y:Nat}{ys:List Nat}(hx:x∈S)(hu:Un w top x)(hk:kids x=y::ys) :
  y∈S∧Un w top y∧(kids x).flatMap (Pre S kids)++Fol w S kids d top x=Pre S kids y++Fol w S kids d top y:=by
 have hy:y∈kids x:=by rw[hk];simp
 obtain⟨y1,y2,y3,y4⟩:=I.kid hx hy
 have huy:Un w top y:=.up y3 (by rw[y2];exact hu)
 have hne:y≠top:=fun e=>by
  have:=(hu.dep I hx).1;rw[← e] at this;omega
 refine⟨y1,huy,?_⟩
 rw[I.fol_eq y1 hne y3,y2,hk]
 have:later y (y::ys)=ys:=by unfold later;rw[if_pos rfl]
 rw[this,List.flatMap_cons,List.append_assoc]
theorem Inv.down_next(I:Inv w S kids d){top x y:Nat}{ys:List Nat}(hx:x∈S)(hu:Un w top x)(hne:x≠top)(hl:later x (kids (w.par x))=y::ys) :
  y∈S∧Un w top y∧Fol w S kids d top x=Pre S kids y++Fol w S kids d top y:=by
 obtain⟨h0,hup⟩:=hu.par_of hne
 have hp:=(I.par x hx h0).1
 have hy:y∈kids (w.par x):=later_sub (x:=x) (by rw[hl];simp)
 obtain⟨y1,y2,y3,y4⟩:=I.kid hp hy
 have huy:Un w top y:=.up y3 (by rw[y2];exact hup)
 have hny:y≠top:=fun e=>by
  have:=(hup.dep I hp).1;rw[← e] at this;omega
 refine⟨y1,huy,?_⟩
 rw[I.fol_eq hx hne h0,I.fol_eq y1 hny y3,y2,hl,later_cons (I.nd _ hp) hl,List.flatMap_cons,List.append_assoc]
theorem Inv.down_up(I:Inv w S kids d){top x:Nat}(hx:x∈S)(hu:Un w top x)(hne:x≠top)(hl:later x (kids (w.par x))=[]) :
  w.par x∈S∧Un w top (w.par x)∧d (w.par x)<d x∧Fol w S kids d top x=Fol w S kids d top (w.par x):=by
 obtain⟨h0,hup⟩:=hu.par_of hne
 have:=I.dep x hx h0
 refine⟨(I.par x hx h0).1,hup,by omega,?_⟩
 rw[I.fol_eq hx hne h0,hl];rfl
theorem Inv.nxt_eq(I:Inv w S kids d){x:Nat}(hx:x∈S)(h0:w.par x≠0):w.nxt x=(later x (kids (w.par x))).headD 0 :=
 links_later (I.links _ (I.par x hx h0).1) (I.par x hx h0).2
end
end Go.Fo
/- A forest that words tell, on: a child more, a child less. No program is named here. -/
namespace Go.Fo
def up(f:Nat→Nat)(a v:Nat):Nat→Nat:=fun x=>if x=a then v else f x
theorem up_same{f:Nat→Nat}{a v:Nat}:up f a v a=v:=by unfold up;rw[if_pos rfl]
theorem up_ne{f:Nat→Nat}{a v x:Nat}(h:x≠a):up f a v x=f x:=by unfold up;rw[if_neg h]
def addW(w:Wd)(p c:Nat):Wd where
 par:=up w.par c p
 fst:=if w.lst p=0 then up w.fst p c else w.fst
 lst:=up w.lst p c
 nxt:=if w.lst p=0 then up w.nxt c 0 else up (up w.nxt c 0) (w.lst p) c
 prv:=up w.prv c (w.lst p)
def addK(kids:Nat→List Nat)(p c:Nat):Nat→List Nat:=fun a=>if a=p then kids p++[c] else kids a
def cutW(w:Wd)(c:Nat):Wd where
 par:=up w.par c 0
 fst:=if w.prv c=0 then up w.fst (w.par c) (w.nxt c) else w.fst
 lst:=if w.nxt c=0 then up w.lst (w.par c) (w.prv c) else w.lst
 nxt:=up (if w.prv c=0 then w.nxt else up w.nxt (w.prv c) (w.nxt c)) c 0
 prv:=up (if w.nxt c=0 then w.prv else up w.prv (w.nxt c) (w.prv c)) c 0
def cutK(kids:Nat→List Nat)(p c:Nat):Nat→List Nat:=fun a=>if a=p then(kids p).filter (fun x=>x != c) else kids a
theorem links_congr{w w':Wd}:∀{l:List Nat} {p:Nat},Links w p l→(∀x,x∈l→w'.prv x=w.prv x∧w'.nxt x=w.nxt x)→Links w' p l
 |[],_,_,_=>trivial
 |x::r,p,h,hs=>by
  have h1:=hs x (by simp)
  exact⟨by rw[h1.1];exact h.1,by rw[h1.2];exact h.2.1,links_congr h.2.2 fun y hy=>hs y (by simp[hy])⟩
theorem getLastD_mem:∀{l:List Nat} {p:Nat},l≠[]→l.getLastD p∈l
 |[],_,h=>absurd rfl h
 |[x],_,_=>by simp
 |x::y::r,p,_=>by
  rw[List.getLastD_cons]
  exact List.mem_cons_of_mem _ (getLastD_mem (by simp))
theorem headD_mem{l:List Nat}{p:Nat}(h:l≠[]):l.headD p∈l:=by
 cases l with
 |nil=>exact absurd rfl h
 |cons x r=>simp
theorem links_snoc{w w':Wd}{c:Nat}(h2:w'.nxt c=0):∀{l:List Nat} {p:Nat},Links w p l→l.Nodup→w'.prv c=l.getLastD p→(∀x,x∈l→w'.prv x=w.prv x)→(∀x,x∈l→w'.nxt x=if x=l.getLastD p then c else w.nxt x)→Links w' p (l++[c])
 |[],p,_,_,h1,_,_=>⟨by simpa using h1,h2,trivial⟩
 |x::r,p,h,hn,h1,h3,h4=>by
  have hn':=List.nodup_cons.1 hn
  rw[List.getLastD_cons] at h1
  simp only[List.getLastD_cons] at h4
  refine⟨by rw[h3 x (by simp)];exact h.1,?_,links_snoc h2 h.2.2 hn'.2 h1 (fun y hy=>h3 y (by simp[hy])) (fun y hy=>h4 y (by simp[hy]))⟩
  rw[h4 x (by simp)]
  cases r with
  |nil=>simp
  |cons y s =>
   have hm:(y::s).getLastD x∈y::s:=getLastD_mem (by simp)
   have hne:x≠(y::s).getLastD x:=fun e=>hn'.1 (e▸hm)
   rw[if_neg hne,h.2.1];simp
section
variable {w:Wd}{S:List Nat}{kids:Nat→List Nat}{d:Nat→Nat}
theorem Inv.last0(I:Inv w S kids d){p:Nat}(hp:p∈S):(w.lst p=0↔kids p=[]):=by
 rw[I.lst p hp]
 constructor
 ·intro h
  by_cases e:kids p=[]
  ·exact e
  ·have hm:(kids p).getLastD 0∈kids p:=getLastD_mem e
   rw[h] at hm
   exact absurd (I.kid hp hm).1 I.pos
 ·intro h;rw[h];rfl
theorem Inv.add(I:Inv w S kids d){p c:Nat}(hp:p∈S)(hc:c∈S)(h0:w.par c=0)(hu:¬Un w c p):∃d',Inv (addW w p c) S (addK kids p c) d':=by
 classical
 have hcp:c≠p:=fun e=>hu (e▸.refl)
 have hnot:∀a,a∈S→¬c∈kids a:=fun a ha h=>(I.kid ha h).2.2.1 h0
 have hkid:∀a b,a∈S→b∈kids a→b≠c:=fun a b ha hb e=>hnot a ha (e▸hb)
 have hp0:=I.ne0 hp
 have hlast:kids p≠[]→w.lst p∈kids p:=fun h=>by rw[I.lst p hp];exact getLastD_mem h
 have hunp:∀b,w.par b≠0→(Un w c b↔Un w c (w.par b)):=fun b hb=>⟨fun h=>by
  cases h with
  |refl=>exact absurd h0 hb
  |up _ t=>exact t,fun h=>.up hb h⟩
 refine⟨fun x=>if Un w c x then d x+d p+1 else d x,?_⟩
 refine⟨I.pos,?_,?_,?_,?_,?_,?_,?_,?_⟩
 ·intro a ha b hb
  simp only[addK] at hb
  show b∈S∧up w.par c p b=a
  by_cases e:a=p
  ·rw[if_pos e] at hb
   rcases List.mem_append.1 hb with hb|hb
   ·have hne:=hkid p b hp hb
    exact⟨(I.kid hp hb).1,by rw[up_ne hne,e];exact(I.kid hp hb).2.1⟩
   ·rw[List.mem_singleton.1 hb]
    exact⟨hc,by rw[up_same,e]⟩
  ·rw[if_neg e] at hb
   exact⟨(I.kid ha hb).1,by rw[up_ne (hkid a b ha hb)];exact(I.kid ha hb).2.1⟩
 ·intro b hb hb0
  show up w.par c p b∈S∧b∈addK kids p c (up w.par c p b)
  change up w.par c p b≠0 at hb0
  by_cases e:b=c
  ·subst e
   rw[up_same]
   exact⟨hp,by simp[addK]⟩
  ·rw[up_ne e] at hb0 ⊢
   obtain⟨h1,h2⟩:=I.par b hb hb0
   refine⟨h1,?_⟩
   unfold addK
   split
   ·rename_i e2;rw[e2] at h2;exact List.mem_append_left _ h2
   ·exact h2
 ·intro a ha
  unfold addK
  split
  ·rw[List.nodup_append]
   exact⟨I.nd p hp,by simp,fun x hx y hy e=>hkid p x hp hx (e.trans (List.mem_singleton.1 hy))⟩
  ·exact I.nd a ha
 ·intro b hb hb0
  change up w.par c p b=0 at hb0
  have hne:b≠c:=fun e=>by rw[e,up_same] at hb0;exact hp0 hb0
  rw[up_ne hne] at hb0
  have:¬Un w c b:=fun h=>hne ((h.root hb0).symm)
  simp only[this,if_false]
  exact I.root b hb hb0
 ·intro b hb hb0
  change up w.par c p b≠0 at hb0
  show(if Un w c b then d b+d p+1 else d b)=(if Un w c (up w.par c p b) then d (up w.par c p b)+d p+1 else d (up w.par c p b))+1
  by_cases e:b=c
  ·subst e
   rw[up_same,if_pos .refl,if_neg hu,I.root b hb h0];omega
  ·rw[up_ne e] at hb0 ⊢
   have h1:=I.dep b hb hb0
   by_cases h2:Un w c b
   ·rw[if_pos h2,if_pos ((hunp b hb0).1 h2)];omega
   ·rw[if_neg h2,if_neg fun h=>h2 ((hunp b hb0).2 h)];exact h1
 ·intro a ha
  show(if w.lst p=0 then up w.fst p c else w.fst) a=(addK kids p c a).headD 0
  unfold addK
  by_cases e:a=p
  ·subst e
   rw[if_pos rfl]
   by_cases h1:w.lst a=0
   ·rw[if_pos h1,up_same,(I.last0 ha).1 h1];rfl
   ·rw[if_neg h1,I.fst a ha]
    cases hk:kids a with
    |nil=>exact absurd ((I.last0 ha).2 hk) h1
    |cons x r=>rfl
  ·rw[if_neg e,← I.fst a ha]
   split
   ·exact up_ne e
   ·rfl
 ·intro a ha
  show up w.lst p c a=(addK kids p c a).getLastD 0
  unfold addK
  by_cases e:a=p
  ·subst e;rw[if_pos rfl,up_same];simp
  ·rw[if_neg e,up_ne e];exact I.lst a ha
 ·intro a ha
  unfold addK
  by_cases e:a=p
  ·subst e
   rw[if_pos rfl]
   refine links_snoc (w:=w) ?_ (I.links a ha) (I.nd a ha) ?_ ?_ ?_
   ·show(if w.lst a=0 then up w.nxt c 0 else up (up w.nxt c 0) (w.lst a) c) c=0
    split
    ·exact up_same
    ·rename_i h1
     have:c≠w.lst a:=fun e2=>hnot a ha (e2▸hlast fun h=>h1 ((I.last0 ha).2 h))
     rw[up_ne this,up_same]
   ·show up w.prv c (w.lst a) c=_
    rw[up_same,I.lst a ha]
   ·intro x hx
    exact up_ne (hkid a x ha hx)
   ·intro x hx
    show(if w.lst a=0 then up w.nxt c 0 else up (up w.nxt c 0) (w.lst a) c) x=_
    have h1:¬w.lst a=0:=fun h=>by rw[(I.last0 ha).1 h] at hx;cases hx
    rw[if_neg h1,← I.lst a ha]
    by_cases h2:x=w.lst a
    ·rw[if_pos h2,h2,up_same]
    ·rw[if_neg h2,up_ne h2,up_ne (hkid a x ha hx)]
  ·rw[if_neg e]
   refine links_congr (I.links a ha) fun x hx=>⟨up_ne (hkid a x ha hx),?_⟩
   show(if w.lst p=0 then up w.nxt c 0 else up (up w.nxt c 0) (w.lst p) c) x=_
   split
   ·exact up_ne (hkid a x ha hx)
   ·rename_i h1
    have h2:x≠w.lst p:=fun e2=>by
     have h3:=(I.kid hp (hlast fun h=>h1 ((I.last0 hp).2 h))).2.1
     rw[← e2,(I.kid ha hx).2.1] at h3
     exact e h3
    rw[up_ne h2,up_ne (hkid a x ha hx)]
theorem links_at{w:Wd}{c:Nat}{l2:List Nat}:∀{l1:List Nat} {p:Nat},Links w p (l1++c::l2)→w.prv c=l1.getLastD p∧w.nxt c=l2.headD 0
 |[],_,h=>⟨h.1,h.2.1⟩
 |x::r,p,h=>by rw[List.getLastD_cons];exact links_at h.2.2
theorem links_cut{w w':Wd}{c:Nat}{l2:List Nat}(hn2:l2.Nodup)(h3:∀x,x∈l2→w'.nxt x=w.nxt x):∀{l1:List Nat} {p:Nat},Links w p (l1++c::l2)→l1.Nodup→(∀x,x∈l1→w'.prv x=w.prv x)→(∀x,x∈l1→w'.nxt x=if x=l1.getLastD p then l2.headD 0 else w.nxt x) →
  (∀x,x∈l2→w'.prv x=if x=l2.headD 0 then l1.getLastD p else w.prv x)→Links w' p (l1++l2)
 |[],p,h,_,_,_,h4=>by
  cases l2 with
  |nil=>trivial
  |cons y s =>
   have hn:=List.nodup_cons.1 hn2
   have hl:Links w c (y::s):=h.2.2
   refine⟨by rw[h4 y (by simp),if_pos (by simp)];rfl,by rw[h3 y (by simp)];exact hl.2.1,?_⟩
   refine links_congr hl.2.2 fun x hx=>⟨?_,h3 x (by simp[hx])⟩
   rw[h4 x (by simp[hx])]
   have:x≠(y::s).headD 0:=fun e=>hn.1 (by simpa[e] using hx)
   rw[if_neg this]
 |x::r,p,h,hn,h1,h2,h4=>by
  have hn':=List.nodup_cons.1 hn
  simp only[List.getLastD_cons] at h2 h4
  refine⟨by rw[h1 x (by simp)];exact h.1,?_,links_cut hn2 h3 h.2.2 hn'.2 (fun y hy=>h1 y (by simp[hy])) (fun y hy=>h2 y (by simp[hy])) h4⟩
  rw[h2 x (by simp)]
  cases r with
  |nil=>simp
  |cons y s =>
   have hm:(y::s).getLastD x∈y::s:=getLastD_mem (by simp)
   have hne:x≠(y::s).getLastD x:=fun e=>hn'.1 (e▸hm)
   rw[if_neg hne,h.2.1];simp
theorem filter_ne{c:Nat}:∀{l:List Nat},¬c∈l→l.filter (fun x=>x != c)=l:=fun{l} h=>by
 rw[List.filter_eq_self]
 intro x hx
 have:x≠c:=fun e=>h (e▸hx)
 simp[this]
theorem Inv.cut(I:Inv w S kids d){c:Nat}(hc:c∈S)(h0:w.par c≠0):∃d',Inv (cutW w c) S (cutK kids (w.par c) c) d':=by
 classical
 obtain⟨hp,hk⟩:=I.par c hc h0
 generalize hpe:w.par c=p at hp hk h0
 obtain⟨l1,l2,hl⟩:=List.append_of_mem hk
 have hnd:=I.nd p hp
 rw[hl,List.nodup_append,List.nodup_cons] at hnd
 obtain⟨hn1,⟨hc2,hn2⟩,hx⟩:=hnd
 have hc1:¬c∈l1:=fun h=>hx c h c (by simp) rfl
 have hfil:(kids p).filter (fun x=>x != c)=l1++l2:=by
  rw[hl,List.filter_append,filter_ne hc1]
  have:(c::l2).filter (fun x=>x != c)=l2:=by
   rw[List.filter_cons];simp[filter_ne hc2]
  rw[this]
 obtain⟨hprv,hnxt⟩:=links_at (hl▸I.links p hp)
 have hm1:∀x,x∈l1→x∈kids p:=fun x h=>by rw[hl];simp[h]
 have hm2:∀x,x∈l2→x∈kids p:=fun x h=>by rw[hl];simp[h]
 have hS:∀x,x∈kids p→x∈S∧w.par x=p:=fun x h=>⟨(I.kid hp h).1,(I.kid hp h).2.1⟩
 have hprv0:w.prv c=0↔l1=[]:=by
  rw[hprv]
  refine⟨fun h=>?_,fun h=>by rw[h];rfl⟩
  by_cases e:l1=[]
  ·exact e
  ·have hm:l1.getLastD 0∈l1:=getLastD_mem e
   rw[h] at hm
   exact absurd (hS 0 (hm1 0 hm)).1 I.pos
 have hnxt0:w.nxt c=0↔l2=[]:=by
  rw[hnxt]
  refine⟨fun h=>?_,fun h=>by rw[h];rfl⟩
  by_cases e:l2=[]
  ·exact e
  ·have hm:l2.headD 0∈l2:=headD_mem e
   rw[h] at hm
   exact absurd (hS 0 (hm2 0 hm)).1 I.pos
 have hprvm:w.prv c≠0→w.prv c∈l1:=fun h=>by rw[hprv];exact getLastD_mem fun e=>h (hprv0.2 e)
 have hnxtm:w.nxt c≠0→w.nxt c∈l2:=fun h=>by rw[hnxt];exact headD_mem fun e=>h (hnxt0.2 e)
 have hkc:∀a b,a∈S→b∈kids a→a≠p→b≠c:=fun a b ha hb hne e=>hne (by rw[←(I.kid ha hb).2.1,e,hpe])
 have hunp:∀b,b≠c→w.par b≠0→(Un w c b↔Un w c (w.par b)):=fun b hne hb=>⟨fun h=>(h.par_of hne).2,fun h=>.up hb h⟩
 refine⟨fun x=>if Un w c x then d x-d c else d x,?_⟩
 have hpar:(cutW w c).par=up w.par c 0:=rfl
 have hfst:(cutW w c).fst=if w.prv c=0 then up w.fst p (w.nxt c) else w.fst:=by rw[← hpe];rfl
 have hlst:(cutW w c).lst=if w.nxt c=0 then up w.lst p (w.prv c) else w.lst:=by rw[← hpe];rfl
 have hnx:(cutW w c).nxt=up (if w.prv c=0 then w.nxt else up w.nxt (w.prv c) (w.nxt c)) c 0:=rfl
 have hpv:(cutW w c).prv=up (if w.nxt c=0 then w.prv else up w.prv (w.nxt c) (w.prv c)) c 0:=rfl
 have hkp:cutK kids p c p=l1++l2:=by unfold cutK;rw[if_pos rfl];exact hfil
 have hkn:∀a,a≠p→cutK kids p c a=kids a:=fun a h=>by unfold cutK;rw[if_neg h]
 refine⟨I.pos,?_,?_,?_,?_,?_,?_,?_,?_⟩
 ·intro a ha b hb
  rw[hpar]
  by_cases e:a=p
  ·subst e
   rw[hkp] at hb
   have hne:b≠c:=fun e=>by
    rcases List.mem_append.1 hb with h|h
    ·exact hc1 (e▸h)
    ·exact hc2 (e▸h)
   have hb':b∈kids a:=(List.mem_append.1 hb).elim (hm1 b) (hm2 b)
   rw[up_ne hne];exact hS b hb'
  ·rw[hkn a e] at hb
   rw[up_ne (hkc a b ha hb e)]
   exact⟨(I.kid ha hb).1,(I.kid ha hb).2.1⟩
 ·intro b hb hb0
  rw[hpar] at hb0 ⊢
  have hne:b≠c:=fun e=>by rw[e,up_same] at hb0;exact hb0 rfl
  rw[up_ne hne] at hb0 ⊢
  obtain⟨h1,h2⟩:=I.par b hb hb0
  refine⟨h1,?_⟩
  by_cases e:w.par b=p
  ·rw[e,hkp]
   rw[e,hl] at h2
   rcases List.mem_append.1 h2 with h|h
   ·exact List.mem_append_left _ h
   ·exact List.mem_append_right _ ((List.mem_cons.1 h).resolve_left hne)
  ·rw[hkn _ e];exact h2
 ·intro a ha
  by_cases e:a=p
  ·rw[e,hkp,List.nodup_append]
   exact⟨hn1,hn2,fun x h y h'=>hx x h y (by simp[h'])⟩
  ·rw[hkn a e];exact I.nd a ha
 ·intro b hb hb0
  rw[hpar] at hb0
  by_cases e:b=c
  ·subst e;simp only[Un.refl,if_true];omega
  ·rw[up_ne e] at hb0
   have:¬Un w c b:=fun h=>e (h.root hb0).symm
   simp only[this,if_false];exact I.root b hb hb0
 ·intro b hb hb0
  rw[hpar] at hb0 ⊢
  have hne:b≠c:=fun e=>by rw[e,up_same] at hb0;exact hb0 rfl
  rw[up_ne hne] at hb0 ⊢
  have h1:=I.dep b hb hb0
  by_cases h2:Un w c b
  ·have h3:=(hunp b hne hb0).1 h2
   have h4:=(h3.dep I (I.par b hb hb0).1).1
   simp only[h2,h3,if_true];omega
  ·have h3:¬Un w c (w.par b):=fun h=>h2 ((hunp b hne hb0).2 h)
   simp only[h2,h3,if_false];exact h1
 ·intro a ha
  rw[hfst]
  by_cases e:a=p
  ·subst e
   rw[hkp]
   by_cases h1:w.prv c=0
   ·rw[if_pos h1,up_same,hprv0.1 h1,hnxt];rfl
   ·rw[if_neg h1,I.fst a ha,hl]
    cases l1 with
    |nil=>exact absurd (hprv0.2 rfl) h1
    |cons x r=>rfl
  ·rw[hkn a e,← I.fst a ha]
   split
   ·exact up_ne e
   ·rfl
 ·intro a ha
  rw[hlst]
  by_cases e:a=p
  ·subst e
   rw[hkp]
   by_cases h1:w.nxt c=0
   ·rw[if_pos h1,up_same,hnxt0.1 h1,hprv,List.append_nil]
   ·rw[if_neg h1,I.lst a ha,hl]
    cases l2 with
    |nil=>exact absurd (hnxt0.2 rfl) h1
    |cons y s=>simp
  ·rw[hkn a e,← I.lst a ha]
   split
   ·exact up_ne e
   ·rfl
 ·intro a ha
  by_cases e:a=p
  ·subst e
   rw[hkp]
   have hne1:∀x,x∈l1→x≠c:=fun x h e=>hc1 (e▸h)
   have hne2:∀x,x∈l2→x≠c:=fun x h e=>hc2 (e▸h)
   refine links_cut (w:=w) (c:=c) hn2 ?_ (hl▸I.links a ha) hn1 ?_ ?_ ?_
   ·intro x h
    rw[hnx,up_ne (hne2 x h)]
    split
    ·rfl
    ·rename_i h1
     exact up_ne fun e2=>hx _ (hprvm h1) x (by simp[h]) e2.symm
   ·intro x h
    rw[hpv,up_ne (hne1 x h)]
    split
    ·rfl
    ·rename_i h1
     exact up_ne fun e2=>hx x h _ (by simp[hnxtm h1]) e2
   ·intro x h
    have h1:¬w.prv c=0:=fun h1=>by rw[hprv0.1 h1] at h;cases h
    rw[hnx,up_ne (hne1 x h),if_neg h1,← hprv,← hnxt]
    by_cases h2:x=w.prv c
    ·rw[if_pos h2,h2,up_same]
    ·rw[if_neg h2,up_ne h2]
   ·intro x h
    have h1:¬w.nxt c=0:=fun h1=>by rw[hnxt0.1 h1] at h;cases h
    rw[hpv,up_ne (hne2 x h),if_neg h1,← hprv,← hnxt]
    by_cases h2:x=w.nxt c
    ·rw[if_pos h2,h2,up_same]
    ·rw[if_neg h2,up_ne h2]
  ·rw[hkn a e]
   refine links_congr (I.links a ha) fun x h=>?_
   have hne:=hkc a x ha h e
   have hnp:¬x∈kids p:=fun h2=>e (by rw[←(I.kid ha h).2.1,(hS x h2).2])
   rw[hpv,hnx,up_ne hne,up_ne hne]
   constructor
   ·split
    ·rfl
    ·rename_i h1
     exact up_ne fun e2=>hnp (e2▸hm2 _ (hnxtm h1))
   ·split
    ·rfl
    ·rename_i h1
     exact up_ne fun e2=>hnp (e2▸hm1 _ (hprvm h1))
end
end Go.Fo
/- A forest that words tell, on: places within what is told;how often each is told. No program is named here. -/
namespace Go.Fo
def told(w:Wd)(S:List Nat)(kids:Nat→List Nat)(x:Nat):List Nat→Nat
 |[]=>0
 |a::r=>(if w.par a=0 then(Pre S kids a).count x else 0)+told w S kids x r
section
variable {w:Wd}{S:List Nat}{kids:Nat→List Nat}{d:Nat→Nat}
end
end Go.Fo
/- A forest that words tell, on: what is told behind one. No program is named here. -/
namespace Go.Fo
variable {w:Wd}{S:List Nat}{kids:Nat→List Nat}{d:Nat→Nat}
def Rest(w:Wd)(S:List Nat)(kids:Nat→List Nat)(d:Nat→Nat)(top x:Nat):List Nat:=(kids x).flatMap (Pre S kids)++Fol w S kids d top x
theorem Inv.pre_fol(I:Inv w S kids d){top y:Nat}(hy:y∈S):Pre S kids y++Fol w S kids d top y=y::Rest w S kids d top y:=by
 rw[I.pre_eq hy];rfl
theorem Inv.fol_step(I:Inv w S kids d){top:Nat}:∀(k b:Nat),d b≤k→b∈S→Un w top b→Fol w S kids d top b=[]∨∃y,y∈S∧Un w top y∧Fol w S kids d top b=y::Rest w S kids d top y:=by
 intro k
 induction k with
 |zero =>
  intro b hk hb hu
  by_cases e:b=top
  ·subst e;exact .inl fol_top
  ·cases hl:later b (kids (w.par b)) with
   |nil=>have:=(I.down_up hb hu e hl).2.2.1;omega
   |cons y ys =>
    obtain⟨h1,h2,h3⟩:=I.down_next hb hu e hl
    exact .inr ⟨y,h1,h2,h3.trans (I.pre_fol h1)⟩
 |succ k ih =>
  intro b hk hb hu
  by_cases e:b=top
  ·subst e;exact .inl fol_top
  ·cases hl:later b (kids (w.par b)) with
   |nil =>
    obtain⟨h1,h2,h3,h4⟩:=I.down_up hb hu e hl
    rw[h4]
    exact ih _ (by omega) h1 h2
   |cons y ys =>
    obtain⟨h1,h2,h3⟩:=I.down_next hb hu e hl
    exact .inr ⟨y,h1,h2,h3.trans (I.pre_fol h1)⟩
theorem Inv.rest_step(I:Inv w S kids d){top x:Nat}(hx:x∈S)(hu:Un w top x):Rest w S kids d top x=[]∨∃y,y∈S∧Un w top y∧Rest w S kids d top x=y::Rest w S kids d top y:=by
 cases hk:kids x with
 |nil =>
  have e:Rest w S kids d top x=Fol w S kids d top x:=by unfold Rest;rw[hk];rfl
  rw[e]
  exact I.fol_step (d x) x (Nat.le_refl _) hx hu
 |cons y ys =>
  obtain⟨h1,h2,h3⟩:=I.down_kid hx hu hk
  exact .inr ⟨y,h1,h2,h3.trans (I.pre_fol h1)⟩
theorem Inv.pre_rest(I:Inv w S kids d){top:Nat}(h:top∈S):Pre S kids top=top::Rest w S kids d top top:=by
 rw[I.pre_eq h];unfold Rest;rw[fol_top,List.append_nil]
end Go.Fo
/- All trees told, one behind the other. No program is named here. -/
namespace Go.Fo
variable {w:Wd}{S:List Nat}{kids:Nat→List Nat}{d:Nat→Nat}
def Qof(w:Wd)(S:List Nat)(kids:Nat→List Nat)(l:List Nat):List Nat:=l.flatMap fun a=>if w.par a=0 then Pre S kids a else[]
end Go.Fo
