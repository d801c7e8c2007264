/- A forest whose words stand in an arena: what a store does with them. No program is named here. -/
import Derived.Test.YtohdfkipbgnkoaaGreatDoorKSp
import Derived.Test.YtohdfkipbgnkoaaGreatDoorKFo
namespace Go.Fo
def chain(f:Nat→Nat):Nat→Nat→List Nat
 |0,_=>[]
 |n+1,a=>if a=0 then[] else a::chain f n (f a)
theorem pd{w:Wd}:∀{l:List Nat} {p n:Nat},Links w p l→¬0∈l→l.length≤n→chain w.nxt n (l.headD 0)=l
 |[],_,n,_,_,_=>by cases n<;>simp[chain]
 |x::r,p,0,_,_,h=>by simp at h
 |x::r,p,n+1,hl,h0,hn=>by
  have hx:x≠0:=fun e=>h0 (by simp[e])
  show(if x=0 then[] else x::chain w.nxt n (w.nxt x))=x::r;rw[if_neg hx,hl.2.1];congr 1;exact pd hl.2.2 (fun h=>h0 (by simp[h])) (by simpa using hn)
section
variable {w:Wd}{S:List Nat}{kids kids':Nat→List Nat}{d:Nat→Nat}
theorem Inv.Rd(I:Inv w S kids d){a:Nat}(ha:a∈S):chain w.nxt S.length (w.fst a)=kids a:=by
 rw[I.fst a ha];refine pd (I.links a ha) (fun h=>I.pos (I.kid ha h).1) (nodup_len _ _ (I.nd a ha) fun x hx=>(I.kid ha hx).1)
theorem Inv.congr(I:Inv w S kids d)(h:∀a,a∈S→kids' a=kids a):Inv w S kids' d where
 pos:=I.pos
 sub a ha b hb:=I.sub a ha b (by rw[← h a ha];exact hb)
 par b hb h0:=⟨(I.par b hb h0).1,by rw[h _ (I.par b hb h0).1];exact(I.par b hb h0).2⟩
 nd a ha:=by rw[h a ha];exact I.nd a ha
 root:=I.root
 dep:=I.dep
 fst a ha:=by rw[h a ha];exact I.fst a ha
 lst a ha:=by rw[h a ha];exact I.lst a ha
 links a ha:=by rw[h a ha];exact I.links a ha
end
end Go.Fo
namespace Go.AI
open Go.Fo (Wd Un Pre up chain addW addK cutW cutK)
variable {x:Ar}{S:List Nat}
structure NodeAt(x:Ar)(a:Nat):Prop where
 page:∃p P,a=4096*p∧bt x.pages p=some P
 ok:dX x (.ofNat a)=some 0
theorem sX{p P q Q o v:Nat}(hp:bt x.pages p=some P)(hq:bt x.pages q=some Q)(h2:o+8≤4096):∃R,bt (stw x (4096*q+o) v).pages p=some R:=by
 rw[xR hq h2];split
 ·exact⟨_,rfl⟩
 ·exact⟨_,hp⟩
theorem gl{p P q Q o v off k:Nat}(hp:bt x.pages p=some P)(hq:bt x.pages q=some Q)(h1:40≤o)(h2:o+8≤80)(h3:off+k≤40∨80≤off)(h4:off+k≤4096)(hk:da k=true)(hk0:0<k) :
  de (stw x (4096*q+o) v) (.ofNat (4096*p+off)) (.ofNat k)=de x (.ofNat (4096*p+off)) (.ofNat k) :=
 rk hq (by omega) hp h4 hk hk0 (.inr (by omega))
theorem GL{a b o v:Nat}(ha:NodeAt x a)(hb:NodeAt x b)(h1:40≤o)(h2:o+8≤80):NodeAt (stw x (b+o) v) a:=by
 obtain⟨⟨p,P,rfl,hp⟩,ok⟩:=ha;obtain⟨q,Q,rfl,hq⟩:=hb.page;obtain⟨R,hR⟩:=sX (v:=v) (o:=o) hp hq (by omega);refine⟨⟨p,R,rfl,hR⟩,?_⟩;have b0:bA x (.ofNat (4096*p)) (.ofNat 32)=0:=kS (off:=0) hp (by omega);have b1:bA (stw x (4096*q+o) v) (.ofNat (4096*p)) (.ofNat 32)=0:=kS (off:=0) hR (by omega);have l1:=gl (v:=v) (off:=0) (k:=4) hp hq h1 h2 (by omega) (by omega) rfl (by omega);have l2:=gl (v:=v) (off:=4) (k:=4) hp hq h1 h2 (by omega) (by omega) rfl (by omega);have l3:=gl (v:=v) (off:=8) (k:=8) hp hq h1 h2 (by omega) (by omega) rfl (by omega);have l4:=gl (v:=v) (off:=16) (k:=8) hp hq h1 h2 (by omega) (by omega) rfl (by omega);have l5:=gl (v:=v) (off:=136) (k:=8) hp hq h1 h2 (by omega) (by omega) rfl (by omega);have l6:=gl (v:=v) (off:=32) (k:=8) hp hq h1 h2 (by omega) (by omega) rfl (by omega);simp only[dX,b0,ckO,ckN,ndE,ckW] at ok;simp only[dX,b1,ckO,ckN,ndE,ckW,l1,l2,l3,l4,l5,l6];exact ok
theorem HW{b o v:Nat}(hb:NodeAt x b)(h2:o+8≤80):(stw x (b+o) v).refuse=x.refuse:=by
 obtain⟨q,Q,rfl,hq⟩:=hb.page;exact qm hq (by omega)
def wdS(x:Ar)(S:List Nat)(o a:Nat):Nat:=if a∈S then wd x (a+o) else 0
def wds(x:Ar)(S:List Nat):Wd:=⟨wdS x S 40,wdS x S 48,wdS x S 56,wdS x S 64,wdS x S 72⟩
theorem cf{o a:Nat}(h:a∈S):wdS x S o a=wd x (a+o):=if_pos h
theorem mh{a b o o' v:Nat}(ha:NodeAt x a)(hb:NodeAt x b)(h1:o+8≤4096)(h2:o'+8≤4096)(hd:a≠b∨o'+8≤o∨o+8≤o'):wd (stw x (b+o) v) (a+o')=wd x (a+o'):=by
 obtain⟨p,P,rfl,hp⟩:=ha.page;obtain⟨q,Q,rfl,hq⟩:=hb.page;exact rk hq h1 hp h2 rfl (by decide) (by omega)
theorem As{b o v:Nat}(hb:NodeAt x b)(h1:o+8≤4096)(hv:v<18446744073709551616):wd (stw x (b+o) v) (b+o)=v:=by
 obtain⟨q,Q,rfl,hq⟩:=hb.page;exact Lr hq h1 hv
theorem kj(hS:∀a,a∈S→NodeAt x a){b o v:Nat}(hb:b∈S)(h1:o+8≤4096)(hv:v<18446744073709551616):wdS (stw x (b+o) v) S o=up (wdS x S o) b v:=by
 funext a
 by_cases e:a=b
 ·subst e;rw[cf hb,Go.Fo.up_same,As (hS a hb) h1 hv]
 ·rw[Go.Fo.up_ne e];unfold wdS;split
  ·rename_i ha;exact mh (hS a ha) (hS b hb) h1 h1 (.inl e)
  ·rfl
theorem bG(hS:∀a,a∈S→NodeAt x a){b o o' v:Nat}(hb:b∈S)(h1:o+8≤4096)(h2:o'+8≤4096)(hd:o'+8≤o∨o+8≤o'):wdS (stw x (b+o) v) S o'=wdS x S o':=by
 funext a
 unfold wdS;split
 ·rename_i ha;exact mh (hS a ha) (hS b hb) h1 h2 (.inr hd)
 ·rfl
def dx(x:Ar)(S:List Nat)(a:Nat):List Nat:=chain (wds x S).nxt S.length ((wds x S).fst a)
structure TW(x:Ar)(S:List Nat):Prop where
 ref:x.refuse<9223372036854775808
 small:∀a,a∈S→a<4611686018427387904
 node:∀a,a∈S→NodeAt x a
 inv:∃d,Go.Fo.Inv (wds x S) S (dx x S) d
theorem TW.of{kids:Nat→List Nat}{d:Nat→Nat}(h1:x.refuse<9223372036854775808)(h2:∀a,a∈S→a<4611686018427387904)(h3:∀a,a∈S→NodeAt x a)(I:Go.Fo.Inv (wds x S) S kids d):TW x S :=
 ⟨h1,h2,h3,d,I.congr fun _ ha=>I.Rd ha⟩
theorem TW.pos(h:TW x S){a:Nat}(ha:a∈S):a≠0:=h.inv.elim fun _ I=>I.ne0 ha
def InS(S:List Nat)(v:Nat):Prop:=v=0∨v∈S
theorem InS.lt(hs:∀a,a∈S→a<4611686018427387904){v:Nat}(h:InS S v):v<4611686018427387904:=by
 rcases h with rfl|h
 ·decide
 ·exact hs v h
section
variable {w:Wd}{kids:Nat→List Nat}{d:Nat→Nat}
theorem InS.head{l:List Nat}(h:∀x,x∈l→x∈S):InS S (l.headD 0):=by
 cases l with
 |nil=>exact .inl rfl
 |cons a r=>exact .inr (h a (by simp))
theorem InS.last{l:List Nat}(h:∀x,x∈l→x∈S):InS S (l.getLastD 0):=by
 by_cases e:l=[]
 ·subst e;exact .inl rfl
 ·exact .inr (h _ (Go.Fo.getLastD_mem e))
theorem xH(I:Go.Fo.Inv w S kids d){a:Nat}(ha:a∈S):InS S (w.par a):=by
 by_cases e:w.par a=0
 ·exact .inl e
 ·exact .inr (I.par a ha e).1
theorem yj(I:Go.Fo.Inv w S kids d){a:Nat}(ha:a∈S):InS S (w.fst a):=by
 rw[I.fst a ha];exact .head fun x hx=>(I.kid ha hx).1
theorem mj(I:Go.Fo.Inv w S kids d){a:Nat}(ha:a∈S):InS S (w.lst a):=by
 rw[I.lst a ha];exact .last fun x hx=>(I.kid ha hx).1
theorem wD:∀{l:List Nat} {p a:Nat},Go.Fo.Links w p l→InS S p→(∀x,x∈l→x∈S)→a∈l→InS S (w.nxt a)∧InS S (w.prv a)
 |[],_,_,_,_,_,h=>by cases h
 |b::r,p,a,hl,hp,hs,h=>by
  rcases List.mem_cons.1 h with rfl|h
  ·exact⟨by rw[hl.2.1];exact .head fun x hx=>hs x (by simp[hx]),by rw[hl.1];exact hp⟩
  ·exact wD hl.2.2 (.inr (hs b (by simp))) (fun x hx=>hs x (by simp[hx])) h
theorem ju(I:Go.Fo.Inv w S kids d){a:Nat}(ha:a∈S)(h0:w.par a≠0):InS S (w.nxt a)∧InS S (w.prv a):=by
 obtain⟨h1,h2⟩:=I.par a ha h0;exact wD (I.links _ h1) (.inl rfl) (fun x hx=>(I.kid h1 hx).1) h2
end
def addX(x:Ar)(p c:Nat):Ar :=
 let l:=wd x (p+56)
 let x1:=stw x (c+40) p
 let x2:=stw x1 (c+72) l
 let x3:=stw x2 (c+64) 0
 let x4:=stw x3 (p+56) c
 if l=0 then stw x4 (p+48) c else stw x4 (l+64) c
def cutX(x:Ar)(c:Nat):Ar :=
 let p:=wd x (c+40)
 let v:=wd x (c+72)
 let n:=wd x (c+64)
 let x1:=if v=0 then stw x (p+48) n else stw x (v+64) n
 let x2:=if n=0 then stw x1 (p+56) v else stw x1 (n+72) v
 let x3:=stw x2 (c+40) 0
 let x4:=stw x3 (c+72) 0
 stw x4 (c+64) 0
structure Nds(x:Ar)(S:List Nat):Prop where
 ref:x.refuse<9223372036854775808
 node:∀a,a∈S→NodeAt x a
theorem Nds.stw(h:Nds x S){b o v:Nat}(hb:b∈S)(h1:40≤o)(h2:o+8≤80):Nds (stw x (b+o) v) S :=
 ⟨by rw[HW (h.node b hb) h2];exact h.ref,fun a ha=>GL (h.node a ha) (h.node b hb) h1 h2⟩
theorem TW.nds(h:TW x S):Nds x S:=⟨h.ref,h.node⟩
section
variable {b v:Nat}(h:Nds x S)(hb:b∈S)(hv:v<18446744073709551616)
include h hb hv
theorem Eb:wds (AI.stw x (b+40) v) S=⟨up (wds x S).par b v,(wds x S).fst,(wds x S).lst,(wds x S).nxt,(wds x S).prv⟩:=by
 simp only[wds,kj h.node hb (o:=40) (by decide) hv,bG (v:=v) h.node hb (o:=40) (o':=48) (by decide) (by decide) (by decide),bG (v:=v) h.node hb (o:=40) (o':=56) (by decide) (by decide) (by decide),bG (v:=v) h.node hb (o:=40) (o':=64) (by decide) (by decide) (by decide),bG (v:=v) h.node hb (o:=40) (o':=72) (by decide) (by decide) (by decide)]
theorem Ev:wds (AI.stw x (b+48) v) S=⟨(wds x S).par,up (wds x S).fst b v,(wds x S).lst,(wds x S).nxt,(wds x S).prv⟩:=by
 simp only[wds,kj h.node hb (o:=48) (by decide) hv,bG (v:=v) h.node hb (o:=48) (o':=40) (by decide) (by decide) (by decide),bG (v:=v) h.node hb (o:=48) (o':=56) (by decide) (by decide) (by decide),bG (v:=v) h.node hb (o:=48) (o':=64) (by decide) (by decide) (by decide),bG (v:=v) h.node hb (o:=48) (o':=72) (by decide) (by decide) (by decide)]
theorem Ej:wds (AI.stw x (b+56) v) S=⟨(wds x S).par,(wds x S).fst,up (wds x S).lst b v,(wds x S).nxt,(wds x S).prv⟩:=by
 simp only[wds,kj h.node hb (o:=56) (by decide) hv,bG (v:=v) h.node hb (o:=56) (o':=40) (by decide) (by decide) (by decide),bG (v:=v) h.node hb (o:=56) (o':=48) (by decide) (by decide) (by decide),bG (v:=v) h.node hb (o:=56) (o':=64) (by decide) (by decide) (by decide),bG (v:=v) h.node hb (o:=56) (o':=72) (by decide) (by decide) (by decide)]
theorem tS:wds (AI.stw x (b+64) v) S=⟨(wds x S).par,(wds x S).fst,(wds x S).lst,up (wds x S).nxt b v,(wds x S).prv⟩:=by
 simp only[wds,kj h.node hb (o:=64) (by decide) hv,bG (v:=v) h.node hb (o:=64) (o':=40) (by decide) (by decide) (by decide),bG (v:=v) h.node hb (o:=64) (o':=48) (by decide) (by decide) (by decide),bG (v:=v) h.node hb (o:=64) (o':=56) (by decide) (by decide) (by decide),bG (v:=v) h.node hb (o:=64) (o':=72) (by decide) (by decide) (by decide)]
theorem yx:wds (AI.stw x (b+72) v) S=⟨(wds x S).par,(wds x S).fst,(wds x S).lst,(wds x S).nxt,up (wds x S).prv b v⟩:=by
 simp only[wds,kj h.node hb (o:=72) (by decide) hv,bG (v:=v) h.node hb (o:=72) (o':=40) (by decide) (by decide) (by decide),bG (v:=v) h.node hb (o:=72) (o':=48) (by decide) (by decide) (by decide),bG (v:=v) h.node hb (o:=72) (o':=56) (by decide) (by decide) (by decide),bG (v:=v) h.node hb (o:=72) (o':=64) (by decide) (by decide) (by decide)]
end
theorem InS.Qw(hs:∀a,a∈S→a<4611686018427387904){v:Nat}(h:InS S v):v<18446744073709551616:=Nat.lt_trans (h.lt hs) (by decide)
theorem Ik(h:Nds x S)(hs:∀a,a∈S→a<4611686018427387904){p c:Nat}(hp:p∈S)(hc:c∈S)(hl:InS S (wd x (p+56))):wds (addX x p c) S=addW (wds x S) p c∧Nds (addX x p c) S:=by
 have n1:=h.stw (v:=p) hc (o:=40) (by decide) (by decide);have n2:=n1.stw (v:=wd x (p+56)) hc (o:=72) (by decide) (by decide);have n3:=n2.stw (v:=0) hc (o:=64) (by decide) (by decide);have n4:=n3.stw (v:=c) hp (o:=56) (by decide) (by decide);have e1:=Eb (v:=p) h hc (InS.Qw hs (.inr hp));have e2:=yx (v:=wd x (p+56)) n1 hc (hl.Qw hs);have e3:=tS (v:=0) n2 hc (by decide);have e4:=Ej (v:=c) n3 hp (InS.Qw hs (.inr hc));have hlp:(wds x S).lst p=wd x (p+56):=cf hp;unfold addX addW;dsimp only;rw[hlp];by_cases e:wd x (p+56)=0
 ·rw[if_pos e,if_pos e,if_pos e];refine⟨?_,n4.stw hp (by decide) (by decide)⟩;rw[Ev n4 hp (InS.Qw hs (.inr hc)),e4,e3,e2,e1]
 ·rw[if_neg e,if_neg e,if_neg e];have hls:wd x (p+56)∈S:=hl.resolve_left e;refine⟨?_,n4.stw hls (by decide) (by decide)⟩;rw[tS n4 hls (InS.Qw hs (.inr hc)),e4,e3,e2,e1]
theorem TW.add(h:TW x S){p c:Nat}(hp:p∈S)(hc:c∈S)(h0:wd x (c+40)=0)(hu:¬Un (wds x S) c p):wds (addX x p c) S=addW (wds x S) p c∧TW (addX x p c) S:=by
 obtain⟨d,I⟩:=h.inv;have hl:InS S (wd x (p+56)):=by have:=mj I hp;rwa [show(wds x S).lst p=wd x (p+56) from cf hp] at this
 have hw:=Ik h.nds h.small hp hc hl;refine⟨hw.1,?_⟩;have h0':(wds x S).par c=0:=(cf hc).trans h0;obtain⟨d',I'⟩:=I.add hp hc h0' hu;rw[← hw.1] at I';exact TW.of hw.2.ref h.small hw.2.node I'
theorem HZ(h:Nds x S)(hs:∀a,a∈S→a<4611686018427387904){c:Nat}(hc:c∈S)(hp:wd x (c+40)∈S)(hv:InS S (wd x (c+72)))(hn:InS S (wd x (c+64))):wds (cutX x c) S=cutW (wds x S) c∧Nds (cutX x c) S:=by
 have q1:(wds x S).par c=wd x (c+40):=cf hc;have q2:(wds x S).prv c=wd x (c+72):=cf hc;have q3:(wds x S).nxt c=wd x (c+64):=cf hc;unfold cutX cutW;dsimp only;rw[q1,q2,q3];generalize wd x (c+40)=p at hp;generalize wd x (c+72)=v at hv;generalize wd x (c+64)=n at hn;have s1:Nds (if v=0 then stw x (p+48) n else stw x (v+64) n) S∧wds (if v=0 then stw x (p+48) n else stw x (v+64) n) S=⟨(wds x S).par,if v=0 then up (wds x S).fst p n else(wds x S).fst,(wds x S).lst,if v=0 then(wds x S).nxt else up (wds x S).nxt v n,(wds x S).prv⟩:=by
  by_cases e:v=0
  ·simp only[if_pos e];exact⟨h.stw hp (by decide) (by decide),Ev h hp (hn.Qw hs)⟩
  ·simp only[if_neg e];have hvs:v∈S:=hv.resolve_left e;exact⟨h.stw hvs (by decide) (by decide),tS h hvs (hn.Qw hs)⟩
 obtain⟨n1,e1⟩:=s1;generalize(if v=0 then stw x (p+48) n else stw x (v+64) n)=x1 at n1 e1 ⊢;have s2:Nds (if n=0 then stw x1 (p+56) v else stw x1 (n+72) v) S∧wds (if n=0 then stw x1 (p+56) v else stw x1 (n+72) v) S=⟨(wds x1 S).par,(wds x1 S).fst,if n=0 then up (wds x1 S).lst p v else(wds x1 S).lst,(wds x1 S).nxt,if n=0 then(wds x1 S).prv else up (wds x1 S).prv n v⟩:=by
  by_cases e:n=0
  ·simp only[if_pos e];exact⟨n1.stw hp (by decide) (by decide),Ej n1 hp (hv.Qw hs)⟩
  ·simp only[if_neg e];have hns:n∈S:=hn.resolve_left e;exact⟨n1.stw hns (by decide) (by decide),yx n1 hns (hv.Qw hs)⟩
 obtain⟨n2,e2⟩:=s2;generalize(if n=0 then stw x1 (p+56) v else stw x1 (n+72) v)=x2 at n2 e2 ⊢;have n3:=n2.stw (v:=0) hc (o:=40) (by decide) (by decide);have n4:=n3.stw (v:=0) hc (o:=72) (by decide) (by decide);refine⟨?_,n4.stw hc (by decide) (by decide)⟩;rw[tS n4 hc (by decide),yx n3 hc (by decide),Eb n2 hc (by decide),e2,e1]
theorem TW.cut(h:TW x S){c:Nat}(hc:c∈S)(h0:wd x (c+40)≠0):wds (cutX x c) S=cutW (wds x S) c∧TW (cutX x c) S:=by
 obtain⟨d,I⟩:=h.inv;have q1:(wds x S).par c=wd x (c+40):=cf hc;have h0':(wds x S).par c≠0:=by rw[q1];exact h0
 obtain⟨i1,i2⟩:=ju I hc h0';rw[show(wds x S).nxt c=wd x (c+64) from cf hc] at i1;rw[show(wds x S).prv c=wd x (c+72) from cf hc] at i2;have hw:=HZ h.nds h.small hc (q1▸(I.par c hc h0').1) i2 i1;refine⟨hw.1,?_⟩;obtain⟨d',I'⟩:=I.cut hc h0';rw[← hw.1] at I';exact TW.of hw.2.ref h.small hw.2.node I'
end Go.AI
