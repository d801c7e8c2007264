/- An object that consists of others, taken as one: what is shown of a function upon the parts holds of it upon the whole. Here: the arena's pages. No program is named here. -/
import Derived.Test.YthoiknijhfnadaaGreatDoorKHk
namespace Go.AI
abbrev Ext0:Ext:=⟨Empty,fun x=>x.elim,fun{x}=>x.elim⟩
structure Ar where
 pages:List (Option Nat)
 armed:Bool
 refuse:Nat
def byteN(P i:Nat):Nat:=Nat.land (Nat.shiftRight P (Nat.mul 8 i)) 255
def byteV(P i:Nat):Value:=.int .u8 (Int.ofNat (byteN P i))
def pageCells(P:Nat):List Value:=(List.range 4096).map (byteV P)
def rowCells(pid:Nat→Nat):Nat→List (Option Nat)→List Value
 |_,[]=>[]
 |k,none::r=>.pointer none::rowCells pid (k+1) r
 |k,some _::r=>.pointer (some ⟨pid k,0,none⟩)::rowCells pid (k+1) r
def setN:List (Option Nat)→Nat
 |[]=>0
 |none::r=>Nat.mul 2 (setN r)
 |some _::r=>Nat.succ (Nat.mul 2 (setN r))
def countN:List (Option Nat)→Nat
 |[]=>0
 |none::r=>countN r
 |some _::r=>Nat.succ (countN r)
def wordV(s k:Nat):Value:=.int .u64 (Int.ofNat (Nat.mod (Nat.shiftRight s (Nat.mul 64 k)) 18446744073709551616))
def nWords(l:List (Option Nat)):Nat:=Nat.div (Nat.add l.length 63) 64
def wordCells(l:List (Option Nat)):List Value:=(List.range (nWords l)).map (wordV (setN l))
structure ArIds where
 A:Nat
 Pg:Nat
 W:Nat
 sp:Option Nat
 cp:Nat
 pid:Nat→Nat
structure ArAt{X:Type}(V:Nat→Option (AObj X))(x:Ar)(I:ArIds):Prop where
 top:V I.A=some (.cells [.slice (some ⟨I.Pg,0,none⟩) x.pages.length x.pages.length,.int .i64 (Int.ofNat x.pages.length),.slice (some ⟨I.W,0,I.sp⟩) (nWords x.pages) I.cp,.int .i64 (Int.ofNat (countN x.pages)),.bool x.armed,.int .i64 (Int.ofNat x.refuse)])
 row:V I.Pg=some (.cells (rowCells I.pid 0 x.pages))
 wds:∃ob,V I.W=some ob∧cellsO ob=some (wordCells x.pages)
 page:∀i P,x.pages[i]? = some (some P)→V (I.pid i)=some (.cells (pageCells P))
 inj:∀i j P Q,x.pages[i]? = some (some P)→x.pages[j]? = some (some Q)→I.pid i=I.pid j→i=j
 dA:I.A≠I.Pg∧I.A≠I.W∧I.Pg≠I.W
 dP:∀i P,x.pages[i]? = some (some P)→I.pid i≠I.A∧I.pid i≠I.Pg∧I.pid i≠I.W
 cap:x.pages.length≤1048576
 ref:x.refuse<9223372036854775808
structure Loc{E:Ext}(ρ:Ren)(φ:Foot)(V:View E)(n:Nat)(w:World):Prop where
 dom:∀i,n≤i→ρ i=none
 rel:∀i o,V i=some o→∃b s,ρ i=some (b,s)∧ObjR E ρ o b s (φ i).1 (φ i).2 w
 dis:∀i j oi oj b,V i=some oi→V j=some oj→i≠j→(φ i).1 b→¬(φ j).2 b
 sub:∀i o b,V i=some o→(φ i).1 b→(φ i).2 b
 lts:∀i o b,V i=some o→(φ i).2 b→b<w.heap.size
theorem Good.loc{E:Ext}{W0:World}{ρ:Ren}{φ:Foot}{V:View E}{n:Nat}{w:World}(g:Good W0 ρ φ V n w):Loc ρ φ V n w:=⟨g.dom,g.rel,g.dis,g.sub,g.lts⟩
theorem Loc.frame{E:Ext}{ρ:Ren}{φ:Foot}{V:View E}{n:Nat}{w w':World}(h:Loc ρ φ V n w)(hD:∀i o c,V i=some o→(φ i).2 c→w'.heap[c]? = w.heap[c]?):Loc ρ φ V n w' where
 dom:=h.dom
 rel:=fun i o hi=>by
  obtain⟨b,s,h1,h2⟩:=h.rel i o hi
  exact⟨b,s,h1,h2.frame (Ren.le_refl ρ) fun c hc=>hD i o c hi hc⟩
 dis:=h.dis
 sub:=h.sub
 lts:=fun i o b hi hb=>by
  have h1:=h.lts i o b hi hb
  have h2:=hD i o b hi hb
  rw[Array.getElem?_eq_getElem h1] at h2
  exact(Array.getElem?_eq_some_iff.1 h2).1
def allF{E:Ext}(φ:Foot)(V:View E)(c:Nat):Prop:=∃i o,V i=some o∧(φ i).1 c
def allD{E:Ext}(φ:Foot)(V:View E)(c:Nat):Prop:=∃i o,V i=some o∧(φ i).2 c
def ArRel(x:Ar)(b:Nat)(F D:Nat→Prop)(w:World):Prop :=
 ∃(V:List (Nat×AObj Empty)) (n:Nat) (ρ:Ren) (φ:Foot) (I:ArIds) (s:Nat),ArAt (fun i=>look i V) x I∧Loc (E:=Ext0) ρ φ (fun i=>look i V) n w∧ρ I.A=some (b,s) ∧
  (∀c,F c↔allF (E:=Ext0) φ (fun i=>look i V) c)∧(∀c,D c↔allD (E:=Ext0) φ (fun i=>look i V) c)
def TkRel(Cls:Nat→Int→Prop)(x:Ar)(b:Nat)(F D:Nat→Prop):Prop:=9223372036854775808≤x.refuse∧(∀c,¬F c)∧(∀c,¬D c)∧Cls x.refuse (decZ b)
abbrev Ext1(Cls:Nat→Int→Prop):Ext:=⟨Ar,fun x b F D w=>ArRel x b F D w∨TkRel Cls x b F D,fun{x b F D w w'} h hD=>h.elim (fun h=>by
 obtain⟨V,n,ρ,φ,I,s,h1,h2,h3,h4,h5⟩:=h
 exact .inl ⟨V,n,ρ,φ,I,s,h1,h2.frame fun i o c hi hc=>hD c ((h5 c).2 ⟨i,o,hi,hc⟩),h3,h4,h5⟩) .inr⟩
def plainF:Value→Bool
 | .bool _ | .int _ _ | .string _=>true
 |_=>false
def plainV:Value→Bool
 | .tuple vs=>vs.toList.all plainF
 |v=>plainF v
theorem plainF_vr{ρ:Ren}{v v':Value}(h:plainF v=true)(r:VR ρ v v'):v'=v:=by
 cases v<;>simp[plainF] at h
 ·rw[r.bool_inv]
 ·rw[r.int_inv]
 ·rw[r.str_inv]
theorem plainF_same{ρ:Ren}{v:Value}(h:plainF v=true):FR ρ v v:=by
 cases v<;>simp[plainF] at h
 ·exact .bool _
 ·exact .int _ _
 ·exact .str _
theorem plainF_xr{ρ:Ren}{v v':Value}(h:plainF v=true)(r:XR ρ v v'):v'=v:=plainF_vr h (.x r)
theorem plainV_vr{ρ:Ren}{v v':Value}(h:plainV v=true)(r:VR ρ v v'):v'=v:=by
 cases v<;>try exact plainF_vr h r
 rename_i xs
 obtain⟨ys,rfl,h2⟩:=r.tup_inv
 simp only[plainV] at h
 obtain⟨xs⟩:=xs
 congr 2
 clear r
 simp only at h h2
 induction h2 with
 |nil=>rfl
 |cons a t ih =>
  simp only[List.all_cons,Bool.and_eq_true] at h
  rw[plainF_xr h.1 a,ih h.2]
theorem plainV_same{ρ:Ren}{v:Value}(h:plainV v=true):VR ρ v v:=by
 cases v<;>try exact .of_flat (plainF_same h)
 rename_i xs
 obtain⟨xs⟩:=xs
 simp only[plainV] at h
 refine .tup ?_
 induction xs with
 |nil=>exact .nil
 |cons a t ih =>
  simp only[List.all_cons,Bool.and_eq_true] at h
  exact .cons (.flat (plainF_same h.1)) (ih h.2)
theorem plains_vr{ρ:Ren}:∀{vs vs':List Value},vs.all plainV=true→All2 (VR ρ) vs vs'→vs'=vs
 |_,_,_,.nil=>rfl
 |_,_,h,.cons a t=>by
  simp only[List.all_cons,Bool.and_eq_true] at h
  rw[plainV_vr h.1 a,plains_vr h.2 t]
theorem plains_same{ρ:Ren}:∀{vs:List Value},vs.all plainV=true→All2 (VR ρ) vs vs
 |[],_=>.nil
 |a::t,h=>by
  simp only[List.all_cons,Bool.and_eq_true] at h
  exact .cons (plainV_same h.1) (plains_same h.2)
section
variable {P:Program}{W0:World}{Cls:Nat→Int→Prop}
theorem good_down{ρ:Ren}{φ:Foot}{V:View (Ext1 Cls)}{n:Nat}{w:World}(g:Good W0 ρ φ V n w){i:Nat}{x:Ar}(hi:V i=some (.ext x))(hlt:x.refuse<9223372036854775808) :
  ∃(T:List (Nat×AObj Empty)) (n0:Nat) (ρ0:Ren) (φ0:Foot) (I:ArIds) (b s s':Nat),ArAt (fun i=>look i T) x I∧Good (E:=Ext0) W0 ρ0 φ0 (fun i=>look i T) n0 w∧ρ i=some (b,s)∧ρ0 I.A=some (b,s') ∧
   (∀c,(φ i).1 c↔allF (E:=Ext0) φ0 (fun i=>look i T) c)∧(∀c,(φ i).2 c↔allD (E:=Ext0) φ0 (fun i=>look i T) c):=by
 obtain⟨b,s,hb,hr⟩:=g.rel i _ hi
 have hr':ArRel x b (φ i).1 (φ i).2 w:=by
  rcases(hr:ArRel x b (φ i).1 (φ i).2 w∨TkRel Cls x b (φ i).1 (φ i).2) with h|h
  ·exact h
  ·exact absurd h.1 (by omega)
 obtain⟨T,n0,ρ0,φ0,I,s',h1,h2,h3,h4,h5⟩:=hr'
 exact⟨T,n0,ρ0,φ0,I,b,s,s',h1,⟨h2.dom,h2.rel,h2.dis,h2.sub,h2.lts,fun a o c ha hc=>g.frs i _ c hi ((h4 c).2 ⟨a,o,ha,hc⟩),g.size,g.base,g.os,g.out⟩,hb,h3,h4,h5⟩
theorem post_up{ρ:Ren}{φ:Foot}{V:View (Ext1 Cls)}{n:Nat}{w w':World}(g:Good W0 ρ φ V n w){i:Nat}{x x':Ar}(hi:V i=some (.ext x)){T T':List (Nat×AObj Empty)}{n0 n0':Nat}{ρ0 ρ0':Ren}{φ0 φ0':Foot}{I':ArIds}{b s s':Nat}
  (hb:ρ i=some (b,s)) (hF:∀c,(φ i).1 c↔allF (E:=Ext0) φ0 (fun i=>look i T) c) (hD:∀c,(φ i).2 c↔allD (E:=Ext0) φ0 (fun i=>look i T) c)
  (p:Post (E:=Ext0) W0 ρ0 φ0 (fun i=>look i T) n0 w ρ0' φ0' (fun i=>look i T') n0' w') (hA:ArAt (fun i=>look i T') x' I') (hb':ρ0' I'.A=some (b,s')) :
  Post W0 ρ φ V n w ρ (fun j=>if j=i then(allF (E:=Ext0) φ0' (fun i=>look i T'),allD (E:=Ext0) φ0' (fun i=>look i T')) else φ j) (View.put (E:=(Ext1 Cls)) V i (.ext x')) n w':=by
 have hV:∀j oj,View.put (E:=(Ext1 Cls)) V i (.ext x') j=some oj→j≠i→V j=some oj:=fun j oj h e=>by simpa[View.put,e] using h
 have hnF:∀c,allF (E:=Ext0) φ0' (fun i=>look i T') c→w.heap.size≤c∨(φ i).1 c:=fun c ⟨a,o,ha,hc⟩=>by
  rcases p.fF a o c ha hc with h|⟨a',o',h1,h2⟩
  ·exact .inl h
  ·exact .inr ((hF c).2 ⟨a',o',h1,h2⟩)
 have hnD:∀c,allD (E:=Ext0) φ0' (fun i=>look i T') c→w.heap.size≤c∨(φ i).2 c:=fun c ⟨a,o,ha,hc⟩=>by
  rcases p.fD a o c ha hc with h|⟨a',o',h1,h2⟩
  ·exact .inl h
  ·exact .inr ((hD c).2 ⟨a',o',h1,h2⟩)
 have hkeep:∀c,c<w.heap.size→¬(φ i).1 c→w'.heap[c]? = w.heap[c]? := fun c hc hn =>
  p.keep c hc fun a o ha hFa=>hn ((hF c).2 ⟨a,o,ha,hFa⟩)
 refine⟨⟨g.dom,?_,?_,?_,?_,?_,p.good.size,p.good.base,p.good.os,p.good.out⟩,Ren.le_refl ρ,Nat.le_refl n,p.sz,fun c hc hF'=>hkeep c hc (hF' i _ hi),?_,?_,?_,fun _ _=>rfl⟩
 ·intro j oj hj
  by_cases e:j=i
  ·subst e
   simp only[View.put,if_true,zI] at hj
   subst hj
   refine⟨b,s,hb,?_⟩
   simp only[if_true]
   exact .inl ⟨T',n0',ρ0',φ0',I',s',hA,p.good.loc,hb',fun _=>Iff.rfl,fun _=>Iff.rfl⟩
  ·have hj':=hV j oj hj e
   obtain⟨bj,sj,h1,h2⟩:=g.rel j oj hj'
   refine⟨bj,sj,h1,?_⟩
   simp only[e,if_false]
   exact h2.frame (Ren.le_refl ρ) fun c hc=>hkeep c (g.lts j oj c hj' hc) fun hFc=>g.dis i j _ oj c hi hj' (fun h=>e h.symm) hFc hc
 ·intro j k oj ok c hj hk hne hFj hDk
  by_cases e:j=i
  ·subst e
   have e':k≠j:=fun h=>hne h.symm
   have hk':=hV k ok hk e'
   simp only[if_true] at hFj
   simp only[e',if_false] at hDk
   rcases hnF c hFj with h|h
   ·have:=g.lts k ok c hk' hDk;omega
   ·exact g.dis j k _ ok c hi hk' hne h hDk
  ·have hj':=hV j oj hj e
   simp only[e,if_false] at hFj
   by_cases e':k=i
   ·subst e'
    simp only[if_true] at hDk
    rcases hnD c hDk with h|h
    ·have:=g.lts j oj c hj' (g.sub j oj c hj' hFj);omega
    ·exact g.dis j k oj _ c hj' hi hne hFj h
   ·simp only[e',if_false] at hDk
    exact g.dis j k oj ok c hj' (hV k ok hk e') hne hFj hDk
 ·intro j oj c hj hFj
  by_cases e:j=i
  ·simp only[e,if_true] at hFj ⊢
   obtain⟨a,o,ha,hc⟩:=hFj
   exact⟨a,o,ha,p.good.sub a o c ha hc⟩
  ·simp only[e,if_false] at hFj ⊢
   exact g.sub j oj c (hV j oj hj e) hFj
 ·intro j oj c hj hDj
  by_cases e:j=i
  ·simp only[e,if_true] at hDj
   obtain⟨a,o,ha,hc⟩:=hDj
   exact p.good.lts a o c ha hc
  ·simp only[e,if_false] at hDj
   have:=g.lts j oj c (hV j oj hj e) hDj
   have:=p.sz
   omega
 ·intro j oj c hj hFj
  by_cases e:j=i
  ·simp only[e,if_true] at hFj
   obtain⟨a,o,ha,hc⟩:=hFj
   exact p.good.frs a o c ha hc
  ·simp only[e,if_false] at hFj
   exact g.frs j oj c (hV j oj hj e) hFj
 ·intro j oj c hj hFj
  by_cases e:j=i
  ·simp only[e,if_true] at hFj
   rcases hnF c hFj with h|h
   ·exact .inl h
   ·exact .inr ⟨i,_,hi,h⟩
  ·simp only[e,if_false] at hFj
   exact .inr ⟨j,oj,hV j oj hj e,hFj⟩
 ·intro j oj c hj hDj
  by_cases e:j=i
  ·simp only[e,if_true] at hDj
   rcases hnD c hDj with h|h
   ·exact .inl h
   ·exact .inr ⟨i,_,hi,h⟩
  ·simp only[e,if_false] at hDj
   exact .inr ⟨j,oj,hV j oj hj e,hDj⟩
 ·intro j oj hj
  by_cases e:j=i
  ·exact .inr ⟨_,e▸hi⟩
  ·exact .inr ⟨oj,hV j oj hj e⟩
theorem post_made{ρ:Ren}{φ:Foot}{V:View (Ext1 Cls)}{n:Nat}{w w':World}(g:Good W0 ρ φ V n w){x':Ar}{T':List (Nat×AObj Empty)}{n0 n0':Nat}{ρ0 ρ0':Ren}{φ0 φ0':Foot}{I':ArIds}{b s':Nat}{V0:View Ext0}
  (hV0:∀i,V0 i=none)
  (p:Post (E:=Ext0) W0 ρ0 φ0 V0 n0 w ρ0' φ0' (fun i=>look i T') n0' w') (hA:ArAt (fun i=>look i T') x' I') (hb':ρ0' I'.A=some (b,s')) :
  Post W0 ρ φ V n w (ρ.put n (b,0)) (fun j=>if j=n then(allF (E:=Ext0) φ0' (fun i=>look i T'),allD (E:=Ext0) φ0' (fun i=>look i T')) else φ j) (View.put (E:=(Ext1 Cls)) V n (.ext x')) (n+1) w':=by
 have hV:∀j oj,View.put (E:=(Ext1 Cls)) V n (.ext x') j=some oj→j≠n→V j=some oj:=fun j oj h e=>by simpa[View.put,e] using h
 have hnF:∀c,allF (E:=Ext0) φ0' (fun i=>look i T') c→w.heap.size≤c:=fun c ⟨a,o,ha,hc⟩=>by
  rcases p.fF a o c ha hc with h|⟨a',o',h1,h2⟩
  ·exact h
  ·rw[hV0] at h1;cases h1
 have hnD:∀c,allD (E:=Ext0) φ0' (fun i=>look i T') c→w.heap.size≤c:=fun c ⟨a,o,ha,hc⟩=>by
  rcases p.fD a o c ha hc with h|⟨a',o',h1,h2⟩
  ·exact h
  ·rw[hV0] at h1;cases h1
 have hkeep:∀c,c<w.heap.size→w'.heap[c]? = w.heap[c]? := fun c hc=>p.keep c hc fun a o ha _=>by rw[hV0] at ha;cases ha
 have hle:ρ.le (ρ.put n (b,0)):=le_put (g.dom n (Nat.le_refl _))
 refine⟨⟨?_,?_,?_,?_,?_,?_,p.good.size,p.good.base,p.good.os,p.good.out⟩,hle,by omega,p.sz,fun c hc _=>hkeep c hc,?_,?_,?_,fun i hi=>by simp[Ren.put,show i≠n by omega]⟩
 ·intro i hi
  simp only[Ren.put,show i≠n by omega,if_false]
  exact g.dom i (by omega)
 ·intro j oj hj
  by_cases e:j=n
  ·subst e
   simp only[View.put,if_true,zI] at hj
   subst hj
   refine⟨b,0,by simp[Ren.put],?_⟩
   simp only[if_true]
   exact .inl ⟨T',n0',ρ0',φ0',I',s',hA,p.good.loc,hb',fun _=>Iff.rfl,fun _=>Iff.rfl⟩
  ·have hj':=hV j oj hj e
   obtain⟨bj,sj,h1,h2⟩:=g.rel j oj hj'
   refine⟨bj,sj,hle _ _ h1,?_⟩
   simp only[e,if_false]
   exact h2.frame hle fun c hc=>hkeep c (g.lts j oj c hj' hc)
 ·intro j k oj ok c hj hk hne hFj hDk
  by_cases e:j=n
  ·have e':k≠n:=fun h=>hne (e.trans h.symm)
   have hk':=hV k ok hk e'
   simp only[e,if_true] at hFj
   simp only[e',if_false] at hDk
   have:=hnF c hFj
   have:=g.lts k ok c hk' hDk;omega
  ·have hj':=hV j oj hj e
   simp only[e,if_false] at hFj
   by_cases e':k=n
   ·simp only[e',if_true] at hDk
    have:=hnD c hDk
    have:=g.lts j oj c hj' (g.sub j oj c hj' hFj);omega
   ·simp only[e',if_false] at hDk
    exact g.dis j k oj ok c hj' (hV k ok hk e') hne hFj hDk
 ·intro j oj c hj hFj
  by_cases e:j=n
  ·simp only[e,if_true] at hFj ⊢
   obtain⟨a,o,ha,hc⟩:=hFj
   exact⟨a,o,ha,p.good.sub a o c ha hc⟩
  ·simp only[e,if_false] at hFj ⊢
   exact g.sub j oj c (hV j oj hj e) hFj
 ·intro j oj c hj hDj
  by_cases e:j=n
  ·simp only[e,if_true] at hDj
   obtain⟨a,o,ha,hc⟩:=hDj
   exact p.good.lts a o c ha hc
  ·simp only[e,if_false] at hDj
   have:=g.lts j oj c (hV j oj hj e) hDj
   have:=p.sz
   omega
 ·intro j oj c hj hFj
  by_cases e:j=n
  ·simp only[e,if_true] at hFj
   obtain⟨a,o,ha,hc⟩:=hFj
   exact p.good.frs a o c ha hc
  ·simp only[e,if_false] at hFj
   exact g.frs j oj c (hV j oj hj e) hFj
 ·intro j oj c hj hFj
  by_cases e:j=n
  ·simp only[e,if_true] at hFj;exact .inl (hnF c hFj)
  ·simp only[e,if_false] at hFj
   exact .inr ⟨j,oj,hV j oj hj e,hFj⟩
 ·intro j oj c hj hDj
  by_cases e:j=n
  ·simp only[e,if_true] at hDj;exact .inl (hnD c hDj)
  ·simp only[e,if_false] at hDj
   exact .inr ⟨j,oj,hV j oj hj e,hDj⟩
 ·intro j oj hj
  by_cases e:j=n
  ·exact .inl (by omega)
  ·exact .inr ⟨oj,hV j oj hj e⟩
end
end Go.AI
/- What the arena's methods do, as functions that the kernel reckons quickly. No program is named here. -/
namespace Go.AI
def pgAt:List (Option Nat)→Nat→Option Nat
 |[],_=>none
 |p::_,0=>p
 |_::r,n+1=>pgAt r n
def setPg:List (Option Nat)→Nat→Option Nat→List (Option Nat)
 |[],_,_=>[]
 |_::r,0,q=>q::r
 |p::r,n+1,q=>p::setPg r n q
def allC(l:List (Option Nat))(p:Nat):Nat→Bool
 |0=>true
 |k+1=>match pgAt l p with
  |some _=>allC l (Nat.succ p) k
  |none=>false
def cntC(l:List (Option Nat))(p:Nat):Nat→Nat
 |0=>0
 |k+1=>match pgAt l p with
  |some _=>Nat.succ (cntC l (Nat.succ p) k)
  |none=>cntC l (Nat.succ p) k
def setAll(l:List (Option Nat))(q:Option Nat)(p:Nat):Nat→List (Option Nat)
 |0=>l
 |k+1=>setAll (setPg l p q) q (Nat.succ p) k
def checkN(l:List (Option Nat))(at_ k:Nat):Nat :=
 bif Nat.ble (Nat.add at_ k) (Nat.mul l.length 4096) then(bif Nat.beq k 0 then 0 else
  bif allC l (Nat.div at_ 4096) (Nat.succ (Nat.sub (Nat.div (Nat.pred (Nat.add at_ k)) 4096) (Nat.div at_ 4096))) then 0 else 3) else 3
def checkA(l:List (Option Nat)):Int→Int→Nat
 | .ofNat a,.ofNat k=>checkN l a k
 |_,_=>3
def segBytes(P:Nat)(off:Nat):Nat→List UInt8
 |0=>[]
 |k+1=>UInt8.ofNat (byteN P off)::segBytes P (Nat.succ off) k
def bytesA(l:List (Option Nat)):Nat→Nat→Nat→List UInt8
 |0,_,_=>[]
 |f+1,at_,n=>bif Nat.beq n 0 then[] else match pgAt l (Nat.div at_ 4096) with
  |some P=>segBytes P (Nat.mod at_ 4096) (Nat.min n (Nat.sub 4096 (Nat.mod at_ 4096)))++bytesA l f (Nat.add at_ (Nat.min n (Nat.sub 4096 (Nat.mod at_ 4096)))) (Nat.sub n (Nat.min n (Nat.sub 4096 (Nat.mod at_ 4096))))
  |none=>[]
def fuelA(n:Nat):Nat:=Nat.add (Nat.div n 4096) 2
def numOf:List UInt8→Nat
 |[]=>0
 |b::r=>Nat.add b.toNat (Nat.mul 256 (numOf r))
def numBytes(x:Nat):Nat→List UInt8
 |0=>[]
 |k+1=>UInt8.ofNat (Nat.mod x 256)::numBytes (Nat.div x 256) k
def setBytes(P off k v:Nat):Nat :=
 Nat.lor (Nat.lor (Nat.mod P (Nat.pow 2 (Nat.mul 8 off))) (Nat.shiftLeft v (Nat.mul 8 off))) (Nat.shiftLeft (Nat.shiftRight P (Nat.mul 8 (Nat.add off k))) (Nat.mul 8 (Nat.add off k)))
def putA:Nat→List (Option Nat)→Nat→List UInt8→List (Option Nat)
 |0,l,_,_=>l
 |f+1,l,at_,s=>bif Nat.beq s.length 0 then l else match pgAt l (Nat.div at_ 4096) with
  |some P=>putA f (setPg l (Nat.div at_ 4096) (some (setBytes P (Nat.mod at_ 4096) (Nat.min s.length (Nat.sub 4096 (Nat.mod at_ 4096))) (numOf (s.take (Nat.min s.length (Nat.sub 4096 (Nat.mod at_ 4096))))))))
    (Nat.add at_ (Nat.min s.length (Nat.sub 4096 (Nat.mod at_ 4096)))) (s.drop (Nat.min s.length (Nat.sub 4096 (Nat.mod at_ 4096))))
  |none=>l
def fillV(b k:Nat):Nat:=Nat.mul b (Nat.div (Nat.pred (Nat.pow 256 k)) 255)
def fillA(b:Nat):Nat→List (Option Nat)→Nat→Nat→List (Option Nat)
 |0,l,_,_=>l
 |f+1,l,at_,n=>bif Nat.beq n 0 then l else match pgAt l (Nat.div at_ 4096) with
  |some P=>fillA b f (setPg l (Nat.div at_ 4096) (some (setBytes P (Nat.mod at_ 4096) (Nat.min n (Nat.sub 4096 (Nat.mod at_ 4096))) (fillV b (Nat.min n (Nat.sub 4096 (Nat.mod at_ 4096)))))))
    (Nat.add at_ (Nat.min n (Nat.sub 4096 (Nat.mod at_ 4096)))) (Nat.sub n (Nat.min n (Nat.sub 4096 (Nat.mod at_ 4096))))
  |none=>l
def wholeN(n:Nat):Bool:=Nat.beq n 1||Nat.beq n 2||Nat.beq n 4||Nat.beq n 8
def loadA(l:List (Option Nat))(at_ k:Nat):Nat :=
 bif Nat.ble (Nat.add (Nat.mod at_ 4096) k) 4096 then(match pgAt l (Nat.div at_ 4096) with
  |some P=>Nat.mod (Nat.shiftRight P (Nat.mul 8 (Nat.mod at_ 4096))) (Nat.pow 256 k)
  |none=>0) else numOf (bytesA l (fuelA k) at_ k)
def storeA(l:List (Option Nat))(at_ k x:Nat):List (Option Nat) :=
 bif Nat.ble (Nat.add (Nat.mod at_ 4096) k) 4096 then(match pgAt l (Nat.div at_ 4096) with
  |some P=>setPg l (Nat.div at_ 4096) (some (setBytes P (Nat.mod at_ 4096) k (Nat.mod x (Nat.pow 256 k))))
  |none=>l) else putA (fuelA k) l at_ (numBytes x k)
def errV(n:Nat):Value:=.int .i64 (Int.ofNat n)
def capS(x:Ar):List Value→Option (Value×Ar)
 |[]=>some (.int .i64 (Int.ofNat x.pages.length),x)
 |_=>none
def hasS(x:Ar):List Value→Option (Value×Ar)
 |[.int .i64 (.ofNat p)]=>some (.bool (match pgAt x.pages p with|some _=>true|none=>false),x)
 |[.int .i64 (.negSucc _)]=>some (.bool false,x)
 |_=>none
def commitS(x:Ar):List Value→Option (Value×Ar)
 |[.int .i64 from_,.int .i64 n]=>match n with
  | .negSucc _=>some (errV 2,x)
  | .ofNat 0=>some (errV 2,x)
  | .ofNat (n+1)=>match from_ with
   | .negSucc _=>some (errV 3,x)
   | .ofNat f=>bif Nat.ble (Nat.add f (Nat.succ n)) x.pages.length then
     (bif Nat.beq (cntC x.pages f (Nat.succ n)) 0 then
      (bif x.armed&&Nat.beq x.refuse 0 then some (errV 4,⟨x.pages,false,x.refuse⟩)
      else some (errV 0,⟨setAll x.pages (some 0) f (Nat.succ n),x.armed,Nat.pred x.refuse⟩))
     else some (errV 9,x)) else some (errV 3,x)
 |_=>none
def bytesS(x:Ar):List Value→Option (Value×Ar)
 |[.int .i64 a,.int .i64 n]=>match a,n with
  | .ofNat a',.ofNat n'=>(match checkN x.pages a' n' with
   |0=>some (.tuple ⟨[.string ⟨⟨bytesA x.pages (fuelA n') a' n'⟩⟩,errV 0]⟩,x)
   |Nat.succ _=>some (.tuple ⟨[.string ⟨⟨[]⟩⟩,errV 3]⟩,x))
  |_,_=>some (.tuple ⟨[.string ⟨⟨[]⟩⟩,errV 3]⟩,x)
 |_=>none
def putS(x:Ar):List Value→Option (Value×Ar)
 |[.int .i64 a,.string s]=>match a with
  | .ofNat a'=>(match checkN x.pages a' s.data.toList.length with
   |0=>some (errV 0,⟨putA (fuelA s.data.toList.length) x.pages a' s.data.toList,x.armed,x.refuse⟩)
   |Nat.succ _=>some (errV 3,x))
  |_=>some (errV 3,x)
 |_=>none
def fillS(x:Ar):List Value→Option (Value×Ar)
 |[.int .i64 a,.int .i64 n,.int .u8 (.ofNat b)]=>bif Nat.blt b 256 then(match a,n with
  | .ofNat a',.ofNat n'=>(match checkN x.pages a' n' with
   |0=>some (errV 0,⟨fillA b (fuelA n') x.pages a' n',x.armed,x.refuse⟩)
   |Nat.succ _=>some (errV 3,x))
  |_,_=>some (errV 3,x)) else none
 |_=>none
def loadS(x:Ar):List Value→Option (Value×Ar)
 |[.int .i64 a,.int .i64 n]=>match n with
  | .negSucc _=>some (.tuple ⟨[.int .u64 (.ofNat 0),errV 2]⟩,x)
  | .ofNat n'=>bif wholeN n' then(match a with
   | .ofNat a'=>(match checkN x.pages a' n' with
    |0=>some (.tuple ⟨[.int .u64 (Int.ofNat (loadA x.pages a' n')),errV 0]⟩,x)
    |Nat.succ _=>some (.tuple ⟨[.int .u64 (.ofNat 0),errV 3]⟩,x))
   |_=>some (.tuple ⟨[.int .u64 (.ofNat 0),errV 3]⟩,x)) else some (.tuple ⟨[.int .u64 (.ofNat 0),errV 2]⟩,x)
 |_=>none
def storeS(x:Ar):List Value→Option (Value×Ar)
 |[.int .i64 a,.int .i64 n,.int .u64 (.ofNat v)]=>bif Nat.blt v 18446744073709551616 then(match n with
  | .negSucc _=>some (errV 2,x)
  | .ofNat n'=>bif wholeN n' then(match a with
   | .ofNat a'=>(match checkN x.pages a' n' with
    |0=>some (errV 0,⟨storeA x.pages a' n' v,x.armed,x.refuse⟩)
    |Nat.succ _=>some (errV 3,x))
   |_=>some (errV 3,x)) else some (errV 2,x)) else none
 |_=>none
def copyS(x:Ar):List Value→Option (Value×Ar)
 |[.int .i64 to,.int .i64 from_,.int .i64 n]=>match bytesS x [.int .i64 from_,.int .i64 n] with
  |some (.tuple ⟨[.string s,.int .i64 (.ofNat e)]⟩,_)=>bif Nat.beq e 0 then putS x [.int .i64 to,.string s] else some (errV e,x)
  |_=>none
 |_=>none
end Go.AI
/- A page's bytes in its number: what stands where some are laid;plain numbers. No program is named here. -/
namespace Go.AI
theorem byteN_bit(P i j:Nat):(byteN P i).testBit j=(decide (j<8)&&P.testBit (8*i+j)):=by
 show(Nat.land (P >>> (8*i)) 255).testBit j=_
 have:Nat.land (P >>> (8*i)) 255=(P >>> (8*i)) &&& (2 ^ 8-1):=rfl
 rw[this,Nat.testBit_and,Nat.testBit_shiftRight,Nat.testBit_two_pow_sub_one,Bool.and_comm]
theorem byteN_lt(P i:Nat):byteN P i<256:=by
 show Nat.land (P >>> (8*i)) 255<256
 have h:Nat.land (P >>> (8*i)) 255=(P >>> (8*i)) &&& 255:=rfl
 rw[h]
 exact Nat.lt_of_le_of_lt Nat.and_le_right (by decide)
theorem set_bit{P off k v:Nat}(hv:v<2 ^ (8*k))(b:Nat):(setBytes P off k v).testBit b=if 8*off≤b∧b<8*(off+k) then v.testBit (b-8*off) else P.testBit b:=by
 have h:setBytes P off k v=(P % 2 ^ (8*off) ||| v <<< (8*off)) ||| (P >>> (8*(off+k))) <<< (8*(off+k)):=rfl
 rw[h,Nat.testBit_or,Nat.testBit_or,Nat.testBit_mod_two_pow,Nat.testBit_shiftLeft,Nat.testBit_shiftLeft,Nat.testBit_shiftRight]
 have hz:∀c,8*k≤c→v.testBit c=false:=fun c hc=>Nat.testBit_lt_two_pow (Nat.lt_of_lt_of_le hv (Nat.pow_le_pow_right (by decide) hc))
 by_cases h1:8*off≤b
 ·by_cases h2:b<8*(off+k)
  ·rw[if_pos ⟨h1,h2⟩]
   have h3:¬b<8*off:=by omega
   have h4:¬b≥8*(off+k):=by omega
   simp only[decide_eq_false h3,decide_eq_true (show b≥8*off from h1),decide_eq_false h4,Bool.false_and,Bool.true_and,Bool.false_or,Bool.or_false]
  ·rw[if_neg (fun h=>h2 h.2)]
   have h3:¬b<8*off:=by omega
   have h4:b≥8*(off+k):=by omega
   rw[hz (b-8*off) (by omega)]
   simp only[decide_eq_false h3,decide_eq_true h4,Bool.false_and,Bool.true_and,Bool.false_or,Bool.and_false]
   rw[show 8*(off+k)+(b-8*(off+k))=b by omega]
 ·rw[if_neg (fun h=>h1 h.1)]
  have h3:b<8*off:=by omega
  have h4:¬b≥8*(off+k):=by omega
  simp only[decide_eq_true h3,decide_eq_false (show¬b≥8*off from h1),decide_eq_false h4,Bool.false_and,Bool.true_and,Bool.or_false]
theorem byte_set{P off k v:Nat}(hv:v<2 ^ (8*k))(i:Nat):byteN (setBytes P off k v) i=if off≤i∧i<off+k then byteN v (i-off) else byteN P i:=by
 apply Nat.eq_of_testBit_eq
 intro j
 rw[byteN_bit,set_bit hv]
 by_cases hj:j<8
 ·by_cases hc:off≤i∧i<off+k
  ·rw[if_pos hc,if_pos (by omega),byteN_bit,show 8*(i-off)+j=8*i+j-8*off by omega]
  ·rw[if_neg hc,if_neg (by omega),byteN_bit]
 ·simp only[decide_eq_false hj,Bool.false_and]
  split<;>rw[byteN_bit,decide_eq_false hj,Bool.false_and]
theorem numOf_lt:∀(l:List UInt8),numOf l<2 ^ (8*l.length)
 |[]=>by simp[numOf]
 |b::r=>by
  have ih:=numOf_lt r
  have hb:=b.toNat_lt
  show b.toNat+256*numOf r<2 ^ (8*(r.length+1))
  rw[show 8*(r.length+1)=8*r.length+8 by omega,Nat.pow_add]
  omega
theorem byteN_div(x i:Nat):byteN x i=x / 256 ^ i % 256:=by
 show Nat.land (x >>> (8*i)) 255=_
 have h:Nat.land (x >>> (8*i)) 255=(x >>> (8*i)) &&& (2 ^ 8-1):=rfl
 rw[h,Nat.and_two_pow_sub_one_eq_mod,Nat.shiftRight_eq_div_pow,show(256:Nat) ^ i=2 ^ (8*i) by rw[Nat.pow_mul]]
theorem byte_num:∀(l:List UInt8) (i:Nat) (b:UInt8),l[i]? = some b→byteN (numOf l) i=b.toNat
 |[],i,b,h=>by simp at h
 |c::r,0,b,h=>by
  simp only[List.getElem?_cons_zero,zI] at h;subst h
  have hb:=c.toNat_lt
  rw[byteN_div]
  show(c.toNat+256*numOf r) / 256 ^ 0 % 256=_
  simp only[Nat.pow_zero,Nat.div_one];omega
 |c::r,i+1,b,h=>by
  have hb:=c.toNat_lt
  have ih:=byte_num r i b (by simpa using h)
  rw[byteN_div] at ih ⊢
  show(c.toNat+256*numOf r) / 256 ^ (i+1) % 256=_
  rw[Nat.pow_succ,Nat.mul_comm (256 ^ i) 256,← Nat.div_div_eq_div_mul,show(c.toNat+256*numOf r) / 256=numOf r by omega]
  exact ih
theorem fill_lt{b:Nat}(hb:b<256)(k:Nat):fillV b k<2 ^ (8*k):=by
 have h:fillV b k=b*((256 ^ k-1) / 255):=rfl
 rw[h,show 2 ^ (8*k)=256 ^ k by rw[Nat.pow_mul]]
 have h1:(256 ^ k-1) / 255*255≤256 ^ k-1:=Nat.div_mul_le_self _ _
 have h2:b*((256 ^ k-1) / 255)≤255*((256 ^ k-1) / 255):=Nat.mul_le_mul_right _ (by omega)
 have h3:=Nat.pow_pos (n:=k) (show 0<256 by decide)
 omega
theorem fill_succ(b k:Nat):fillV b (k+1)=b+256*fillV b k:=by
 have h:∀k,fillV b k=b*((256 ^ k-1) / 255):=fun _=>rfl
 rw[h,h]
 have hg:∀k,256 ^ k-1=255*((256 ^ k-1) / 255):=by
  intro k
  induction k with
  |zero=>rfl
  |succ k ih =>
   rw[Nat.pow_succ]
   have h3:=Nat.pow_pos (n:=k) (show 0<256 by decide)
   omega
 have e:(256 ^ (k+1)-1) / 255=1+256*((256 ^ k-1) / 255):=by
  have h1:=hg k
  rw[Nat.pow_succ]
  have h3:=Nat.pow_pos (n:=k) (show 0<256 by decide)
  omega
 rw[e,Nat.mul_add,Nat.mul_one,Nat.mul_left_comm]
theorem byte_fill{b:Nat}(hb:b<256):∀(k i:Nat),i<k→byteN (fillV b k) i=b
 |0,i,h=>by omega
 |k+1,0,_=>by
  rw[byteN_div,fill_succ];simp only[Nat.pow_zero,Nat.div_one];omega
 |k+1,i+1,h=>by
  have ih:=byte_fill hb k i (by omega)
  rw[byteN_div] at ih ⊢
  rw[fill_succ,Nat.pow_succ,Nat.mul_comm (256 ^ i) 256,← Nat.div_div_eq_div_mul,show(b+256*fillV b k) / 256=fillV b k by omega]
  exact ih
end Go.AI
