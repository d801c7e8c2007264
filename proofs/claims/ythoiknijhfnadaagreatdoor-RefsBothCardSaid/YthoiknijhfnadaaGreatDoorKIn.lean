/- slices.overlaps, of a small row of a call's own and of another row: they lie apart. No program is named here. -/
import Derived.Test.YthoiknijhfnadaaGreatDoorKHk
import Derived.Lib.Overlaps
import Derived.Test.YthoiknijhfnadaaGreatDoorKWp
namespace Go.AI
variable {E:Ext}{P:Program}{W0:World}
def overlapsH{X:Type}:List Value→Hp X→Option (Value×Hp X)
 |[.slice (some ⟨i,o,none⟩) _ _,.slice (some ⟨j,_,some 1⟩) _ _],h=>bif Nat.beq i j then none else
  match look i h.tbl,look j h.tbl with
  |some (.cells cs),some (.grown _ _ ds)=>bif Nat.ble o cs.length&&Nat.blt 0 ds.length then some (.bool false,h) else none
  |_,_=>none
 |_,_=>none
theorem overlaps_ok{k:Nat}{tS tR e:TypeId}{size:Nat}(h:Entry P k (Extern.SlicesOverlaps.overlaps #[tS,tS] #[tR]))(ht:P.underlying tS=some (.slice e))(hz:∀w,(Go.sizeOf e).run P w = .ok size w):HookOk E P W0 k overlapsH:=by
 intro vs hp v h' hr ρ φ w hG vs' hvs
 unfold overlapsH at hr
 split at hr
 ·rename_i i o la ca j o2 lb cb
  cases hij:Nat.beq i j with
  |true=>rw[hij] at hr;cases hr
  |false =>
   rw[hij,cond_false] at hr
   split at hr
   ·rename_i cs e2 t2 ds hi hj
    cases hc:(Nat.ble o cs.length&&Nat.blt 0 ds.length) with
    |false=>rw[hc] at hr;cases hr
    |true =>
     rw[hc,cond_true] at hr
     simp only[zI,Prod.mk.injEq] at hr
     obtain⟨rfl,rfl⟩:=hr
     simp only[Bool.and_eq_true,Nat.ble_eq,Nat.blt_eq] at hc
     have hne0:i≠j:=fun e=>by subst e;rw[Nat.beq_refl] at hij;cases hij
     obtain⟨b,s,hb,ho⟩:=hG.rel i _ hi
     obtain⟨_,hF,hD,cs',e',f,q1,q2,q3⟩:=ho
     obtain⟨b2,s2,hb2,ho2⟩:=hG.rel j _ hj
     obtain⟨hF2,hD2,ds',e3,f3,r1,r2,_⟩:=ho2
     have hne:b≠b2:=fun e=>hG.dis i j _ _ b hi hj hne0 ((hF b).2 rfl) ((hD2 b).2 e)
     have hl:=q2.length
     have ho1:o<cs'.size+1:=by
      have h5:cs'.toList.length=cs'.size:=Array.length_toList
      omega
     cases hvs with
     |cons h1 h2 =>
      cases h2 with
      |cons h2 h3 =>
       cases h3
       have f1:=h1.flat_slice
       have f2:=h2.flat_slice
       cases f1 with
       |slc z1 =>
        rw[hb] at z1;injection z1 with z1;injection z1 with y1 y2;subst y1
        cases f2 with
        |slx z2 =>
         rw[hb2] at z2;injection z2 with z2;injection z2 with y3 y4;subst y3
         refine .inr ⟨.bool false,w,ρ,φ,entry_run h _ w (Lib.run_overlaps_apart w tS tR e ht size hz ⟨b,o,none⟩ ⟨b2,o2,none⟩ la _ lb _ hne e' e3 cs'.size ds'.size (shape_of q1) (shape_of r1) (by omega) ?_ ?_),.of_flat (.bool _),Post.refl hG⟩
         ·rw[frozen_of q1]
          exact Bool.eq_false_iff.2 fun h=>q3 o ho1 (by simpa using h)
         ·rw[frozen_of q1]
          exact Bool.eq_false_iff.2 fun h=>q3 cs'.size (by omega) (by simpa using h)
   ·cases hr
 ·cases hr
end Go.AI
/- A call walked from a heap of two objects, of which what it answers alone is kept. No program is named here. -/
namespace Go.AI
variable {E:Ext}{P:Program}{W0:World}
def View.two(V:View E)(i j n:Nat)(o:AObj E.X):View E:=fun k=>if k=n then some o else if k=i∨k=j then none else V k
theorem post_two{ρ:Ren}{φ:Foot}{V:View E}{n:Nat}{w w':World}(g:Good W0 ρ φ V n w){i j:Nat}{oi oj:AObj E.X}(hi:V i=some oi)(hj:V j=some oj){V0 V0':View E}{n0 n0':Nat}{ρ0 ρ0':Ren}{φ0 φ0':Foot}
  (p:Post W0 ρ0 φ0 V0 n0 w ρ0' φ0' V0' n0' w') (hF:∀a o c,V0 a=some o→(φ0 a).1 c→(φ i).1 c∨(φ j).1 c) (hD:∀a o c,V0 a=some o→(φ0 a).2 c→(φ i).2 c∨(φ j).2 c)
  {r b' s':Nat} {or o':AObj E.X} (hr:V0' r=some or) (hrel:ObjR E (ρ.put n (b',s')) o' b' s' (φ0' r).1 (φ0' r).2 w') :
  Post W0 ρ φ V n w (ρ.put n (b',s')) (fun k=>if k=n then φ0' r else φ k) (View.two V i j n o') (n+1) w':=by
 have hV:∀k ok,View.two V i j n o' k=some ok→k≠n→V k=some ok∧k≠i∧k≠j:=fun k ok h e=>by
  unfold View.two at h
  rw[if_neg e] at h
  by_cases hk:k=i∨k=j
  ·rw[if_pos hk] at h;cases h
  ·rw[if_neg hk] at h;exact⟨h,fun h=>hk (.inl h),fun h=>hk (.inr h)⟩
 have hnF:∀c,(φ0' r).1 c→w.heap.size≤c∨(φ i).1 c∨(φ j).1 c:=fun c hc=>by
  rcases p.fF r or c hr hc with h|⟨a,o,h1,h2⟩
  ·exact .inl h
  ·exact .inr (hF a o c h1 h2)
 have hnD:∀c,(φ0' r).2 c→w.heap.size≤c∨(φ i).2 c∨(φ j).2 c:=fun c hc=>by
  rcases p.fD r or c hr hc with h|⟨a,o,h1,h2⟩
  ·exact .inl h
  ·exact .inr (hD a o c h1 h2)
 have hkeep:∀c,c<w.heap.size→¬(φ i).1 c→¬(φ j).1 c→w'.heap[c]? = w.heap[c]? := fun c hc h1 h2 =>
  p.keep c hc fun a o ha hFa=>(hF a o c ha hFa).elim h1 h2
 have hle:ρ.le (ρ.put n (b',s')):=le_put (g.dom n (Nat.le_refl _))
 refine⟨⟨?_,?_,?_,?_,?_,?_,p.good.size,p.good.base,p.good.os,p.good.out⟩,hle,by omega,p.sz,fun c hc hF'=>hkeep c hc (hF' i _ hi) (hF' j _ hj),?_,?_,?_,fun k hk=>by simp[Ren.put,show k≠n by omega]⟩
 ·intro k hk
  simp only[Ren.put,show k≠n by omega,if_false]
  exact g.dom k (by omega)
 ·intro k ok hk
  by_cases e:k=n
  ·subst e
   simp only[View.two,if_true,zI] at hk
   subst hk
   exact⟨b',s',by simp[Ren.put],by simpa using hrel⟩
  ·obtain⟨hk',k1,k2⟩:=hV k ok hk e
   obtain⟨bk,sk,h1,h2⟩:=g.rel k ok hk'
   refine⟨bk,sk,hle _ _ h1,?_⟩
   simp only[e,if_false]
   exact h2.frame hle fun c hc=>hkeep c (g.lts k ok c hk' hc) (fun h=>g.dis i k _ ok c hi hk' (fun h=>k1 h.symm) h hc) (fun h=>g.dis j k _ ok c hj hk' (fun h=>k2 h.symm) h hc)
 ·intro k l ok ol c hk hl hne hFk hDl
  by_cases e:k=n
  ·have e':l≠n:=fun h=>hne (e.trans h.symm)
   obtain⟨hl',l1,l2⟩:=hV l ol hl e'
   simp only[e,if_true] at hFk
   simp only[e',if_false] at hDl
   rcases hnF c hFk with h|h|h
   ·have:=g.lts l ol c hl' hDl;omega
   ·exact g.dis i l _ ol c hi hl' (fun h=>l1 h.symm) h hDl
   ·exact g.dis j l _ ol c hj hl' (fun h=>l2 h.symm) h hDl
  ·obtain⟨hk',k1,k2⟩:=hV k ok hk e
   simp only[e,if_false] at hFk
   by_cases e':l=n
   ·simp only[e',if_true] at hDl
    rcases hnD c hDl with h|h|h
    ·have:=g.lts k ok c hk' (g.sub k ok c hk' hFk);omega
    ·exact g.dis k i ok _ c hk' hi k1 hFk h
    ·exact g.dis k j ok _ c hk' hj k2 hFk h
   ·obtain⟨hl',_⟩:=hV l ol hl e'
    simp only[e',if_false] at hDl
    exact g.dis k l ok ol c hk' hl' hne hFk hDl
 ·intro k ok c hk hFk
  by_cases e:k=n
  ·simp only[e,if_true] at hFk ⊢
   exact p.good.sub r or c hr hFk
  ·obtain⟨hk',_⟩:=hV k ok hk e
   simp only[e,if_false] at hFk ⊢
   exact g.sub k ok c hk' hFk
 ·intro k ok c hk hDk
  by_cases e:k=n
  ·simp only[e,if_true] at hDk
   exact p.good.lts r or c hr hDk
  ·obtain⟨hk',_⟩:=hV k ok hk e
   simp only[e,if_false] at hDk
   have:=g.lts k ok c hk' hDk
   have:=p.sz
   omega
 ·intro k ok c hk hFk
  by_cases e:k=n
  ·simp only[e,if_true] at hFk
   exact p.good.frs r or c hr hFk
  ·obtain⟨hk',_⟩:=hV k ok hk e
   simp only[e,if_false] at hFk
   exact g.frs k ok c hk' hFk
 ·intro k ok c hk hFk
  by_cases e:k=n
  ·simp only[e,if_true] at hFk
   rcases hnF c hFk with h|h|h
   ·exact .inl h
   ·exact .inr ⟨i,oi,hi,h⟩
   ·exact .inr ⟨j,oj,hj,h⟩
  ·obtain⟨hk',_⟩:=hV k ok hk e
   simp only[e,if_false] at hFk
   exact .inr ⟨k,ok,hk',hFk⟩
 ·intro k ok c hk hDk
  by_cases e:k=n
  ·simp only[e,if_true] at hDk
   rcases hnD c hDk with h|h|h
   ·exact .inl h
   ·exact .inr ⟨i,oi,hi,h⟩
   ·exact .inr ⟨j,oj,hj,h⟩
  ·obtain⟨hk',_⟩:=hV k ok hk e
   simp only[e,if_false] at hDk
   exact .inr ⟨k,ok,hk',hDk⟩
 ·intro k ok hk
  by_cases e:k=n
  ·left;omega
  ·exact .inr ⟨ok,(hV k ok hk e).1⟩
def ren2(x y:Nat×Nat):Ren:=fun k=>if k=0 then some x else if k=1 then some y else none
theorem good_two{ρ:Ren}{φ:Foot}{V:View E}{n:Nat}{w:World}(g:Good W0 ρ φ V n w){i j:Nat}{oi oj o0 o1:AObj E.X}(hi:V i=some oi)(hj:V j=some oj)(hij:i≠j){x y:Nat×Nat}(h0:ObjR E (ren2 x y) o0 x.1 x.2 (φ i).1 (φ i).2 w)(h1:ObjR E (ren2 x y) o1 y.1 y.2 (φ j).1 (φ j).2 w) :
  Good W0 (ren2 x y) (fun k=>if k=0 then φ i else φ j) (fun k=>look k [(1,o1),(0,o0)]) 2 w:=by
 have hV:∀k o,look k [(1,o1),(0,o0)]=some o→(k=0∧o=o0)∨(k=1∧o=o1):=by
  intro k o h
  rw[zC] at h
  split at h
  ·rename_i e;injection h with h;exact .inr ⟨e,h.symm⟩
  ·rw[zC] at h
   split at h
   ·rename_i e;injection h with h;exact .inl ⟨e,h.symm⟩
   ·simp[look] at h
 refine⟨fun k hk=>?_,fun k o h=>?_,fun a b oa ob c ha hb hne hF hD=>?_,fun k o c h hF=>?_,fun k o c h hD=>?_,fun k o c h hF=>?_,g.size,g.base,g.os,g.out⟩
 ·unfold ren2;rw[if_neg (by omega),if_neg (by omega)]
 ·rcases hV k o h with⟨rfl,rfl⟩|⟨rfl,rfl⟩
  ·exact⟨x.1,x.2,rfl,h0⟩
  ·exact⟨y.1,y.2,rfl,h1⟩
 ·rcases hV a oa ha with⟨rfl,rfl⟩|⟨rfl,rfl⟩
  ·rcases hV b ob hb with⟨rfl,rfl⟩|⟨rfl,rfl⟩
   ·exact hne rfl
   ·exact g.dis i j _ _ c hi hj hij hF hD
  ·rcases hV b ob hb with⟨rfl,rfl⟩|⟨rfl,rfl⟩
   ·exact g.dis j i _ _ c hj hi (fun h=>hij h.symm) hF hD
   ·exact hne rfl
 ·rcases hV k o h with⟨rfl,rfl⟩|⟨rfl,rfl⟩
  ·exact g.sub i _ c hi hF
  ·exact g.sub j _ c hj hF
 ·rcases hV k o h with⟨rfl,rfl⟩|⟨rfl,rfl⟩
  ·exact g.lts i _ c hi hD
  ·exact g.lts j _ c hj hD
 ·rcases hV k o h with⟨rfl,rfl⟩|⟨rfl,rfl⟩
  ·exact g.frs i _ c hi hF
  ·exact g.frs j _ c hj hF
def isInt:Value→Bool
 | .int _ _=>true
 |_=>false
theorem FR_int{ρ ρ':Ren}{a c:Value}(h:isInt a=true)(hr:FR ρ a c):FR ρ' a c:=by
 cases hr with
 |int k n=>exact .int k n
 |_=>simp[isInt] at h
theorem all_int{ρ ρ':Ren}:∀{cs cs':List Value},cs.all isInt=true→All2 (FR ρ) cs cs'→All2 (FR ρ') cs cs'
 |_,_,_,.nil=>.nil
 |_,_,h,.cons a t=>by
  rw[List.all_cons,Bool.and_eq_true] at h
  exact .cons (FR_int h.1 a) (all_int h.2 t)
end Go.AI
/- slices.Insert of one element, told: what its walk has to show. No program is named here. -/
namespace Go.AI
variable {E:Ext}{P:Program}{W0:World}
def insL(cs:List Value)(n:Nat)(xs:List Value):List Value:=cs.take n++(xs++cs.drop n)
theorem insL_int{cs xs:List Value}{n:Nat}(h:cs.all isInt=true)(hx:xs.all isInt=true):(insL cs n xs).all isInt=true:=by
 rw[List.all_eq_true] at h hx ⊢
 intro a ha
 unfold insL at ha
 rw[List.mem_append,List.mem_append] at ha
 rcases ha with ha|ha|ha
 ·exact h a (List.mem_of_mem_take ha)
 ·exact hx a ha
 ·exact h a (List.mem_of_mem_drop ha)
def insertH{X:Type}(e t:Nat):List Value→Hp X→Option (Value×Hp X)
 |[.slice (some ⟨i,o,none⟩) l cp,.int .i64 (.ofNat k),.slice (some ⟨j,o2,none⟩) l2 c2],h=>bif Nat.beq i j then none else
  match look i h.tbl,look j h.tbl with
  |some (.grown e' t' cs),some (.cells xs) =>
   bif Nat.beq e' e&&(Nat.beq t' t&&(Nat.beq o 0&&(Nat.beq o2 0&&(Nat.beq l cp&&(Nat.beq cs.length (l*e)&&(Nat.beq xs.length e&&(Nat.beq l2 1&&(Nat.beq c2 1&&(Nat.ble k l&&(Nat.blt 0 l&&(Nat.ble l 1000&&(cs.all isInt&&xs.all isInt)))))))))))) then
    some (.slice (some ⟨h.next,0,none⟩) (l+1) (l+1),⟨(h.next,.grown e t (insL cs (k*e) xs))::del j (del i h.tbl),h.next+1⟩) else none
  |_,_=>none
 |[.slice none l cp,.int .i64 (.ofNat k),.slice (some ⟨j,o2,none⟩) l2 c2],h =>
  match look j h.tbl with
  |some (.cells xs)=>bif Nat.beq l 0&&(Nat.beq cp 0&&(Nat.beq k 0&&(Nat.beq o2 0&&(Nat.beq l2 1&&(Nat.beq c2 1&&(Nat.beq xs.length e&&xs.all isInt)))))) then
    some (.slice (some ⟨h.next,0,none⟩) 1 1,⟨(h.next,.grown e t xs)::del j (del j h.tbl),h.next+1⟩) else none
  |_=>none
 |_,_=>none
def InsR{X:Type}(call:CallFn X)(kf e t C l k:Nat)(cs xs ra:List Value):Prop :=
 ∃v h' r sp cp',call kf [.slice (some ⟨0,0,some 1⟩) l C,.int .i64 (.ofNat k),.slice (some ⟨1,0,none⟩) 1 1] ⟨[(1,.cells xs),(0,.grown e t (cs++ra))],2⟩=some (v,h')∧v = .slice (some ⟨r,0,sp⟩) (l+1) cp' ∧
  look r h'.tbl=some (.grown e t (insL cs (k*e) xs))∧((sp=some 1∧r=0∧cp'=C∧l<C)∨(sp=none∧cp'=l+1))
def InsN{X:Type}(call:CallFn X)(kf e t j nx:Nat)(xs:List Value):Prop :=
 ∃v h' r,call kf [.slice none 0 0,.int .i64 (.ofNat 0),.slice (some ⟨j,0,none⟩) 1 1] ⟨[(j,.cells xs)],nx⟩=some (v,h')∧v = .slice (some ⟨r,0,none⟩) 1 1∧look r h'.tbl=some (.grown e t xs)
theorem two_eq{tbl:List (Nat×AObj E.X)}{i j n:Nat}{o:AObj E.X}:(fun k=>look k ((n,o)::del j (del i tbl)))=View.two (E:=E) (fun k=>look k tbl) i j n o:=by
 funext k
 unfold View.two
 rw[zC,look_del,look_del]
 by_cases h:k=n
 ·simp[h]
 ·by_cases h1:k=j
  ·simp[h,h1]
  ·by_cases h2:k=i<;>simp[h,h1,h2]
theorem objR_int{ρ ρ':Ren}{e t:Nat}{cs:List Value}{b s:Nat}{F D:Nat→Prop}{w:World}(h:ObjR E ρ (.grown e t cs) b s F D w)(hi:cs.all isInt=true):ObjR E ρ' (.grown e t cs) b s F D w:=by
 obtain⟨h1,h2,cs',e',f,h3,h4,h5,h6⟩:=h
 exact⟨h1,h2,cs',e',f,h3,h4,all_int hi h5,h6⟩
theorem none_le(ρ:Ren):Ren.le (fun _=>none) ρ:=fun _ _ h=>by cases h
theorem ins_post{ρ:Ren}{φ:Foot}{tbl:List (Nat×AObj E.X)}{nx:Nat}{w w':World}(g:Good (E:=E) W0 ρ φ (fun k=>look k tbl) nx w){i j:Nat}{oi oj:AObj E.X}(hi:look i tbl=some oi)(hj:look j tbl=some oj){V0 V0':View E}{n0 n0':Nat}{ρ0 ρ0':Ren}{φ0 φ0':Foot}
  (p:Post W0 ρ0 φ0 V0 n0 w ρ0' φ0' V0' n0' w') (hF:∀a o c,V0 a=some o→(φ0 a).1 c→(φ i).1 c∨(φ j).1 c) (hD:∀a o c,V0 a=some o→(φ0 a).2 c→(φ i).2 c∨(φ j).2 c)
  {r b' s' e t l:Nat} {new:List Value} (hr:V0' r=some (.grown e t new)) (hb:ρ0' r=some (b',s')) (hn:new.all isInt=true) {v':Value} (hv:v' = .slice (some ⟨b',0,none⟩) l (l+s')) :
  ∃ρ1 φ1,VR ρ1 (.slice (some ⟨nx,0,none⟩) l l) v'∧Post (E:=E) W0 ρ φ (fun k=>look k tbl) nx w ρ1 φ1 (fun k=>look k ((nx,.grown e t new)::del j (del i tbl))) (nx+1) w':=by
 obtain⟨b2,s2,h1,h2⟩:=p.good.rel r _ hr
 rw[hb] at h1;injection h1 with h1;injection h1 with e1 e2;subst e1;subst e2
 refine⟨ρ.put nx (b',s'),fun k=>if k=nx then φ0' r else φ k,?_,?_⟩
 ·subst hv
  exact .of_flat (.slc (by simp[Ren.put]))
 ·rw[two_eq]
  exact post_two g hi hj p hF hD hr (objR_int h2 hn)
theorem insert_ok{call:CallFn E.X}(hC:CallsOk E P W0 call){kf e t:Nat}(hrun:∀(C l k:Nat) (cs xs ra:List Value),k≤l→0<l→l≤1000→cs.length=l*e→xs.length=e→(C=l∧ra=[]∨l<C∧ra.length=e)→InsR call kf e t C l k cs xs ra)
  (hnil:∀(j nx:Nat) (xs:List Value),j<nx→xs.length=e→InsN call kf e t j nx xs):HookOk E P W0 kf (insertH e t):=by
 intro vs hp v h' hr ρ φ w hG vs' hvs
 unfold insertH at hr
 split at hr
 ·rename_i i o l cp k j o2 l2 c2
  cases hij:Nat.beq i j with
  |true=>rw[hij] at hr;cases hr
  |false =>
   rw[hij,cond_false] at hr
   have hne:i≠j:=fun e=>by subst e;rw[Nat.beq_refl] at hij;cases hij
   split at hr
   ·rename_i e' t' cs xs hi hj
    generalize hc:(Nat.beq e' e&&(Nat.beq t' t&&(Nat.beq o 0&&(Nat.beq o2 0&&(Nat.beq l cp&&(Nat.beq cs.length (l*e)&&(Nat.beq xs.length e&&(Nat.beq l2 1&&(Nat.beq c2 1&&(Nat.ble k l&&(Nat.blt 0 l&&(Nat.ble l 1000&&(cs.all isInt&&xs.all isInt)))))))))))))=c at hr
    cases c with
    |false=>cases hr
    |true =>
     rw[cond_true] at hr
     simp only[zI,Prod.mk.injEq] at hr
     obtain⟨rfl,rfl⟩:=hr
     simp only[Bool.and_eq_true,Nat.beq_eq,Nat.ble_eq,Nat.blt_eq] at hc
     obtain⟨rfl,rfl,rfl,rfl,rfl,hcl,hxl,rfl,rfl,hk,hl0,hl,hci,hxi⟩:=hc
     obtain⟨b,s,hb,ho⟩:=hG.rel i _ hi
     obtain⟨hF,hD,cs',e1,f,q1,q2,q3,q4,q5,ra0,q6⟩:=ho
     obtain⟨bj,sj,hbj,hoj⟩:=hG.rel j _ hj
     obtain⟨hsj,hFj,hDj,xs',ej,fj,r1,r2,r3⟩:=hoj
     subst hsj
     -- the small heap
     obtain⟨s1,ra,hroad,hsm⟩:∃s1 ra,(l+s=l∧ra=[]∧s1=0∨l<l+s∧ra.length=e'∧l+s=l+1+s1)∧∀ρ1:Ren,ObjR E ρ1 (.grown e' t' (cs++ra)) b s1 (φ i).1 (φ i).2 w:=by
      cases s with
      |zero =>
       refine⟨0,[],.inl ⟨rfl,rfl,rfl⟩,fun ρ1=>?_⟩
       rw[List.append_nil]
       exact⟨hF,hD,cs',e1,f,q1,q2,all_int hci q3,q4,q5,ra0,q6⟩
      |succ s1 =>
       have hlr:=q6.length
       have h5:(cs'.toList.drop cs.length).length=cs'.size-cs.length:=by rw[List.length_drop,Array.length_toList]
       have h6:(s1+1)*e'=s1*e'+e':=Nat.succ_mul _ _
       have h7:(ra0.take e').length=e':=by rw[List.length_take];omega
       refine⟨s1,ra0.take e',.inr ⟨by omega,h7,by omega⟩,fun ρ1=>⟨hF,hD,cs',e1,f,q1,?_,?_,q4,q5,ra0.drop e',?_⟩⟩
       ·rw[List.length_append,h7];omega
       ·rw[List.length_append,h7,List.take_add]
        exact(all_int hci q3).append ((q6.take e').mono fun _ _=>FR.mono (none_le ρ1))
       ·rw[List.length_append,h7,← List.drop_drop]
        exact q6.drop e'
     have hro:l+s=l∧ra=[]∨l<l+s∧ra.length=e':=by
      rcases hroad with⟨h1,h2,_⟩|⟨h1,h2,_⟩
      ·exact .inl ⟨h1,h2⟩
      ·exact .inr ⟨h1,h2⟩
     obtain⟨v,h2,r,sp,cp',hrn,rfl,hlr,hres⟩:=hrun (l+s) l k cs xs ra hk hl0 hl hcl hxl hro
     have hg2:=good_two (x:=(b,s1)) (y:=(bj,0)) hG hi hj hne (hsm _) (show ObjR E (ren2 (b,s1) (bj,0)) (.cells xs) bj 0 (φ j).1 (φ j).2 w from⟨rfl,hFj,hDj,xs',ej,fj,r1,all_int hxi r2,r3⟩)
     cases hvs with
     |cons a1 hvs =>
      cases hvs with
      |cons a2 hvs =>
       cases hvs with
       |cons a3 hvs =>
        cases hvs
        have f1:=a1.flat_slice
        have f3:=a3.flat_slice
        rw[a2.int_inv]
        cases f1 with
        |slc z1 =>
         rw[hb] at z1;injection z1 with z1;injection z1 with y1 y2;subst y1;subst y2
         cases f3 with
         |slc z3 =>
          rw[hbj] at z3;injection z3 with z3;injection z3 with y1 y2;subst y1;subst y2
          have key:∀{v' w' ρ' φ'},VR ρ' (.slice (some ⟨r,0,sp⟩) (l+1) cp') v'→Post (E:=E) W0 (ren2 (b,s1) (bj,0)) (fun k=>if k=0 then φ i else φ j) (fun k=>look k [(1,.cells xs),(0,.grown e' t' (cs++ra))]) 2 w ρ' φ' (fun k=>look k h2.tbl) h2.next w' →
            ∃ρ1 φ1,VR ρ1 (.slice (some ⟨hp.next,0,none⟩) (l+1) (l+1)) v'∧Post (E:=E) W0 ρ φ (fun k=>look k hp.tbl) hp.next w ρ1 φ1 (fun q=>look q ((hp.next,.grown e' t' (insL cs (k*e') xs))::del j (del i hp.tbl))) (hp.next+1) w':=by
           intro v' w' ρ' φ' p1 p2
           have pf:=p1.flat_slice
           have hfd:∀(X:(Nat→Prop)×(Nat→Prop)→Nat→Prop) (a:Nat) (o:AObj E.X) (c:Nat),look a ([(1,AObj.cells xs),(0,AObj.grown e' t' (cs++ra))]:List (Nat×AObj E.X))=some o→X (if a=0 then φ i else φ j) c→X (φ i) c∨X (φ j) c:=by
            intro X a o c _ h
            by_cases ha:a=0
            ·rw[if_pos ha] at h;exact .inl h
            ·rw[if_neg ha] at h;exact .inr h
           rcases hres with⟨rfl,rfl,rfl,hlt⟩|⟨rfl,rfl⟩
           ·cases pf with
            |slx z =>
             have h0:=p2.old 0 (by omega)
             have h0':ren2 (b,s1) (bj,0) 0=some (b,s1):=rfl
             rw[h0'] at h0
             rw[h0] at z;injection z with z;injection z with z1 z2;subst z1
             refine ins_post hG hi hj p2 (fun a o c=>hfd (fun x=>x.1) a o c) (fun a o c=>hfd (fun x=>x.2) a o c) hlr h0 (insL_int hci hxi) ?_
             rcases hroad with⟨h1,_,_⟩|⟨_,_,h3⟩
             ·omega
             ·rw[h3]
           ·cases pf with
            |slc z=>exact ins_post hG hi hj p2 (fun a o c=>hfd (fun x=>x.1) a o c) (fun a o c=>hfd (fun x=>x.2) a o c) hlr z (insL_int hci hxi) rfl
          have hvs0:All2 (VR (ren2 (b,s1) (bj,0))) [.slice (some ⟨0,0,some 1⟩) l (l+s),.int .i64 (.ofNat k),.slice (some ⟨1,0,none⟩) 1 1] [.slice (some ⟨b,0,none⟩) l (l+s),.int .i64 (.ofNat k),.slice (some ⟨bj,0,none⟩) 1 (1+0)] :=
           .cons (.of_flat (.slx (b:=b) (s:=s1) rfl)) (.cons (.of_flat (.int _ _)) (.cons (.of_flat (.slc (b:=bj) (s:=0) rfl)) .nil))
          rcases hC kf _ _ _ _ hrn _ _ w hg2 _ hvs0 with⟨hb1,hc⟩|⟨v',w',ρ',φ',hx1,p1,p2⟩
          ·refine .inl ⟨hb1,calls_mono hc ?_⟩
           rintro e2 w' ⟨v',ρ',φ',rfl,p1,p2⟩
           obtain⟨ρ1,φ1,p3,p4⟩:=key p1 p2
           exact⟨v',ρ1,φ1,rfl,p3,p4⟩
          ·obtain⟨ρ1,φ1,p3,p4⟩:=key p1 p2
           exact .inr ⟨v',w',ρ1,φ1,hx1,p3,p4⟩
   ·cases hr
 ·rename_i l cp k j o2 l2 c2
  split at hr
  ·rename_i xs hj
   generalize hc:(Nat.beq l 0&&(Nat.beq cp 0&&(Nat.beq k 0&&(Nat.beq o2 0&&(Nat.beq l2 1&&(Nat.beq c2 1&&(Nat.beq xs.length e&&xs.all isInt)))))))=c at hr
   cases c with
   |false=>cases hr
   |true =>
    rw[cond_true] at hr
    simp only[zI,Prod.mk.injEq] at hr
    obtain⟨rfl,rfl⟩:=hr
    simp only[Bool.and_eq_true,Nat.beq_eq] at hc
    obtain⟨rfl,rfl,rfl,rfl,rfl,rfl,hxl,hxi⟩:=hc
    obtain⟨v,h2,r,hrn,rfl,hlr⟩:=hnil j hp.next xs (hG.lt hj) hxl
    have hV:∀(k:Nat) (o:AObj E.X),look k ([(j,AObj.cells xs)]:List (Nat×AObj E.X))=some o→k=j∧look k hp.tbl=some o:=by
     intro k o h
     rw[zC] at h
     split at h
     ·rename_i e;injection h with h;subst h;exact⟨e,by rw[e];exact hj⟩
     ·simp[look] at h
    have hg1:Good (E:=E) W0 ρ φ (fun k=>look k [(j,AObj.cells xs)]) hp.next w:=hG.part (fun k o h=>(hV k o h).2) (Nat.le_refl _)
    have key:∀{v' w' ρ' φ'},VR ρ' (.slice (some ⟨r,0,none⟩) 1 1) v'→Post (E:=E) W0 ρ φ (fun k=>look k [(j,AObj.cells xs)]) hp.next w ρ' φ' (fun k=>look k h2.tbl) h2.next w' →
      ∃ρ1 φ1,VR ρ1 (.slice (some ⟨hp.next,0,none⟩) 1 1) v'∧Post (E:=E) W0 ρ φ (fun k=>look k hp.tbl) hp.next w ρ1 φ1 (fun k=>look k ((hp.next,.grown e t xs)::del j (del j hp.tbl))) (hp.next+1) w':=by
     intro v' w' ρ' φ' p1 p2
     cases p1.flat_slice with
     |slc z=>exact ins_post hG hj hj p2 (fun a o c h hx=>.inl ((hV a o h).1▸hx)) (fun a o c h hx=>.inl ((hV a o h).1▸hx)) hlr z hxi rfl
    rcases hC kf _ _ _ _ hrn _ _ w hg1 _ hvs with⟨hb1,hc⟩|⟨v',w',ρ',φ',hx1,p1,p2⟩
    ·refine .inl ⟨hb1,calls_mono hc ?_⟩
     rintro e2 w' ⟨v',ρ',φ',rfl,p1,p2⟩
     obtain⟨ρ1,φ1,p3,p4⟩:=key p1 p2
     exact⟨v',ρ1,φ1,rfl,p3,p4⟩
    ·obtain⟨ρ1,φ1,p3,p4⟩:=key p1 p2
     exact .inr ⟨v',w',ρ1,φ1,hx1,p3,p4⟩
  ·cases hr
 ·cases hr
end Go.AI
/- Parts of rows, and copies of rows: the steps. No program is named here. -/
namespace Go.AI
variable {X:Type}{call:CallFn X}{env:List (Nat×Value)}{m m':Mem X}
theorem ble_yes{a b:Nat}(h:a≤b):Nat.ble a b=true:=by rw[Nat.ble_eq];exact h
theorem beq_not{a b:Nat}(h:a≠b):Nat.beq a b=false:=by rw[← Bool.not_eq_true,Nat.beq_eq];exact h
theorem pv_slXlo{e i o len c q:Nat}{x y:Opd}(hx:evo env x=some (.slice (some ⟨i,o,some 1⟩) len c))(hy:evo env y=some (.int .i64 (.ofNat q)))(hq:q≤len)(hc:len≤c)(hqc:q<c):peval env (.slL e x (some y) none none)=some (.slice (some ⟨i,o+q*e,some 1⟩) (len-q) (c-q)):=by
 have h1:=ble_yes (Nat.le_refl c)
 have h2:=ble_yes hc
 have h3:=ble_yes hq
 have h4:Nat.beq c q=false:=beq_not (by omega)
 simp only[peval,hx,evopt,hy,Option.map,bounds,natOpt,natOf,h1,h2,h3,h4,sliceL,Option.isSome,Option.isNone,Bool.and_true,Bool.or_true,cond_true,cond_false]
theorem pv_slPlo{e i o len c q:Nat}{x y:Opd}(hx:evo env x=some (.slice (some ⟨i,o,none⟩) len c))(hy:evo env y=some (.int .i64 (.ofNat q)))(hq:q≤len)(hc:len≤c)(hqc:q<c):peval env (.slL e x (some y) none none)=some (.slice (some ⟨i,o+q*e,none⟩) (len-q) (c-q)):=by
 have h1:=ble_yes (Nat.le_refl c)
 have h2:=ble_yes hc
 have h3:=ble_yes hq
 have h4:Nat.blt q c=true:=by rw[Nat.blt_eq];exact hqc
 simp only[peval,hx,evopt,hy,Option.map,bounds,natOpt,natOf,h1,h2,h3,h4,sliceL,Option.isSome,Option.isNone,Bool.and_true,Bool.or_true,Bool.true_or,cond_true,cond_false]
theorem pv_slXhi{e i o len c q:Nat}{x y:Opd}(hx:evo env x=some (.slice (some ⟨i,o,some 1⟩) len c))(hy:evo env y=some (.int .i64 (.ofNat q)))(hq:q≤c)(h0:0<c):peval env (.slL e x none (some y) none)=some (.slice (some ⟨i,o+0*e,some 1⟩) (q-0) (c-0)):=by
 have h1:=ble_yes (Nat.le_refl c)
 have h2:=ble_yes hq
 have h3:=ble_yes (Nat.zero_le q)
 have h4:Nat.beq c 0=false:=beq_not (by omega)
 simp only[peval,hx,evopt,hy,Option.map,bounds,natOpt,natOf,h1,h2,h3,h4,sliceL,Option.isSome,Option.isNone,Bool.and_true,Bool.true_or,cond_true,cond_false]
theorem pv_slXany{e i o len c q:Nat}{x y:Opd}(hx:evo env x=some (.slice (some ⟨i,o,some 1⟩) len c))(hy:evo env y=some (.int .i64 (.ofNat q)))(hq:q≤len)(hc:len≤c):∃v,peval env (.slL e x (some y) none none)=some v:=by
 by_cases h:q<c
 ·exact⟨_,pv_slXlo hx hy hq hc h⟩
 ·have h1:=ble_yes (Nat.le_refl c)
  have h2:=ble_yes hc
  have h3:=ble_yes hq
  have h4:Nat.beq c q=true:=by rw[Nat.beq_eq];omega
  exact⟨_,by simp only[peval,hx,evopt,hy,Option.map,bounds,natOpt,natOf,h1,h2,h3,h4,sliceL,Option.isSome,Option.isNone,Bool.and_true,Bool.or_true,cond_true];rfl⟩
theorem pv_cap1{i o len c:Nat}{x:Opd}(hx:evo env x=some (.slice (some ⟨i,o,some 1⟩) len c)):peval env (.cap x)=some (.int .i64 (.ofNat c)):=by
 simp only[peval,hx]
 rfl
theorem estep_cpS{d e i o dl c b o2 sl c2 k:Nat}{sp sp2:Option Nat}{x y:Opd}{src:List Value}(hx:evo env x=some (.slice (some ⟨i,o,sp⟩) dl c))(hy:evo env y=some (.slice (some ⟨b,o2,sp2⟩) sl c2))(hk:(bif Nat.ble sl dl then sl else dl)=k)(h0:k≠0)(hl:m.loads (some ⟨b,o2,sp2⟩) (k*e)=some src)(hs:m.store ⟨i,o,none⟩ src=some m') :
  estep call env m (.copy d e x y)=some (.int .i64 (Int.ofNat k),m'):=by
 have q0:Nat.beq k 0=false:=beq_not h0
 simp only[estep,mstep,hx,hy,hk,q0,cond_false,hl,hs,Option.map]
theorem estep_appz{d e b t i o l cp k:Nat}{x y:Opd}{z old:List Value}{ob:AObj X}(hx:evo env x=some (.slice (some ⟨i,o,some 1⟩) l cp))(hy:evo env y=some (.int .i64 (.ofNat k)))(hi:m.get i=some ob)(he:exactB (some 1) ob=true)(h0:0<k)(hc:cp<l+k)(hr:roomy (l+k) b=true)(hl:m.loads (some ⟨i,o,none⟩) (l*e)=some old) :
  estep call env m (.appz d e b t z x y)=some (.slice (some ⟨m.next,0,none⟩) (l+k) (l+k),m.new true (.grown e t (old++rows k z))):=by
 have q1:Nat.blt 0 k=true:=by rw[Nat.blt_eq];exact h0
 have q2:Nat.blt cp (l+k)=true:=by rw[Nat.blt_eq];exact hc
 simp only[estep,mstep,hx,hy,hi,he,q1,q2,hr,Bool.and_true,cond_true,hl]
theorem estep_appX{d e b t i o l cp n:Nat}{x y:Opd}{src:List Value}{v:Value}{ob:AObj X}(hx:evo env x=some (.slice (some ⟨i,o,some 1⟩) l cp))(hy:evo env y=some v)(hsr:source m e v=some (n,src))(hi:m.get i=some ob)(he:exactB (some 1) ob=true)(h0:n≠0) :
  (∀m',l+n≤cp→m.store ⟨i,o+l*e,none⟩ src=some m'→estep call env m (.append d e b t x y)=some (.slice (some ⟨i,o,some 1⟩) (l+n) cp,m')) ∧
  (∀old,cp<l+n→roomy (l+n) b=true→m.loads (some ⟨i,o,none⟩) (l*e)=some old→estep call env m (.append d e b t x y)=some (.slice (some ⟨m.next,0,none⟩) (l+n) (l+n),m.new true (.grown e t (old++src)))):=by
 have q0:Nat.beq n 0=false:=beq_not h0
 refine⟨fun m' h hs=>?_,fun old h hr hl=>?_⟩
 ·have q1:=ble_yes h
  simp only[estep,mstep,hx,hy,appendM,hsr,hi,he,Bool.true_or,cond_true,q1,q0,cond_false,hs,Option.map]
 ·have q1:Nat.ble (l+n) cp=false:=by rw[← Bool.not_eq_true,Nat.ble_eq];omega
  simp only[estep,mstep,hx,hy,appendM,hsr,hi,he,Bool.true_or,cond_true,q1,cond_false,hr,hl]
theorem estep_appN{d e b t n:Nat}{x y:Opd}{src:List Value}{v:Value}(hx:evo env x=some (.slice none 0 0))(hy:evo env y=some v)(hsr:source m e v=some (n,src))(h0:n≠0)(hr:roomy (0+n) b=true) :
  estep call env m (.append d e b t x y)=some (.slice (some ⟨m.next,0,none⟩) (0+n) (0+n),m.new true (.grown e t src)):=by
 have q1:Nat.ble (0+n) 0=false:=by rw[← Bool.not_eq_true,Nat.ble_eq];omega
 simp only[estep,mstep,hx,hy,appendM,hsr,q1,cond_false,hr,Nat.beq_refl,Bool.and_true,cond_true]
end Go.AI
