/- The evaluator upon a region whose order is drawn: all of it. No program is named here. -/
import Derived.Test.YthoiknijhfnadaaGreatDoorAiDrawn5
namespace Go.AI
variable {E:Ext}{P:Program}{W0:World}
section
variable {call:CallFn E.X}{bf:List (List Nat)}{ops:Array Oper}{il:List (Option (Nat×Bool)×IOp)}{env0:List (Nat×Value)}{m0:Mem E.X}{ρ0:Ren}{φ0:Foot}{a0:Act}{w0:World}{N:Nat}{Z:DS E.X}{esc:Nat→Bool}
def unlisted(listed:Array Bool)(n:Nat):Nat:=(List.range n).countP fun k=>!listed.getD k false
theorem unlisted_set{listed:Array Bool}{n k:Nat}(hs:listed.size=n)(hk:k<n)(hn:¬isIn listed k):unlisted (listed.setIfInBounds k true) n+1=unlisted listed n:=by
 unfold unlisted
 have key:∀(l:List Nat),l.Nodup→(l.countP fun j=>!(listed.setIfInBounds k true).getD j false)+(if k∈l then 1 else 0)=l.countP fun j=>!listed.getD j false:=by
  intro l
  induction l with
  |nil=>intro _;simp
  |cons x l ih =>
   intro hnd
   have hnd':=List.nodup_cons.1 hnd
   have ih:=ih hnd'.2
   rw[List.countP_cons,List.countP_cons]
   have hx:=isIn_set (listed:=listed) (i:=k) (k:=x) (by rw[hs];exact hk)
   unfold isIn at hx hn
   by_cases e:x=k
   ·subst e
    have h1:(listed.setIfInBounds x true).getD x false=true:=hx.2 (.inl rfl)
    have h2:listed.getD x false=false:=by simpa using hn
    have h3:x∉l:=hnd'.1
    rw[h1,h2]
    simp only[h3,if_false,Nat.add_zero] at ih
    have hx1:x∈x::l:=List.mem_cons_self ..
    simp only[Bool.not_true,Bool.not_false,Bool.false_eq_true,if_false,if_true,hx1]
    omega
   ·have h1:(listed.setIfInBounds k true).getD x false=listed.getD x false:=by
     rw[Bool.eq_iff_iff,hx];simp[e]
    rw[h1]
    simp only[List.mem_cons,Ne.symm e,false_or]
    omega
 have:=key (List.range n) List.nodup_range
 simp only[List.mem_range,hk,if_true] at this
 exact this
theorem any_sound(c:Ctx E P W0 esc call bf ops il env0 m0 ρ0 φ0 a0 w0 N Z){Q:Exit→Act→World→Prop}
  (hQ:∀listed a w ρ φ B cs m ms,Inv W0 bf ops N m0 ρ0 φ0 a0 w0 Z listed a w ρ φ B [] cs [] m ms→(∀k,k<ops.size→isIn listed k)→Q .normal a w) :
  ∀(fuel:Nat) (listed:Array Bool) (a:Act) (w:World) (ρ:Ren) (φ:Foot) (B:Nat→Nat) (nc cs:List Nat) (ns:List (Mem E.X)) (m:Mem E.X) (ms:List (Mem E.X)),
   Inv W0 bf ops N m0 ρ0 φ0 a0 w0 Z listed a w ρ φ B nc cs ns m ms→unlisted listed ops.size≤fuel→wpAny P .any ops Q fuel listed a w:=by
 have fin:∀(listed:Array Bool) (a:Act) (w:World) (ρ:Ren) (φ:Foot) (B:Nat→Nat) (nc cs:List Nat) (ns:List (Mem E.X)) (m:Mem E.X) (ms:List (Mem E.X)),
   Inv W0 bf ops N m0 ρ0 φ0 a0 w0 Z listed a w ρ φ B nc cs ns m ms→(∀k,k<ops.size→isIn listed k)→Q .normal a w:=by
  intro listed a w ρ φ B nc cs ns m ms I hall
  have hnc:nc=[]:=by
   cases nc with
   |nil=>rfl
   |cons x l =>
    exfalso
    obtain⟨g,i,h1,_⟩:=c.chain (k:=x) (by rw[I.chain];simp)
    have hlt:x<ops.size:=by
     have h2:=il_len c.made
     rcases Nat.lt_or_ge x il.length with h'|h'
     ·rw[h2,Array.length_toList] at h';exact h'
     ·rw[List.getElem?_eq_none h'] at h1;cases h1
    exact I.ncs x (List.mem_cons_self ..) (hall x hlt)
  subst hnc
  have hns:ns=[]:=List.eq_nil_of_length_eq_zero (by have:=I.len;simpa using this)
  subst hns
  exact hQ listed a w ρ φ B cs m ms I hall
 have rdy:∀{listed:Array Bool} {a:Act} {w:World} {ρ:Ren} {φ:Foot} {B:Nat→Nat} {nc cs:List Nat} {ns:List (Mem E.X)} {m:Mem E.X} {ms:List (Mem E.X)},
   Inv W0 bf ops N m0 ρ0 φ0 a0 w0 Z listed a w ρ φ B nc cs ns m ms→∀k,k∈Region.ready .any ops listed→k<ops.size∧¬isIn listed k∧∀i,ordB bf i k=true→isIn listed i:=by
  intro listed a w ρ φ B nc cs ns m ms I k hk
  obtain⟨h1,o,ho,h2⟩:=mem_ready.1 hk
  have hlt:k<ops.size:=by
   rcases Nat.lt_or_ge k ops.size with h|h
   ·exact h
   ·simp[Array.getElem?_eq_none h] at ho
  refine⟨hlt,?_,?_⟩
  ·unfold isIn
   intro h
   rw[Array.getD_eq_getD_getElem?] at h h1
   have:k<listed.size:=by rw[I.lsz];exact hlt
   simp[this] at h h1
   rw[h] at h1;cases h1
  ·intro i hi
   rcases c.order.up k o i ho hi with⟨e,he,hb,rfl⟩|⟨e,he,hb,h⟩
   ·exact h2 e he hb
   ·exact I.closed e.on i (h2 e he hb) h
 have alls:∀{listed:Array Bool} {a:Act} {w:World} {ρ:Ren} {φ:Foot} {B:Nat→Nat} {nc cs:List Nat} {ns:List (Mem E.X)} {m:Mem E.X} {ms:List (Mem E.X)},
   Inv W0 bf ops N m0 ρ0 φ0 a0 w0 Z listed a w ρ φ B nc cs ns m ms→Region.ready .any ops listed=[]→∀k,k<ops.size→isIn listed k:=by
  intro listed a w ρ φ B nc cs ns m ms I hr k
  induction k using Nat.strongRecOn with
  |_ k ih =>
   intro hk
   by_cases hin:isIn listed k
   ·exact hin
   ·exfalso
    have:k∈Region.ready .any ops listed:=by
     refine mem_ready.2 ⟨?_,ops[k],by simp[hk],?_⟩
     ·unfold isIn at hin
      rw[Array.getD_eq_getD_getElem?] at hin ⊢
      have:k<listed.size:=by rw[I.lsz];exact hk
      simp[this] at hin ⊢
      exact hin
     ·intro e he hb
      have h1:=c.order.edge k ops[k] e (by simp[hk]) he hb
      have h2:=c.order.lt _ _ h1
      exact ih e.on h2 (by omega)
    rw[hr] at this;cases this
 intro fuel
 induction fuel with
 |zero =>
  intro listed a w ρ φ B nc cs ns m ms I hf
  have hr:Region.ready .any ops listed=[]:=by
   cases hq:Region.ready .any ops listed with
   |nil=>rfl
   |cons x l =>
    exfalso
    obtain⟨h1,h2,_⟩:=rdy I x (by rw[hq];simp)
    have:=unlisted_set I.lsz h1 h2
    omega
  exact⟨hr,fin _ _ _ _ _ _ _ _ _ _ _ I (alls I hr)⟩
 |succ fuel ih =>
  intro listed a w ρ φ B nc cs ns m ms I hf
  refine⟨fun hr=>fin _ _ _ _ _ _ _ _ _ _ _ I (alls I hr),fun k hk=>?_⟩
  obtain⟨h1,h2,h3⟩:=rdy I k hk
  refine c.step I h1 h2 h3 ?_
  intro a' w' ρ' φ' B' nc' cs' ns' m' ms' I'
  have:=unlisted_set I.lsz h1 h2
  exact ih _ _ _ _ _ _ _ _ _ _ _ I' (by omega)
theorem drawn_sound{id:Nat}{env':List (Nat×Value)}{m m':Mem E.X}{ρ:Ren}{φ:Foot}{a:Act}{w:World}{Q:Exit→Act→World→Prop}(hmix:P.follows .mixedOrders=true)(hC:CallsOk E P W0 call)
  (hm:mkOps P esc N ops.toList ops.toList=some il) (hbf:bf=befores ops.toList []) (hb:bfOk 0 bf=true) (ho:slotsOnce il=true) (hr:drawnRun call il bf env0 m=some (env',m')) (hs:St E W0 ρ φ env0 m N a w)
  (hQ:∀a' w' ρ' φ',To E W0 ρ φ m w ρ' φ' env' m' N a' w'→Q .normal a' w'):(Code.region id ops true).wp P Q a w:=by
 refine wp_region_any hmix ?_
 have hord:=order_of hbf hb
 unfold drawnRun at hr
 split at hr
 ·rename_i Z hZ
  cases hh:heldAll bf Z Z.lds with
  |false=>rw[hh] at hr;cases hr
  |true =>
   rw[hh,cond_true] at hr
   split at hr
   ·rename_i mu mus hmu
    simp only[zI,Prod.mk.injEq] at hr
    obtain⟨rfl,rfl⟩:=hr
    have hc:Ctx E P W0 esc call bf ops il env0 m ρ φ a w N Z:=⟨hm,hord,ho,fun k g i hk=>by
     have:=drun_fact hord.lt hZ k g i hk
     rw[Nat.zero_add] at this;exact this,drun_once hord.lt hZ,hh,hC,hs.er⟩
    have hlen:il.length=ops.size:=by rw[il_len hm,Array.length_toList]
    have hgr:=drun_grow hZ
    obtain⟨nc,ns,c1,c2,c3,c4⟩:=hgr.chain
    have hget:(⟨m.loc,m.tbl,m.next+il.length⟩:Mem E.X).get=m.get:=rfl
    have p0:Post (E:=E) W0 ρ φ m.get m.next w ρ φ (⟨m.loc,m.tbl,m.next+il.length⟩:Mem E.X).get (m.next+il.length) { w with drawn:=w.drawn+1 } :=
     (Post.world (w':={ w with drawn:=w.drawn+1 }) hs.good rfl rfl rfl).part (fun i o h=>h) (Nat.le_add_right _ _)
    have hnot:∀k,¬isIn (Array.replicate ops.size false) k:=by
     intro k h
     unfold isIn at h
     rw[Array.getD_eq_getD_getElem?,Array.getElem?_replicate] at h
     split at h<;>simp at h
    have I0:Inv W0 bf ops N m ρ φ a w Z (Array.replicate ops.size false) a { w with drawn:=w.drawn+1 } ρ φ (fun _=>0) nc [] ns ⟨m.loc,m.tbl,m.next+il.length⟩ []:=by
     refine⟨by simp,fun k i h=>(hnot k h).elim,c1,c2,c3,rfl,fun c _=>hnot c,by simp,p0,hs.sep,by simp only[hlen];exact Nat.le_refl _,fun k d v _ h=>(hnot k h).elim,fun s _=>rfl,hs.sz,hs.df,fun f _ h=>(hnot _ h).elim,fun f _ g _ h=>(hnot _ h).elim,fun f hf _=>?_⟩
     refine⟨hs.good.dom _ (by omega),?_⟩
     rw[hget]
     cases hq:m.get (m.next+f.1) with
     |none=>rfl
     |some x=>have:=hs.good.lt hq;omega
    refine any_sound hc ?_ ops.size _ _ _ _ _ _ _ _ _ _ _ I0 ?_
    ·intro listed a' w' ρ' φ' B cs mm ms I hall
     refine ?_
     have hmm:mm=mu∧ms=mus:=by
      have:=I.snaps
      rw[hmu] at this
      simp only[List.nil_append,List.cons.injEq] at this
      exact⟨this.1.symm,this.2.symm⟩
     obtain⟨rfl,rfl⟩:=hmm
     have hcs:Z.chain=cs:=by rw[I.chain];rfl
     have hmem:∀f,f∈(Z.fls.filter fun f=>Z.chain.all fun c=>!ordB bf f.1 c)↔f∈Z.fls∧∀c∈cs,ordB bf f.1 c=false:=by
      intro f
      rw[List.mem_filter,hcs]
      simp only[List.all_eq_true,Bool.not_eq_true']
     obtain⟨φ1,p1,p2,p3,p4,p5⟩:=lay_sound (B:=B) (Nat.le_refl m.next) (Z.fls.filter fun f=>Z.chain.all fun c=>!ordB bf f.1 c) mm φ' rfl I.sep I.post
      (fun f hf=>by
       obtain⟨q1,q2⟩:=(hmem f).1 hf
       exact I.loose f q1 (hall _ (hc.flt q1)) q2)
      ((hc.flsN).sublist ((List.filter_sublist).map _))
      (fun f hf g hg=>by
       obtain⟨q1,q2⟩:=(hmem f).1 hf
       obtain⟨r1,r2⟩:=(hmem g).1 hg
       exact I.inj f q1 g r1 (hall _ (hc.flt q1)) (hall _ (hc.flt r1)) q2 r2)
     rw[← p3] at p1
     refine hQ a' w' ρ' φ1 ⟨⟨?_,I.sz,I.df,p2,p1.good⟩,p1⟩
     intro s v h
     rw[look_append] at h
     cases hq:look s (slotsOf Z.vals) with
     |some v' =>
      rw[hq] at h
      simp only[Option.some_or,zI] at h;subst h
      obtain⟨k,hk⟩:=mem_slots.1 (look_mem hq)
      obtain⟨g,i,h1,_⟩:=hc.vals hk
      have hlt:k<ops.size:=by
       rcases Nat.lt_or_ge k il.length with h'|h'
       ·omega
       ·rw[List.getElem?_eq_none h'] at h1;cases h1
      exact I.slots k s _ hk (hall k hlt)
     |none =>
      rw[hq,Option.none_or] at h
      rw[I.rest s fun k v' hv _=>look_none hq v' (mem_slots.2 ⟨k,hv⟩)]
      exact(hs.er s v h).mono I.post.le
    ·unfold unlisted
     have:=List.countP_le_length (p:=fun k=>!(Array.replicate ops.size false).getD k false) (l:=List.range ops.size)
     simpa using this
   ·cases hr
 ·cases hr
end
end Go.AI
