/- The evaluator: regions, code, functions. What it answers the model answers: the main theorem. No program is named here. -/
import Derived.Test.YthoiknijhfnadaaGreatDoorKStep
import Derived.LoopN
namespace Go.AI
structure Hp(X:Type) where
 tbl:List (Nat×AObj X)
 next:Nat
inductive Ex where
 |norm
 |exit (id:Nat)
 |ret
section
variable {X:Type}
abbrev CallFn(X:Type):=Nat→List Value→Hp X→Option (Value×Hp X)
def putEnv(d:Option Nat)(v:Value)(env:List (Nat×Value)):List (Nat×Value) :=
 match d with
 |some d=>(d,v)::env
 |none=>env
def estep(call:CallFn X)(env:List (Nat×Value))(m:Mem X)(i:IOp):Option (Value×Mem X) :=
 match i with
 | .pure _ p=>match peval env p with
  |some v=>some (v,m)
  |none=>none
 | .call _ f xs=>match evo env f,evs env xs with
  |some (.func (.func k) _ caps),some vs=>match call k (vs++caps.toList) ⟨m.tbl,m.next⟩ with
   |some (v,h)=>some (v,⟨m.loc,h.tbl,h.next⟩)
   |none=>none
  |_,_=>none
 |i=>mstep env m i
def wanted(env:List (Nat×Value)):Option (Nat×Bool)→Option Bool
 |none=>some true
 |some (d,w)=>match look d env with
  |some (.bool b)=>some (b == w)
  |some (.tuple _)=>some false
  |_=>none
def runOps(call:CallFn X):List (Option (Nat×Bool)×IOp)→List (Nat×Value)→Mem X→Option (List (Nat×Value)×Mem X)
 |[],env,m=>some (env,m)
 |(g,i)::r,env,m=>match wanted env g with
  |some true=>match estep call env m i with
   |some (v,m')=>runOps call r (putEnv i.dst v env) m'
   |none=>none
  |some false=>runOps call r (putEnv i.dst undef env) m
  |none=>none
end
structure St(E:Ext)(W0:World)(ρ:Ren)(φ:Foot)(env:List (Nat×Value))(m:Mem E.X)(N:Nat)(a:Act)(w:World):Prop where
 er:ER ρ env a
 sz:a.tmps.size=N
 df:a.defers=[]
 sep:m.Sep
 good:Good (E:=E) W0 ρ φ m.get m.next w
structure To(E:Ext)(W0:World)(ρ:Ren)(φ:Foot)(m:Mem E.X)(w:World)(ρ':Ren)(φ':Foot)(env':List (Nat×Value))(m':Mem E.X)(N:Nat)(a':Act)(w':World):Prop where
 st:St E W0 ρ' φ' env' m' N a' w'
 post:Post (E:=E) W0 ρ φ m.get m.next w ρ' φ' m'.get m'.next w'
def CallsOk(E:Ext)(P:Program)(W0:World)(call:CallFn E.X):Prop :=
 ∀k vs h v h',call k vs h=some (v,h')→∀ρ φ w,Good (E:=E) W0 ρ φ (fun i=>look i h.tbl) h.next w→∀vs',All2 (VR ρ) vs vs' →
  ((∃fn c,P.funcs[k]? = some fn∧fn.body=some c∧(fn.name == "runtime.NumGoroutine")=false) ∧
  Calls P k ⟨vs'⟩ w fun e w'=>∃v' ρ' φ',e = .returned v'∧VR ρ' v v'∧Post (E:=E) W0 ρ φ (fun i=>look i h.tbl) h.next w ρ' φ' (fun i=>look i h'.tbl) h'.next w') ∨
  ∃v' w' ρ' φ',(callFunc k ⟨vs'⟩).run P w = .ok (.value v') w'∧VR ρ' v v'∧Post (E:=E) W0 ρ φ (fun i=>look i h.tbl) h.next w ρ' φ' (fun i=>look i h'.tbl) h'.next w'
section
variable {E:Ext}{P:Program}{W0:World}{ρ ρ':Ren}{φ φ':Foot}{m m':Mem E.X}{w w':World}{env env':List (Nat×Value)}{a a':Act}{N:Nat}{call:CallFn E.X}
theorem ER.mono(h:ER ρ env a)(hl:ρ.le ρ'):ER ρ' env a:=fun s v e=>(h s v e).mono hl
theorem er_put{d:Nat}{v v':Value}(h:ER ρ env a)(hd:d<a.tmps.size)(hv:VR ρ v v'):ER ρ ((d,v)::env) (a.put (some d) v'):=by
 intro s x hx
 rw[zC] at hx
 simp only[Act.put]
 by_cases hs:s=d
 ·subst hs
  simp only[if_true,zI] at hx;subst hx
  simp[hd];exact hv
 ·simp only[hs,if_false] at hx
  have:=h s x hx
  simp only[Array.getD_eq_getD_getElem?,Array.getElem?_setIfInBounds,Ne.symm hs,if_false] at this ⊢
  exact this
theorem size_put(d:Option Nat)(v:Value):(a.put d v).tmps.size=a.tmps.size:=by
 cases d<;>simp[Act.put]
theorem defers_put(d:Option Nat)(v:Value):(a.put d v).defers=a.defers:=by
 cases d<;>rfl
theorem Mem.get_call(m:Mem E.X)(tbl:List (Nat×AObj E.X))(n:Nat):(⟨m.loc,tbl,n⟩:Mem E.X).get=fun i=>(look i m.loc).or (look i tbl):=by
 funext i;exact Mem.get_eq (⟨m.loc,tbl,n⟩:Mem E.X) i
theorem st_next{d:Option Nat}{v v':Value}(hs:St E W0 ρ φ env m N a w)(hd:∀x,d=some x→x<N)(hv:VR ρ' v v')(hp:Post (E:=E) W0 ρ φ m.get m.next w ρ' φ' m'.get m'.next w')(hsep:m'.Sep) :
  St E W0 ρ' φ' (putEnv d v env) m' N (a.put d v') w' where
 er:=by
  have h:=hs.er.mono hp.le
  cases d with
  |none=>exact h
  |some d=>exact er_put h (by rw[hs.sz];exact hd d rfl) hv
 sz:=by rw[size_put];exact hs.sz
 df:=by rw[defers_put];exact hs.df
 sep:=hsep
 good:=hp.good
theorem undef_vr:VR ρ undef undef:=.tup (xs:=[]) (ys:=[]) .nil
theorem call_wp{o:Oper}{f:Operand}{as:Array Operand}{ts:Array TypeId}{d:Option Nat}{f':Opd}{xs:List Opd}{v:Value}(hop:o.op = .call ⟨.value f,as,ts⟩)(hf:mkOpd f=some f')(hxs:mkOpds as.toList=some xs)
  (hC:CallsOk E P W0 call) (hs:St E W0 ρ φ env m N a w) (he:estep call env m (.call d f' xs)=some (v,m')) {next:Act→World→Prop} {Q:Exit→Act→World→Prop}
  (hK:∀v' w' ρ' φ',VR ρ' v v'→Post (E:=E) W0 ρ φ m.get m.next w ρ' φ' m'.get m'.next w'→m'.Sep→next (a.put o.dst v') w'):o.wp P a w next Q:=by
 simp only[estep] at he
 split at he
 ·rename_i k fst caps vs hfv hvs
  split at he
  ·rename_i v0 h0 hcall
   simp only[zI,Prod.mk.injEq] at he
   obtain⟨rfl,rfl⟩:=he
   have hfv':=opd_sound hf hfv hs.er
   have hall:=opds_sound hxs hvs hs.er
   obtain⟨ds,hfe,hcaps⟩:∃ds:List Value,a.eval f = .func (.func k) #[] ⟨ds⟩∧All2 (VR ρ) caps.toList ds:=by
    generalize a.eval f=q at hfv'
    cases hfv' with|x h=>cases h with|flat h=>cases h with
     |fn k h =>
      rename_i cs ds
      refine⟨_,rfl,?_⟩
      show All2 (VR ρ) (cs.map fun a=>.pointer (some a)) (ds.map fun a=>.pointer (some a))
      clear hfv hcall
      induction h with
      |nil=>exact .nil
      |cons hr _ ih=>cases hr with|mk hr=>exact .cons (.of_flat (.ptr hr)) ih
   have hsub:∀i o,look i m.tbl=some o→m.get i=some o:=by
    intro i o h
    unfold Mem.get
    cases hl:look i m.loc with
    |some x=>exact(hs.sep i x o hl h).elim
    |none=>exact h
   have hg:=hs.good.part (V':=fun i=>look i m.tbl) hsub (Nat.le_refl _)
   have hargs:(as.map a.eval)++(⟨ds⟩:Array Value)=⟨as.toList.map a.eval++ds⟩:=by
    apply Array.ext';rw[Array.toList_append,Array.toList_map]
   have last:∀v' w'' ρ' φ',VR ρ' v0 v'→Post (E:=E) W0 ρ φ (fun i=>look i m.tbl) m.next w ρ' φ' (fun i=>look i h0.tbl) h0.next w''→next (a.put o.dst v') w'':=by
    intro v' w'' ρ' φ' hv hp
    obtain⟨φ'',hp'⟩:=Post.beside hs.good (A:=fun i=>look i m.loc) (B:=fun i=>look i m.tbl) (fun i o h=>by unfold Mem.get;rw[h]) hsub (fun i x y=>hs.sep i x y) hp
    refine hK v' w'' ρ' φ'' hv ?_ ?_
    ·have e:=Mem.get_call m h0.tbl h0.next
     rw[e];exact hp'
    ·intro i x y hx hy
     rcases hp.ids i y hy with h|⟨z,hz⟩
     ·have h:m.next≤i:=h
      have:=hs.good.lt (i:=i) (o:=x) (by unfold Mem.get;rw[hx]);omega
     ·exact hs.sep i x z hx hz
   rcases hC _ _ _ _ _ hcall ρ φ w hg (as.toList.map a.eval++ds) (hall.append hcaps) with⟨⟨fn,c,h1,h2,h3⟩,hcalls⟩|⟨v',w'',ρ',φ',hx,hv,hp⟩
   rotate_left
   ·have hrun:(execOp a.eval o).run P w = .ok (.value v') w'':=by
     simp only[execOp,hop,resolve,hfe,Deferred.ofValue,Sem.run_bind,Sem.run_pure,Result.andThen_ok,invoke,Array.empty_append,hargs,hx]
    unfold Oper.wp
    rw[hrun]
    exact last v' w'' ρ' φ' hv hp
   have hrun:(execOp a.eval o).run P w = .ok (.enter k ⟨as.toList.map a.eval++ds⟩) w:=by
    simp only[execOp,hop,resolve,hfe,Deferred.ofValue,Sem.run_bind,Sem.run_pure,Result.andThen_ok,invoke,Array.empty_append,hargs,callFunc,run_program,h1,h3,Bool.false_eq_true,if_false,h2,Option.isNone_some]
   unfold Oper.wp
   rw[hrun]
   refine Calls.mono hcalls ?_
   rintro e w'' ⟨v',ρ',φ',rfl,hv,hp⟩
   exact last v' w'' ρ' φ' hv hp
  ·cases he
 ·cases he
theorem mem_ok1{esc:Nat→Bool}{o:Oper}{i:IOp}(hm:mkOp1 P esc N o=some i)(hp:∀d p,i≠.pure d p)(hc:∀d f xs,i≠.call d f xs):StepOk E P env a o.op i:=by
 obtain⟨dst,op,ty,pos,af,gd⟩:=o
 cases dst with
 |none =>
  simp only[mkOp1] at hm
  cases op with
  |store t x y =>
   simp only at hm
   split at hm
   ·rename_i n x' y' h1 h2 h3
    injection hm with hm;subst hm
    exact step_store t x y h1 h2 h3
   ·cases hm
  |call c =>
   obtain⟨callee,as,ts⟩:=c
   cases callee with
   |value f =>
    simp only at hm
    split at hm
    ·injection hm with hm;exact(hc _ _ _ hm.symm).elim
    ·cases hm
   |builtin b =>
    cases b with
    |clear =>
     simp only at hm
     split at hm
     ·rename_i x t hxs ht
      split at hm
      ·rename_i e hu
       split at hm
       ·rename_i z hz
        injection hm with hm;subst hm
        exact step_clear _ _ ht hu hz hxs
       ·cases hm
      ·cases hm
     ·cases hm
    |_=>cases hm
   |invoke r m=>cases hm
  |mapUpdate t m k x =>
   simp only at hm
   split at hm
   ·rename_i kt e hu
    split at hm
    ·rename_i ik x' y' u' hk hx hy hv
     injection hm with hm;subst hm
     exact step_mset _ _ _ _ hu hk hx hy hv
    ·cases hm
   ·cases hm
  |entryStore t m s x =>
   simp only at hm
   split at hm
   ·rename_i m' s' x' h1 h2 h3
    injection hm with hm;subst hm
    exact step_ests t m s x h1 h2 h3
   ·cases hm
  |_=>cases hm
 |some d =>
  simp only[mkOp1] at hm
  cases hd:Nat.blt d N with
  |false=>rw[hd] at hm;cases hm
  |true =>
   rw[hd,cond_true] at hm
   split at hm
   ·injection hm with hm;exact(hp _ _ hm.symm).elim
   ·split at hm
    ·-- load
     split at hm
     ·rename_i g n y h1 h2 h3
      split at hm
      ·cases hm
      ·rename_i hz
       injection hm with hm;subst hm
       refine step_load _ _ h1 ⟨n,h2,rfl⟩ ?_ h3
       cases g with
       |true =>
        simp only[Bool.true_and] at hz
        intro e
        simp only[cond_true] at e
        rw[e] at hz;simp at hz
       |false=>simp
     ·cases hm
    ·split at hm
     ·rename_i z hz
      split at hm
      ·injection hm with hm;subst hm;exact step_newt _ hz
      ·injection hm with hm;subst hm;exact step_of_alloc (alloc_new _ hz) fun m=>rfl
     ·cases hm
    ·simp only[Option.map_eq_some_iff] at hm
     obtain⟨y,hy,rfl⟩:=hm
     exact step_of_alloc (alloc_box _ _ hy) fun m=>rfl
    ·split at hm
     ·rename_i e hu
      split at hm
      ·rename_i z k qs h1 h2 h3
       split at hm
       ·rename_i hle
        injection hm with hm;subst hm
        exact step_of_alloc (alloc_bslice _ _ _ hu h1 h2 h3 hle) fun m=>rfl
       ·cases hm
      ·cases hm
     ·cases hm
    ·split at hm
     ·rename_i e hu
      split at hm
      ·rename_i i hi
       split at hm
       ·rename_i z l' c' h1 h2 h3
        injection hm with hm;subst hm
        exact step_mslice _ _ _ hu hi h1 h2 h3
       ·cases hm
      ·cases hm
     ·cases hm
    ·split at hm
     ·rename_i e h1 h2
      split at hm
      ·rename_i h3
       simp only[Option.map_eq_some_iff] at hm
       obtain⟨y,hy,rfl⟩:=hm
       exact step_s2b _ _ _ h1 h2 h3 hy
      ·cases hm
     ·rename_i e h1 h2
      split at hm
      ·rename_i h3
       simp only[Option.map_eq_some_iff] at hm
       obtain⟨y,hy,rfl⟩:=hm
       exact step_b2s _ _ _ h1 h2 h3 hy
      ·cases hm
     ·rename_i u h1 h2
      split at hm
      ·rename_i j hj
       split at hm
       ·cases hm
       ·rename_i hne
        simp only[Option.map_eq_some_iff] at hm
        obtain⟨y,hy,rfl⟩:=hm
        exact step_tou _ _ _ _ h1 h2 hj hne hy
      ·cases hm
     ·rename_i u h1 h2
      split at hm
      ·rename_i j hj
       split at hm
       ·rename_i hl
        simp only[Option.map_eq_some_iff] at hm
        obtain⟨y,hy,rfl⟩:=hm
        exact step_fromu _ _ _ _ h1 h2 hj hl hy
       ·cases hm
      ·cases hm
     ·cases hm
    ·split at hm
     ·injection hm with hm;exact(hc _ _ _ hm.symm).elim
     ·cases hm
    ·split at hm
     ·rename_i xs t hxs ht
      split at hm
      ·rename_i x y e hu _
       split at hm
       ·rename_i i u hi ht1
        split at hm
        ·rename_i z q hz hq
         split at hm
         ·cases hm
         ·rename_i hne
          injection hm with hm;subst hm
          simp only[Bool.or_eq_true,decide_eq_true_eq,not_or] at hne
          exact step_append _ _ ht ht1 hu (.inl ⟨_,hq⟩) hi hz hne.1 hne.2 hxs
        ·rename_i z hz hq
         split at hm
         ·cases hm
         ·rename_i hne
          injection hm with hm;subst hm
          simp only[Bool.or_eq_true,decide_eq_true_eq,not_or] at hne
          exact step_append _ _ ht ht1 hu (.inr hq) hi hz hne.1 hne.2 hxs
        ·rename_i z kn hz hq
         split at hm
         ·cases hm
         ·rename_i hne
          injection hm with hm;subst hm
          simp only[Bool.or_eq_true,decide_eq_true_eq,not_or,Bool.not_eq_true',Bool.not_eq_false,Nat.beq_eq] at hne
          exact step_appz _ _ ht ht1 hu hq hi hz hne.1.1 hne.1.2 hxs hne.2
        ·cases hm
       ·cases hm
      ·rename_i x y e hu _
       split at hm
       ·rename_i n hn
        split at hm
        ·cases hm
        ·rename_i hne
         injection hm with hm;subst hm
         exact step_copy _ _ ht hu hn hne hxs
       ·cases hm
      ·rename_i x e hu _
       simp only[Option.map_eq_some_iff] at hm
       obtain⟨z,hz,rfl⟩:=hm
       exact step_clear _ _ ht hu hz hxs
      ·rename_i m1 kt e hu _
       injection hm with hm;subst hm
       exact step_mlen _ _ ht ⟨_,_,hu⟩ hxs
      ·injection hm with hm;subst hm
       exact step_usd _ _ hxs
      ·rename_i x y e hu _
       split at hm
       ·rename_i hce
        injection hm with hm;subst hm
        exact step_ustr _ _ ht hu hce hxs
       ·cases hm
      ·cases hm
     ·cases hm
    ·injection hm with hm;subst hm
     exact step_mmap _
    ·split at hm
     ·rename_i kt e hu
      split at hm
      ·rename_i ik z x y hk hz hx hy
       injection hm with hm;subst hm
       exact step_mget _ _ _ _ hu hk hz hx hy
      ·cases hm
     ·cases hm
    ·split at hm
     ·rename_i kt e hu
      split at hm
      ·rename_i ik z x y hk hz hx hy
       injection hm with hm;subst hm
       exact step_ment _ _ _ hu hk hz hx hy
      ·cases hm
     ·cases hm
    ·cases hm
theorem dst_ok1{esc:Nat→Bool}{o:Oper}{i:IOp}(hm:mkOp1 P esc N o=some i):o.dst=i.dst∧∀x,i.dst=some x→x<N:=by
 obtain⟨dst,op,ty,pos,af,gd⟩:=o
 cases dst with
 |none =>
  have:i.dst=none:=by
   simp only[mkOp1] at hm
   repeat(first|contradiction|(injection hm with hm;subst hm;rfl)|split at hm)
  rw[this]
  exact⟨rfl,fun x h=>by cases h⟩
 |some d =>
  simp only[mkOp1] at hm
  cases hd:Nat.blt d N with
  |false=>rw[hd] at hm;cases hm
  |true =>
   rw[hd,cond_true] at hm
   rw[blt_iff,decide_eq_true_eq] at hd
   have:i.dst=some d:=by
    split at hm
    ·injection hm with hm;subst hm;rfl
    ·split at hm
     all_goals repeat(first|contradiction|(injection hm with hm;subst hm;rfl)|(simp only[Option.map_eq_some_iff] at hm;obtain⟨_,_,rfl⟩:=hm;rfl)|split at hm)
   rw[this]
   exact⟨rfl,fun x h=>by injection h with h;subst h;exact hd⟩
theorem estep_wp1{esc:Nat→Bool}{o:Oper}{i:IOp}{v:Value}(hm:mkOp1 P esc N o=some i)(hC:CallsOk E P W0 call)(hs:St E W0 ρ φ env m N a w)(he:estep call env m i=some (v,m')){next:Act→World→Prop}{Q:Exit→Act→World→Prop}
  (hK:∀v' w' ρ' φ',VR ρ' v v'→Post (E:=E) W0 ρ φ m.get m.next w ρ' φ' m'.get m'.next w'→m'.Sep→next (a.put o.dst v') w'):o.wp P a w next Q:=by
 by_cases hp:∃d p,i = .pure d p
 ·obtain⟨d,p,rfl⟩:=hp
  simp only[estep] at he
  split at he
  ·rename_i v0 hv0
   simp only[zI,Prod.mk.injEq] at he
   obtain⟨rfl,rfl⟩:=he
   obtain⟨dst,op,ty,pos,af,gd⟩:=o
   have hmp:mkPure P op=some p:=by
    cases dst with
    |none =>
     simp only[mkOp1] at hm
     exfalso
     repeat(first|contradiction|(injection hm with hm;contradiction)|split at hm)
    |some d' =>
     simp only[mkOp1] at hm
     cases hd:Nat.blt d' N with
     |false=>rw[hd] at hm;cases hm
     |true =>
      rw[hd,cond_true] at hm
      split at hm
      ·rename_i q hq
       injection hm with hm;injection hm with _ h;subst h;exact hq
      ·exfalso
       split at hm
       all_goals repeat(first|contradiction|(injection hm with hm;contradiction)|(simp only[Option.map_eq_some_iff] at hm;obtain⟨_,_,h⟩:=hm;contradiction)|split at hm)
   obtain⟨v',h1,h2⟩:=pure_sound op p v0 hmp hv0 hs.er w dst ty pos af gd
   unfold Oper.wp
   rw[h1]
   exact hK v' w ρ φ h2 (Post.refl hs.good) hs.sep
  ·cases he
 ·by_cases hc:∃d f xs,i = .call d f xs
  ·obtain⟨d,f,xs,rfl⟩:=hc
   obtain⟨dst,op,ty,pos,af,gd⟩:=o
   have:∃fo as ts,op = .call ⟨.value fo,as,ts⟩∧mkOpd fo=some f∧mkOpds as.toList=some xs:=by
    cases dst with
    |none =>
     simp only[mkOp1] at hm
     split at hm
     ·repeat(first|contradiction|(injection hm with hm;contradiction)|split at hm)
     ·rename_i fo as ts
      split at hm
      ·rename_i f0 xs0 h1 h2
       injection hm with hm;injection hm with _ e1 e2;subst e1;subst e2
       exact⟨fo,as,_,rfl,h1,h2⟩
      ·contradiction
     all_goals repeat(first|contradiction|(injection hm with hm;contradiction)|split at hm)
    |some d' =>
     simp only[mkOp1] at hm
     cases hd:Nat.blt d' N with
     |false=>rw[hd] at hm;cases hm
     |true =>
      rw[hd,cond_true] at hm
      split at hm
      ·injection hm with hm;contradiction
      ·split at hm
       case h_7 =>
        rename_i fo as ts _
        split at hm
        ·rename_i f0 xs0 h1 h2
         injection hm with hm;injection hm with _ e1 e2;subst e1;subst e2
         exact⟨fo,as,_,rfl,h1,h2⟩
        ·contradiction
       all_goals repeat(first|contradiction|(injection hm with hm;contradiction)|(simp only[Option.map_eq_some_iff] at hm;obtain⟨_,_,h⟩:=hm;contradiction)|split at hm)
   obtain⟨fo,as,ts,rfl,h1,h2⟩:=this
   exact call_wp rfl h1 h2 hC hs he hK
  ·have hok:=mem_ok1 (E:=E) (env:=env) (a:=a) hm (fun d p e=>hp ⟨d,p,e⟩) (fun d f xs e=>hc ⟨d,f,xs,e⟩)
   obtain⟨dst,op,ty,pos,af,gd⟩:=o
   have hms:mstep env m i=some (v,m'):=by
    unfold estep at he
    split at he
    ·exact(hp ⟨_,_,rfl⟩).elim
    ·exact(hc ⟨_,_,_,rfl⟩).elim
    ·exact he
   obtain⟨r,w',ρ',φ',k1,k2,_,k4,k5⟩:=hok W0 ρ φ m m' v w hms hs.er hs.good hs.sep dst ty pos af gd
   unfold Oper.wp
   rw[k1]
   cases r with
   |value v'=>exact hK v' w' ρ' φ' k2 k4 k5
   |skip =>
    have:v=undef:=k2
    subst this
    exact hK undef w' ρ' φ' undef_vr k4 k5
   |_=>exact k2.elim
theorem mkOp_inv{esc:Nat→Bool}{o:Oper}{i:IOp}(hm:mkOp P esc N o=some i):mkOp1 P esc N o=some i∨(i=badOp o.dst∧∀x,o.dst=some x→x<N):=by
 unfold mkOp at hm
 split at hm
 ·rename_i j hj;injection hm with hm;subst hm;exact .inl hj
 ·right
  cases hd:o.dst with
  |none=>rw[hd] at hm;simp only[cond_true,zI] at hm;exact⟨hm.symm,fun x h=>by cases h⟩
  |some d =>
   rw[hd] at hm
   simp only at hm
   cases hb:Nat.blt d N with
   |false=>rw[hb] at hm;cases hm
   |true =>
    rw[hb,cond_true] at hm
    injection hm with hm
    rw[blt_iff,decide_eq_true_eq] at hb
    exact⟨hm.symm,fun x h=>by injection h with h;subst h;exact hb⟩
theorem bad_dst(d:Option Nat):(badOp d).dst=d:=by cases d<;>rfl
theorem dst_ok{esc:Nat→Bool}{o:Oper}{i:IOp}(hm:mkOp P esc N o=some i):o.dst=i.dst∧∀x,i.dst=some x→x<N:=by
 rcases mkOp_inv hm with h|⟨rfl,h⟩
 ·exact dst_ok1 h
 ·rw[bad_dst];exact⟨rfl,h⟩
theorem bad_estep(d:Option Nat):estep call env m (badOp d)=none:=by cases d<;>rfl
theorem estep_wp{esc:Nat→Bool}{o:Oper}{i:IOp}{v:Value}(hm:mkOp P esc N o=some i)(hC:CallsOk E P W0 call)(hs:St E W0 ρ φ env m N a w)(he:estep call env m i=some (v,m')){next:Act→World→Prop}{Q:Exit→Act→World→Prop}
  (hK:∀v' w' ρ' φ',VR ρ' v v'→Post (E:=E) W0 ρ φ m.get m.next w ρ' φ' m'.get m'.next w'→m'.Sep→next (a.put o.dst v') w'):o.wp P a w next Q:=by
 rcases mkOp_inv hm with h|⟨rfl,_⟩
 ·exact estep_wp1 h hC hs he hK
 ·rw[bad_estep] at he;cases he
theorem wanted_sound{all:List Oper}{o:Oper}{ops:Array Oper}{g:Option (Nat×Bool)}{b:Bool}(hall:ops.toList=all)(hg:mkGuard all o.guard=some g)(hw:wanted env g=some b)(hE:ER ρ env a):Region.wanted o (yielded ops a.tmps)=b:=by
 unfold Region.wanted
 cases hgu:o.guard with
 |none =>
  rw[hgu] at hg
  simp only[mkGuard,zI] at hg;subst hg
  simp only[wanted,zI] at hw;subst hw
  rfl
 |some jw =>
  obtain⟨j,wt⟩:=jw
  rw[hgu] at hg
  simp only[mkGuard] at hg
  split at hg
  ·rename_i oj hj
   simp only[Option.map_eq_some_iff] at hg
   obtain⟨d,hd,rfl⟩:=hg
   have hops:ops[j]? = some oj:=by rw[← Array.getElem?_toList,hall];exact hj
   simp only[wanted] at hw
   split at hw
   ·rename_i bv hbv
    simp only[zI] at hw;subst hw
    have h1:=(hE d _ hbv).bool_inv
    have h2:a.tmps[d]? = some (.bool bv):=by
     rw[Array.getD_eq_getD_getElem?] at h1
     cases hq:a.tmps[d]? with
     |none=>rw[hq] at h1;cases h1
     |some q=>rw[hq] at h1;simp only[Option.getD_some] at h1;rw[h1]
    simp only[yielded,hops,Option.bind_some,hd,h2]
    cases bv<;>cases wt<;>rfl
   ·rename_i tv htv
    simp only[zI] at hw;subst hw
    obtain⟨ys,h1,_⟩:=(hE d _ htv).tup_inv
    have h2:a.tmps[d]? = none∨a.tmps[d]? = some (.tuple ⟨ys⟩):=by
     rw[Array.getD_eq_getD_getElem?] at h1
     cases hq:a.tmps[d]? with
     |none=>exact .inl rfl
     |some q=>rw[hq] at h1;simp only[Option.getD_some] at h1;rw[h1];exact .inr rfl
    simp only[yielded,hops,Option.bind_some,hd]
    rcases h2 with h2|h2<;>rw[h2]<;>rfl
   ·cases hw
  ·cases hg
theorem ops_sound{esc:Nat→Bool}{ops:Array Oper}{Q:Exit→Act→World→Prop}(hC:CallsOk E P W0 call):∀(l:List Oper) (k:Nat) (il:List (Option (Nat×Bool)×IOp)) (env env':List (Nat×Value)) (m m':Mem E.X) (a:Act) (w:World) (ρ:Ren) (φ:Foot),
  ops.toList.drop k=l→mkOps P esc N ops.toList l=some il→runOps call il env m=some (env',m')→St E W0 ρ φ env m N a w →
  (∀a' w' ρ' φ',To E W0 ρ φ m w ρ' φ' env' m' N a' w'→Q .normal a' w')→wpOps P ops Q (List.range' k l.length) a w
 |[],k,il,env,env',m,m',a,w,ρ,φ,_,hm,hr,hs,hQ=>by
  simp only[mkOps,zI] at hm;subst hm
  simp only[runOps,zI,Prod.mk.injEq] at hr
  obtain⟨rfl,rfl⟩:=hr
  exact hQ a w ρ φ ⟨hs,Post.refl hs.good⟩
 |o::l,k,il,env,env',m,m',a,w,ρ,φ,hl,hm,hr,hs,hQ=>by
  simp only[mkOps] at hm
  split at hm
  ·rename_i g i s h1 h2 h3
   injection hm with hm;subst hm
   have hk:ops[k]? = some o:=by
    rw[← Array.getElem?_toList,← List.head?_drop,hl];rfl
   have hl':ops.toList.drop (k+1)=l:=by rw[← List.tail_drop,hl];rfl
   obtain⟨hd1,hd2⟩:=dst_ok h2
   simp only[runOps] at hr
   have hrange:List.range' k (o::l).length=k::List.range' (k+1) l.length:=by simp[List.range'_succ]
   rw[hrange]
   simp only[wpOps,hk]
   split at hr
   ·rename_i hw
    rw[wanted_sound rfl h1 hw hs.er,if_pos rfl]
    split at hr
    ·rename_i v m1 he
     refine .inl (estep_wp h2 hC hs he ?_)
     intro v' w' ρ' φ' hv hp hsep
     have hst:=st_next (d:=i.dst) (v:=v) (v':=v') hs hd2 hv hp hsep
     rw[hd1]
     exact ops_sound hC l (k+1) s _ env' _ m' _ w' ρ' φ' hl' h3 hr hst fun a'' w'' ρ'' φ'' ht=>hQ a'' w'' ρ'' φ'' ⟨ht.st,hp.trans ht.post⟩
    ·cases hr
   ·rename_i hw
    rw[wanted_sound rfl h1 hw hs.er]
    simp only[Bool.false_eq_true,if_false]
    have hst:=st_next (d:=i.dst) (v:=undef) (v':=undef) hs hd2 undef_vr (Post.refl hs.good) hs.sep
    rw[hd1]
    exact ops_sound hC l (k+1) s _ env' _ m' _ w ρ φ hl' h3 hr hst hQ
   ·cases hr
  ·cases hm
theorem region_sound{esc:Nat→Bool}{ops:Array Oper}{id:Nat}{il:List (Option (Nat×Bool)×IOp)}{Q:Exit→Act→World→Prop}(hC:CallsOk E P W0 call)
  (hm:mkOps P esc N ops.toList ops.toList=some il) (hr:runOps call il env m=some (env',m')) (hs:St E W0 ρ φ env m N a w)
  (hQ:∀a' w' ρ' φ',To E W0 ρ φ m w ρ' φ' env' m' N a' w'→Q .normal a' w'):(Code.region id ops false).wp P Q a w:=by
 refine wp_region ?_
 have:=ops_sound (Q:=Q) hC ops.toList 0 il env env' m m' a w ρ φ rfl hm hr hs hQ
 rw[List.range_eq_range']
 rw[Array.length_toList] at this
 exact this
end
end Go.AI
