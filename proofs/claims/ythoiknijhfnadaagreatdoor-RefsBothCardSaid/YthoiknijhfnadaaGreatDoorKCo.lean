/- The evaluator: code, loops, functions. WHAT IT ANSWERS, THE MODEL ANSWERS. No program is named here. -/
import Derived.Test.YthoiknijhfnadaaGreatDoorAiDrawn6
namespace Go.AI
section
variable {X:Type}
def uniq:List Nat→List (Nat×Value)→List (Nat×Value)
 |_,[]=>[]
 |seen,(k,v)::r=>bif memB k seen then uniq seen r else(k,v)::uniq (k::seen) r
def refs(i:Nat):List (Nat×Value)→Bool
 |[]=>false
 |(_,.pointer (some a))::r=>Nat.beq a.block i||refs i r
 |(_,.slice (some a) _ _)::r=>Nat.beq a.block i||refs i r
 |_::r=>refs i r
def pruneLoc(env:List (Nat×Value)):List (Nat×AObj X)→List (Nat×AObj X)
 |[]=>[]
 |x::r=>bif refs x.1 env then x::pruneLoc env r else pruneLoc env r
def tidy(n:Nat)(env:List (Nat×Value))(m:Mem X):List (Nat×Value)×Mem X :=
 bif Nat.beq (Nat.land n 7) 0 then(uniq [] env,⟨pruneLoc (uniq [] env) m.loc,m.tbl,m.next⟩) else(env,m)
def loopN(body:List (Nat×Value)→Mem X→Option (Ex×List (Nat×Value)×Mem X)):Nat→List (Nat×Value)→Mem X→Option (Ex×List (Nat×Value)×Mem X)
 |0,_,_=>none
 |n+1,env,m=>match body env m with
  |some (.norm,env',m')=>loopN body n (tidy n env' m').1 (tidy n env' m').2
  |r=>r
def runC(call:CallFn X)(fuel:Nat):ICode→List (Nat×Value)→Mem X→Option (Ex×List (Nat×Value)×Mem X)
 | .skip,env,m=>some (.norm,env,m)
 | .ops l,env,m=>match runOps call l env m with
  |some (env',m')=>some (.norm,env',m')
  |none=>none
 | .drawn l bf,env,m=>match drawnRun call l bf env m with
  |some (env',m')=>some (.norm,env',m')
  |none=>none
 | .seq a b,env,m=>match runC call fuel a env m with
  |some (.norm,env',m')=>runC call fuel b env' m'
  |r=>r
 | .cond c a b,env,m=>match evo env c with
  |some (.bool true)=>runC call fuel a env m
  |some (.bool false)=>runC call fuel b env m
  |_=>none
 | .block id a,env,m=>match runC call fuel a env m with
  |some (.exit k,env',m')=>bif Nat.beq k id then some (.norm,env',m') else some (.exit k,env',m')
  |r=>r
 | .loop a,env,m=>loopN (runC call fuel a) fuel env m
 | .exit id,env,m=>some (.exit id,env,m)
 | .ret,env,m=>some (.ret,env,m)
def resV(env:List (Nat×Value))(m:Mem X):List IRes→Option (List Value)
 |[]=>some []
 | .tmp t::r=>match look t env,resV env m r with
  |some v,some s=>some (v::s)
  |_,_=>none
 | .cell t n g::r=>match look t env,resV env m r with
  |some (.pointer (some ad)),some s=>match m.load ad n with
   |some cs=>match oneOf g cs with
    |some v=>some (v::s)
    |none=>none
   |none=>none
  |_,_=>none
def isX:Value→Bool
 | .tuple _=>false
 |_=>true
def packV:List Value→Option Value
 |[v]=>some v
 |vs=>bif vs.all isX then some (.tuple ⟨vs⟩) else none
def argsE:Nat→List Value→List (Nat×Value)
 |_,[]=>[]
 |n,v::r=>(n,v)::argsE (Nat.succ n) r
def dropNew(n:Nat)(l:List (Nat×AObj X)):List (Nat×AObj X):=l.filter fun x=>Nat.blt x.1 n
abbrev Hook(X:Type):=Nat→Option (List Value→Hp X→Option (Value×Hp X))
def run(F:Nat→Option IFn)(clean:Nat→Bool)(hook:Hook X):Nat→CallFn X
 |0,_,_,_=>none
 |n+1,f,vs,h=>match hook f with
  |some g=>g vs h
  |none=>match F f with
   |none=>none
   |some fn=>bif Nat.ble vs.length fn.n then(match runC (run F clean hook n) n fn.code (argsE 0 vs) ⟨[],h.tbl,h.next⟩ with
    |some (.exit _,_,_)=>none
    |none=>none
    |some (_,env,m)=>match resV env m fn.res with
     |some rs=>match packV rs with
      |some v=>some (v,⟨bif clean f then dropNew h.next m.tbl else m.tbl,m.next⟩)
      |none=>none
     |none=>none) else none
end
section
variable {E:Ext}{P:Program}{W0:World}{call:CallFn E.X}{N:Nat}{esc:Nat→Bool}
def Ex.out:Ex→Exit
 | .norm=>.normal
 | .exit id=>.exit id
 | .ret=>.ret
theorem uniq_look{s:Nat}:∀{seen:List Nat} {env:List (Nat×Value)},memB s seen=false→look s (uniq seen env)=look s env
 |seen,[],_=>rfl
 |seen,(k,v)::r,h=>by
  simp only[uniq]
  cases hk:memB k seen with
  |true =>
   rw[cond_true,zC,uniq_look h]
   split
   ·rename_i e;subst e;rw[h] at hk;cases hk
   ·rfl
  |false =>
   rw[cond_false,zC,zC]
   split
   ·rfl
   ·rename_i hne
    refine uniq_look ?_
    simp only[memB,Bool.or_eq_false_iff]
    refine⟨?_,h⟩
    rw[← Bool.not_eq_true,Nat.beq_eq];exact fun e=>hne e
theorem prune_look{env:List (Nat×Value)}{i:Nat}{o:AObj E.X}:∀{l:List (Nat×AObj E.X)},look i (pruneLoc env l)=some o→look i l=some o
 |[],h=>by simp[pruneLoc,look] at h
 |x::r,h=>by
  simp only[pruneLoc] at h
  rw[zC]
  cases hr:refs x.1 env with
  |true =>
   rw[hr,cond_true,zC] at h
   split at h
   ·rename_i e;simp only[e,if_true];exact h
   ·rename_i e;simp only[e,if_false];exact prune_look h
  |false =>
   rw[hr,cond_false] at h
   have:=prune_look h
   split
   ·rename_i e
    exfalso
    -- the pruned list has no such number
    have hn:∀{l:List (Nat×AObj E.X)} {o:AObj E.X},look i (pruneLoc env l)=some o→refs i env=true:=by
     intro l
     induction l with
     |nil=>intro o h;simp[pruneLoc,look] at h
     |cons y l ih =>
      intro o h
      simp only[pruneLoc] at h
      cases hy:refs y.1 env with
      |true =>
       rw[hy,cond_true,zC] at h
       split at h
       ·rename_i e;rw[e];exact hy
       ·exact ih h
      |false=>rw[hy,cond_false] at h;exact ih h
    have:=hn h
    rw[e] at this;rw[this] at hr;cases hr
   ·exact this
theorem St.prune{ρ:Ren}{φ:Foot}{env:List (Nat×Value)}{m:Mem E.X}{a:Act}{w:World}(h:St E W0 ρ φ env m N a w):St E W0 ρ φ (uniq [] env) ⟨pruneLoc (uniq [] env) m.loc,m.tbl,m.next⟩ N a w ∧
  ∀i o,(⟨pruneLoc (uniq [] env) m.loc,m.tbl,m.next⟩:Mem E.X).get i=some o→m.get i=some o:=by
 have hsub:∀i o,(⟨pruneLoc (uniq [] env) m.loc,m.tbl,m.next⟩:Mem E.X).get i=some o→m.get i=some o:=by
  intro i o hi
  unfold Mem.get at hi ⊢
  cases hq:look i (pruneLoc (uniq [] env) m.loc) with
  |some x =>
   rw[hq] at hi
   rw[prune_look hq];exact hi
  |none =>
   rw[hq] at hi
   cases hl:look i m.loc with
   |some x=>exact(h.sep i x o hl hi).elim
   |none=>exact hi
 refine⟨⟨fun s v e=>h.er s v (by rw[uniq_look rfl] at e;exact e),h.sz,h.df,fun i x y h1 h2=>h.sep i x y (prune_look h1) h2,h.good.part hsub (Nat.le_refl _)⟩,hsub⟩
theorem St.tidy{ρ:Ren}{φ:Foot}{env:List (Nat×Value)}{m:Mem E.X}{a:Act}{w:World}(n:Nat)(h:St E W0 ρ φ env m N a w):St E W0 ρ φ (tidy n env m).1 (tidy n env m).2 N a w ∧
  (∀i o,(tidy n env m).2.get i=some o→m.get i=some o)∧(tidy n env m).2.next=m.next:=by
 unfold AI.tidy
 cases Nat.beq (Nat.land n 7) 0 with
 |true=>exact⟨h.prune.1,h.prune.2,rfl⟩
 |false=>exact⟨h,fun i o hi=>hi,rfl⟩
theorem code_sound(hmix:P.follows .mixedOrders=true)(hC:CallsOk E P W0 call)(fuel:Nat):∀(c:Code) (ic:ICode) (x:Ex) (env env':List (Nat×Value)) (m m':Mem E.X) (ρ:Ren) (φ:Foot) (a:Act) (w:World) (Q:Exit→Act→World→Prop),
  mkCode P esc N c=some ic→runC call fuel ic env m=some (x,env',m')→St E W0 ρ φ env m N a w →
  (∀a' w' ρ' φ',To E W0 ρ φ m w ρ' φ' env' m' N a' w'→Q x.out a' w')→c.wp P Q a w:=by
 intro c
 induction c with
 |skip =>
  intro ic x env env' m m' ρ φ a w Q hm hr hs hQ
  simp only[mkCode,zI] at hm;subst hm
  simp only[runC,zI,Prod.mk.injEq] at hr
  obtain⟨rfl,rfl,rfl⟩:=hr
  exact wp_skip (hQ a w ρ φ ⟨hs,Post.refl hs.good⟩)
 |region id os draw =>
  intro ic x env env' m m' ρ φ a w Q hm hr hs hQ
  cases draw with
  |false =>
   simp only[mkCode,Option.map_eq_some_iff] at hm
   obtain⟨il,hil,rfl⟩:=hm
   simp only[runC] at hr
   split at hr
   ·rename_i e1 m1 h1
    simp only[zI,Prod.mk.injEq] at hr
    obtain⟨rfl,rfl,rfl⟩:=hr
    exact region_sound hC hil h1 hs hQ
   ·cases hr
  |true =>
   simp only[mkCode] at hm
   split at hm
   ·rename_i il hil
    cases hb:(slotsOnce il&&bfOk 0 (befores os.toList [])) with
    |false=>rw[hb] at hm;cases hm
    |true =>
     rw[hb,cond_true] at hm
     injection hm with hm;subst hm
     simp only[Bool.and_eq_true] at hb
     simp only[runC] at hr
     split at hr
     ·rename_i e1 m1 h1
      simp only[zI,Prod.mk.injEq] at hr
      obtain⟨rfl,rfl,rfl⟩:=hr
      exact drawn_sound hmix hC hil rfl hb.2 hb.1 h1 hs hQ
     ·cases hr
   ·cases hm
 |seq p q ihp ihq =>
  intro ic x env env' m m' ρ φ a w Q hm hr hs hQ
  simp only[mkCode] at hm
  split at hm
  ·rename_i ip iq h1 h2
   injection hm with hm;subst hm
   simp only[runC] at hr
   split at hr
   ·rename_i e1 m1 h3
    refine wp_seq (ihp ip .norm env e1 m m1 ρ φ a w _ h1 h3 hs ?_)
    intro a' w' ρ' φ' ht
    exact ihq iq x e1 env' m1 m' ρ' φ' a' w' Q h2 hr ht.st fun a'' w'' ρ'' φ'' ht'=>hQ a'' w'' ρ'' φ'' ⟨ht'.st,ht.post.trans ht'.post⟩
   ·rename_i hne
    refine wp_seq (ihp ip x env env' m m' ρ φ a w _ h1 hr hs ?_)
    intro a' w' ρ' φ' ht
    have:=hQ a' w' ρ' φ' ht
    cases x with
    |norm=>exact(hne _ _ hr).elim
    |exit id=>exact this
    |ret=>exact this
  ·cases hm
 |cond cnd p q ihp ihq =>
  intro ic x env env' m m' ρ φ a w Q hm hr hs hQ
  simp only[mkCode] at hm
  split at hm
  ·rename_i c' ip iq h0 h1 h2
   injection hm with hm;subst hm
   simp only[runC] at hr
   split at hr
   ·rename_i hb
    exact wp_cond_true (opd_sound h0 hb hs.er).bool_inv (ihp ip x env env' m m' ρ φ a w Q h1 hr hs hQ)
   ·rename_i hb
    exact wp_cond_false (opd_sound h0 hb hs.er).bool_inv (ihq iq x env env' m m' ρ φ a w Q h2 hr hs hQ)
   ·cases hr
  ·cases hm
 |block id p ih =>
  intro ic x env env' m m' ρ φ a w Q hm hr hs hQ
  simp only[mkCode,Option.map_eq_some_iff] at hm
  obtain⟨ip,h1,rfl⟩:=hm
  simp only[runC] at hr
  split at hr
  ·rename_i k e1 m1 h2
   refine wp_block (ih ip (.exit k) env e1 m m1 ρ φ a w _ h1 h2 hs ?_)
   intro a' w' ρ' φ' ht
   show(if k=id then Q .normal a' w' else Q (.exit k) a' w')
   by_cases hk:k=id
   ·subst hk
    simp only[Nat.beq_refl,cond_true,zI,Prod.mk.injEq] at hr
    obtain⟨rfl,rfl,rfl⟩:=hr
    simp only[if_true]
    exact hQ a' w' ρ' φ' ht
   ·have:Nat.beq k id=false:=by rw[← Bool.not_eq_true,Nat.beq_eq];exact hk
    rw[this,cond_false] at hr
    simp only[zI,Prod.mk.injEq] at hr
    obtain⟨rfl,rfl,rfl⟩:=hr
    simp only[hk,if_false]
    exact hQ a' w' ρ' φ' ht
  ·rename_i hne
   refine wp_block (ih ip x env env' m m' ρ φ a w _ h1 hr hs ?_)
   intro a' w' ρ' φ' ht
   have:=hQ a' w' ρ' φ' ht
   cases x with
   |norm=>exact this
   |exit k=>exact(hne _ _ _ hr).elim
   |ret=>exact this
 |loop p ih =>
  intro ic x env env' m m' ρ φ a w Q hm hr hs hQ
  simp only[mkCode,Option.map_eq_some_iff] at hm
  obtain⟨ip,h1,rfl⟩:=hm
  simp only[runC] at hr
  have key:∀(n:Nat) (env:List (Nat×Value)) (m:Mem E.X) (ρ:Ren) (φ:Foot) (a:Act) (w:World),loopN (runC call fuel ip) n env m=some (x,env',m')→St E W0 ρ φ env m N a w →
    (∀a' w' ρ' φ',To E W0 ρ φ m w ρ' φ' env' m' N a' w'→Q x.out a' w')→Code.rounds P p Q n a w:=by
   intro n
   induction n with
   |zero=>intro env m ρ φ a w h;simp[loopN] at h
   |succ n ihn =>
    intro env m ρ φ a w h hs hQ
    simp only[loopN] at h
    rw[rounds_succ]
    split at h
    ·rename_i e1 m1 h2
     refine ih ip .norm env e1 m m1 ρ φ a w _ h1 h2 hs ?_
     intro a' w' ρ' φ' ht
     obtain⟨hst,hsub,hnx⟩:=ht.st.tidy n
     refine ihn _ _ ρ' φ' a' w' h hst ?_
     intro a'' w'' ρ'' φ'' ht'
     have hpp:=ht.post.part (n'':=(tidy n e1 m1).2.next) hsub (Nat.le_of_eq hnx.symm)
     exact hQ a'' w'' ρ'' φ'' ⟨ht'.st,hpp.trans ht'.post⟩
    ·rename_i hne
     refine ih ip x env env' m m' ρ φ a w _ h1 h hs ?_
     intro a' w' ρ' φ' ht
     have:=hQ a' w' ρ' φ' ht
     cases x with
     |norm=>exact(hne _ _ h).elim
     |exit k=>exact this
     |ret=>exact this
  exact wp_loop_rounds fuel (key fuel env m ρ φ a w hr hs hQ)
 |exit id =>
  intro ic x env env' m m' ρ φ a w Q hm hr hs hQ
  simp only[mkCode,zI] at hm;subst hm
  simp only[runC,zI,Prod.mk.injEq] at hr
  obtain⟨rfl,rfl,rfl⟩:=hr
  exact wp_exit (hQ a w ρ φ ⟨hs,Post.refl hs.good⟩)
 |ret =>
  intro ic x env env' m m' ρ φ a w Q hm hr hs hQ
  simp only[mkCode,zI] at hm;subst hm
  simp only[runC,zI,Prod.mk.injEq] at hr
  obtain⟨rfl,rfl,rfl⟩:=hr
  exact wp_ret (hQ a w ρ φ ⟨hs,Post.refl hs.good⟩)
 |rangeFunc f ps as b _ _=>intro ic x env env' m m' ρ φ a w Q hm hr;injection hm with hm;subst hm;cases hr
 |scope b _=>intro ic x env env' m m' ρ φ a w Q hm hr;injection hm with hm;subst hm;cases hr
 |label l=>intro ic x env env' m m' ρ φ a w Q hm hr;injection hm with hm;subst hm;cases hr
 |goto l=>intro ic x env env' m m' ρ φ a w Q hm hr;injection hm with hm;subst hm;cases hr
 |refuse s=>intro ic x env env' m m' ρ φ a w Q hm hr;injection hm with hm;subst hm;cases hr
end
end Go.AI
/- The evaluator's main theorem: what it answers of a call, the model answers, whatever order it draws. No program is named here. -/
namespace Go.AI
variable {E:Ext}{P:Program}{W0:World}{N:Nat}{esc:Nat→Nat→Bool}
theorem args_er{ρ:Ren}:∀{vs vs':List Value} {n:Nat} {s:Nat} {v:Value},All2 (VR ρ) vs vs'→look s (argsE n vs)=some v→n≤s∧∃v',vs'[s-n]? = some v'∧VR ρ v v'
 |[],_,n,s,v,h,hl=>by simp[argsE,look] at hl
 |x::vs,_,n,s,v,.cons (b:=y) h t,hl=>by
  simp only[argsE] at hl
  rw[zC] at hl
  split at hl
  ·rename_i e
   simp only at e
   subst e
   simp only[zI] at hl;subst hl
   exact⟨Nat.le_refl _,y,by simp,h⟩
  ·rename_i hne
   obtain⟨h1,v',h2,h3⟩:=args_er t hl
   refine⟨by omega,v',?_,h3⟩
   rw[show s-n=(s-Nat.succ n)+1 by omega]
   simpa using h2
theorem results_sound{ρ:Ren}{φ:Foot}{env:List (Nat×Value)}{m:Mem E.X}{a:Act}{w:World}(hs:St E W0 ρ φ env m N a w):∀{rs:List ResultVar} {is:List IRes} {vs:List Value},mkRes P rs=some is→resV env m is=some vs →
  ∃vs',(rs.mapM (m:=Sem) fun(x:ResultVar)=>match x with| .tmp t=>pure (a.tmps.getD t undef) | .cell c t=>do loadVar t (← asAddr (a.tmps.getD c undef))).run P w = .ok vs' w∧All2 (VR ρ) vs vs'
 |[],is,vs,h,hv=>by
  simp only[mkRes,zI] at h;subst h
  simp only[resV,zI] at hv;subst hv
  exact⟨[],rfl,.nil⟩
 | .tmp t::rs,is,vs,h,hv=>by
  simp only[mkRes,Option.map_eq_some_iff] at h
  obtain⟨is',h1,rfl⟩:=h
  simp only[resV] at hv
  split at hv
  ·rename_i v s h2 h3
   injection hv with hv;subst hv
   obtain⟨vs',k1,k2⟩:=results_sound hs h1 h3
   refine⟨a.tmps.getD t undef::vs',?_,.cons (hs.er t v h2) k2⟩
   simp only[List.mapM_cons,Sem.run_bind,Sem.run_pure,Result.andThen_ok,k1]
  ·cases hv
 | .cell c t::rs,is,vs,h,hv=>by
  simp only[mkRes] at h
  split at h
  ·rename_i g n is' hg hn h1
   split at h
   ·cases h
   ·rename_i hz
    injection h with h;subst h
    simp only[resV] at hv
    split at hv
    ·rename_i ad s h2 h3
     split at hv
     ·rename_i cs hcs
      split at hv
      ·rename_i v hov
       injection hv with hv;subst hv
       obtain⟨vs',k1,k2⟩:=results_sound hs h1 h3
       have hp:=hs.er c _ h2
       have hn0:(bif g then n else 1)≠0:=by
        cases g with
        |true =>
         simp only[Bool.true_and] at hz
         intro e
         simp only[cond_true] at e
         rw[e] at hz;simp at hz
        |false=>simp
       generalize hq:a.tmps.getD c undef=q at hp
       cases hp.flat_ptr with
       |ptr hrb =>
        obtain⟨r',l1,l2,l3⟩:=load_sound (P:=P) hcs hs.good hn0 (.ptr hrb)
        unfold oneOf at hov
        cases g with
        |true =>
         simp only[cond_true,zI] at hov l1;subst hov
         refine⟨.agg ⟨r'⟩::vs',?_,.cons (.x (.agg l2)) k2⟩
         have hh:((fun(x:ResultVar)=>match x with| .tmp t=>(pure (a.tmps.getD t undef):Sem Value) | .cell c t=>do loadVar t (← asAddr (a.tmps.getD c undef))) (.cell c t)).run P w = .ok (.agg ⟨r'⟩) w:=by
          simp only[hq,asAddr,loadVar,Sem.run_bind,Sem.run_pure,Result.andThen_ok,run_agg hg,if_true,run_size hn,l1]
         rw[List.mapM_cons,Sem.run_bind,hh]
         simp only[Result.andThen_ok,Sem.run_bind,k1,Sem.run_pure]
        |false =>
         simp only[cond_false] at hov
         split at hov
         ·rename_i x
          injection hov with hov;subst hov
          obtain⟨yv,l4,l5⟩:=l3 x rfl rfl
          refine⟨yv::vs',?_,.cons (.of_flat l5) k2⟩
          have hh:((fun(x:ResultVar)=>match x with| .tmp t=>(pure (a.tmps.getD t undef):Sem Value) | .cell c t=>do loadVar t (← asAddr (a.tmps.getD c undef))) (.cell c t)).run P w = .ok yv w:=by
           simp only[hq,asAddr,loadVar,Sem.run_bind,Sem.run_pure,Result.andThen_ok,run_agg hg,Bool.false_eq_true,if_false,l4]
          rw[List.mapM_cons,Sem.run_bind,hh]
          simp only[Result.andThen_ok,Sem.run_bind,k1,Sem.run_pure]
         ·cases hov
      ·cases hv
     ·cases hv
    ·cases hv
  ·cases h
theorem pack_sound{ρ:Ren}{vs vs':List Value}{v:Value}(h:packV vs=some v)(hv:All2 (VR ρ) vs vs'):VR ρ v (if h:(⟨vs'⟩:Array Value).size=1 then(⟨vs'⟩:Array Value)[0] else .tuple ⟨vs'⟩):=by
 unfold packV at h
 split at h
 ·rename_i x
  injection h with h;subst h
  cases hv with
  |cons h1 h2=>cases h2;simpa using h1
 ·rename_i hne
  cases hall:vs.all isX with
  |false=>rw[hall] at h;cases h
  |true =>
   rw[hall,cond_true] at h
   injection h with h;subst h
   have hl:=hv.length
   have hsz:¬((⟨vs'⟩:Array Value).size=1):=by
    show¬(vs'.length=1)
    intro e
    rw[e] at hl
    match vs,hl with
    |[y],_=>exact hne y rfl
   rw[dif_neg hsz]
   refine .tup ?_
   clear hne hsz hl
   induction hv with
   |nil=>exact .nil
   |cons h1 h2 ih =>
    simp only[List.all_cons,Bool.and_eq_true] at hall
    refine .cons ?_ (ih hall.2)
    cases h1 with
    |x h=>exact h
    |tup h=>simp[isX] at hall
theorem run_sound(hmix:P.follows .mixedOrders=true){clean:Nat→Bool}{hook:Hook E.X}(hH:CallsOk E P W0 fun f vs h=>match hook f with|some g=>g vs h|none=>none):∀n,CallsOk E P W0 (run (mkFn P esc) clean hook n)
 |0=>by intro k vs h v h' hr;simp[run] at hr
 |n+1=>by
  intro k vs h v h' hr ρ φ w hG vs' hvs
  simp only[run] at hr
  cases hk:hook k with
  |some g =>
   rw[hk] at hr
   exact hH k vs h v h' (by simp only[hk];exact hr) ρ φ w hG vs' hvs
  |none =>
   rw[hk] at hr
   simp only at hr
   split at hr
   ·cases hr
   ·rename_i fn hfn
    cases hle:Nat.ble vs.length fn.n with
    |false=>rw[hle] at hr;cases hr
    |true =>
     rw[hle,cond_true] at hr
     rw[Nat.ble_eq] at hle
     unfold mkFn at hfn
     split at hfn
     ·rename_i gf hgf
      split at hfn
      ·rename_i c hbody
       split at hfn
       ·rename_i ic is hic his
        split at hfn
        ·cases hfn
        ·rename_i hname
         injection hfn with hfn;subst hfn
         simp only at hle hr
         refine .inl ⟨⟨gf,c,hgf,hbody,by simpa using hname⟩,?_⟩
         have hlen:=hvs.length
         have hst:St E W0 ρ φ (argsE 0 vs) ⟨[],h.tbl,h.next⟩ gf.ntmps { tmps:=(⟨vs'⟩:Array Value)++Array.replicate (gf.ntmps-(⟨vs'⟩:Array Value).size) undef,defers:=[] } w:=by
          refine⟨?_,?_,rfl,?_,hG⟩
          ·intro s u hu
           obtain⟨_,v',h1,h2⟩:=args_er hvs hu
           rw[Nat.sub_zero] at h1
           have hlt:s<vs'.length:=by
            rcases Nat.lt_or_ge s vs'.length with h|h
            ·exact h
            ·rw[List.getElem?_eq_none h] at h1;cases h1
           have:((⟨vs'⟩:Array Value)++Array.replicate (gf.ntmps-(⟨vs'⟩:Array Value).size) undef)[s]? = some v':=by
            rw[Array.getElem?_append_left hlt,arr_get];exact h1
           rw[Array.getD_eq_getD_getElem?,this]
           exact h2
          ·simp only[Array.size_append,Array.size_replicate]
           show vs'.length+(gf.ntmps-vs'.length)=gf.ntmps
           omega
          ·intro i x y hx;simp[look] at hx
         have hget:(⟨[],h.tbl,h.next⟩:Mem E.X).get=fun i=>look i h.tbl:=by
          funext i;rfl
         have fin:∀(env:List (Nat×Value)) (m:Mem E.X),(match resV env m is with|some rs=>(match packV rs with|some v=>some (v,(⟨bif clean k then dropNew h.next m.tbl else m.tbl,m.next⟩:Hp E.X))|none=>none)|none=>none)=some (v,h') →
           ∀(a':Act) (w':World) (ρ':Ren) (φ':Foot),To E W0 ρ φ (⟨[],h.tbl,h.next⟩:Mem E.X) w ρ' φ' env m gf.ntmps a' w' →
            a'.defers=[]∧∃v0,(results gf a'.tmps).run P w' = .ok v0 w'∧∃v' ρ' φ',Ending.returned v0 = .returned v'∧VR ρ' v v'∧Post (E:=E) W0 ρ φ (fun i=>look i h.tbl) h.next w ρ' φ' (fun i=>look i h'.tbl) h'.next w':=by
          intro env m hres a' w' ρ' φ' ht
          refine⟨ht.st.df,?_⟩
          split at hres
          ·rename_i rs hrs
           split at hres
           ·rename_i v1 hv1
            simp only[zI,Prod.mk.injEq] at hres
            obtain⟨rfl,rfl⟩:=hres
            obtain⟨vs1,k1,k2⟩:=results_sound ht.st his hrs
            refine⟨_,?_,_,ρ',φ',rfl,pack_sound hv1 k2,?_⟩
            ·have:(gf.results.mapM (m:=Sem) fun(x:ResultVar)=>match x with| .tmp t=>pure (a'.tmps.getD t undef) | .cell c t=>do loadVar t (← asAddr (a'.tmps.getD c undef))).run P w' = .ok ⟨vs1⟩ w':=by
              rw[← Array.toArray_toList (xs:=gf.results),List.mapM_toArray]
              simp only[Sem.run_map,k1,Result.andThen_ok]
             change (do
              let vs ← gf.results.mapM (m:=Sem) fun(x:ResultVar)=>match x with| .tmp t=>pure (a'.tmps.getD t undef) | .cell c t=>do loadVar t (← asAddr (a'.tmps.getD c undef))
              pure (if h:vs.size=1 then vs[0] else .tuple vs):Sem Value).run P w'=_
             rw[Sem.run_bind,this]
             simp only[Result.andThen_ok,Sem.run_pure]
            ·have hp:=ht.post
             rw[hget] at hp
             refine hp.part (V'':=fun i=>look i (bif clean k then dropNew h.next m.tbl else m.tbl)) ?_ (Nat.le_refl _)
             intro i o hi
             have hi':look i m.tbl=some o:=by
              cases hcl:clean k with
              |false=>rw[hcl,cond_false] at hi;exact hi
              |true =>
               rw[hcl,cond_true] at hi
               exact(look_filter (f:=fun j=>Nat.blt j h.next) hi).1
             show m.get i=some o
             unfold Mem.get
             cases hl:look i m.loc with
             |some x=>exact(ht.st.sep i x o hl hi').elim
             |none=>exact hi'
           ·cases hres
          ·cases hres
         split at hr
         ·cases hr
         ·cases hr
         ·rename_i x env m hx hrc
          refine calls_of_wp hgf hbody ?_
          refine code_sound hmix (run_sound hmix hH n) n c ic x _ env _ m ρ φ _ w _ hic hrc hst ?_
          intro a' w' ρ' φ' ht
          obtain⟨f1,v0,f2,f3⟩:=fin env m hr a' w' ρ' φ' ht
          cases x with
          |norm=>exact⟨f1,v0,f2,f3⟩
          |ret=>exact⟨f1,v0,f2,f3⟩
          |exit id=>exact(hx _ rfl).elim
       ·cases hfn
      ·cases hfn
     ·cases hfn
end Go.AI
