/- The evaluator: code, loops, functions. WHAT IT ANSWERS, THE MODEL ANSWERS. No program is named here. -/
import Derived.Test.YtohdfkipbgnkoaaGreatDoorAiDrawn6
namespace Go.AI
section
variable {X:Type}
def jZ:List Nat→LV→LV
 |_,[]=>[]
 |seen,(k,v)::r=>bif gU k seen then jZ seen r else(k,v)::jZ (k::seen) r
def xF(i:Nat):LV→Bool
 |[]=>false
 |(_,.pointer (some a))::r=>Nat.beq a.block i||xF i r
 |(_,.slice (some a) _ _)::r=>Nat.beq a.block i||xF i r
 |_::r=>xF i r
def cK(env:LV):List (Nat×AObj X)→List (Nat×AObj X)
 |[]=>[]
 |x::r=>bif xF x.1 env then x::cK env r else cK env r
def tidy(n:Nat)(env:LV)(m:Mem X):LV×Mem X :=
 bif Nat.beq (Nat.land n 7) 0 then(jZ [] env,⟨cK (jZ [] env) m.loc,m.tbl,m.next⟩) else(env,m)
def ge(body:LV→Mem X→Option (Ex×LV×Mem X)):Nat→LV→Mem X→Option (Ex×LV×Mem X)
 |0,_,_=>none
 |n+1,env,m=>match body env m with
  |some (.norm,env',m')=>ge body n (tidy n env' m').1 (tidy n env' m').2
  |r=>r
def bP(call:aP X)(fuel:Nat):ICode→LV→Mem X→Option (Ex×LV×Mem X)
 | .skip,env,m=>some (.norm,env,m)
 | .ops l,env,m=>match aY call l env m with
  |some (env',m')=>some (.norm,env',m')
  |none=>none
 | .drawn l bf,env,m=>match eG call l bf env m with
  |some (env',m')=>some (.norm,env',m')
  |none=>none
 | .seq a b,env,m=>match bP call fuel a env m with
  |some (.norm,env',m')=>bP call fuel b env' m'
  |r=>r
 | .cond c a b,env,m=>match evo env c with
  |some (.bool true)=>bP call fuel a env m
  |some (.bool false)=>bP call fuel b env m
  |_=>none
 | .block id a,env,m=>match bP call fuel a env m with
  |some (.exit k,env',m')=>bif Nat.beq k id then some (.norm,env',m') else some (.exit k,env',m')
  |r=>r
 | .loop a,env,m=>ge (bP call fuel a) fuel env m
 | .exit id,env,m=>some (.exit id,env,m)
 | .ret,env,m=>some (.ret,env,m)
def db(env:LV)(m:Mem X):List IRes→Option (List Value)
 |[]=>some []
 | .tmp t::r=>match aa t env,db env m r with
  |some v,some s=>some (v::s)
  |_,_=>none
 | .cell t n g::r=>match aa t env,db env m r with
  |some (.pointer (some ad)),some s=>match m.load ad n with
   |some cs=>match dy g cs with
    |some v=>some (v::s)
    |none=>none
   |none=>none
  |_,_=>none
def isX:Value→Bool
 | .tuple _=>false
 |_=>true
def ja:List Value→Option Value
 |[v]=>some v
 |vs=>bif vs.all isX then some (.tuple ⟨vs⟩) else none
def aM:Nat→List Value→LV
 |_,[]=>[]
 |n,v::r=>(n,v)::aM (Nat.succ n) r
def iu(n:Nat)(l:List (Nat×AObj X)):List (Nat×AObj X):=l.filter fun x=>Nat.blt x.1 n
abbrev dS(X:Type):=Nat→Option (List Value→Hp X→Option (Value×Hp X))
def run(F:Nat→Option IFn)(clean:Nat→Bool)(hook:dS X):Nat→aP X
 |0,_,_,_=>none
 |n+1,f,vs,h=>match hook f with
  |some g=>g vs h
  |none=>match F f with
   |none=>none
   |some fn=>bif Nat.ble vs.length fn.n then(match bP (run F clean hook n) n fn.code (aM 0 vs) ⟨[],h.tbl,h.next⟩ with
    |some (.exit _,_,_)=>none
    |none=>none
    |some (_,env,m)=>match db env m fn.res with
     |some rs=>match ja rs with
      |some v=>some (v,⟨bif clean f then iu h.next m.tbl else m.tbl,m.next⟩)
      |none=>none
     |none=>none) else none
end
section
variable {E:Ext}{P:Program}{W0:World}{call:aP E.X}{N:Nat}{esc:Nat→Bool}
def Ex.out:Ex→Exit
 | .norm=>.normal
 | .exit id=>.exit id
 | .ret=>.ret
theorem nN{s:Nat}:∀{seen:List Nat} {env:LV},gU s seen=false→aa s (jZ seen env)=aa s env
 |seen,[],_=>rfl
 |seen,(k,v)::r,h=>by
  simp only[jZ];cases hk:gU k seen with
  |true =>
   rw[cond_true,zC,nN h];split
   ·rename_i e;subst e;rw[h] at hk;cases hk
   ·rfl
  |false =>
   rw[cond_false,zC,zC];split
   ·rfl
   ·rename_i hne;refine nN ?_;simp only[gU,Bool.or_eq_false_iff];refine⟨?_,h⟩;rw[← Zl,Zg];exact fun e=>hne e
theorem jy{env:LV}{i:Nat}{o:AObj E.X}:∀{l:List (Nat×AObj E.X)},aa i (cK env l)=some o→aa i l=some o
 |[],h=>by simp[cK,aa] at h
 |x::r,h=>by
  simp only[cK] at h;rw[zC];cases hr:xF x.1 env with
  |true =>
   rw[hr,cond_true,zC] at h;split at h
   ·rename_i e;simp only[e,if_true];exact h
   ·rename_i e;simp only[e,if_false];exact jy h
  |false =>
   rw[hr,cond_false] at h;have:=jy h;split
   ·rename_i e;exfalso
    -- the pruned list has no such number
    have hn:∀{l:List (Nat×AObj E.X)} {o:AObj E.X},aa i (cK env l)=some o→xF i env=true:=by
     intro l;induction l with
     |nil=>intro o h;simp[cK,aa] at h
     |cons y l ih =>
      intro o h;simp only[cK] at h;cases hy:xF y.1 env with
      |true =>
       rw[hy,cond_true,zC] at h;split at h
       ·rename_i e;rw[e];exact hy
       ·exact ih h
      |false=>rw[hy,cond_false] at h;exact ih h
    have:=hn h;rw[e] at this;rw[this] at hr;cases hr
   ·exact this
theorem St.prune{ρ:Ren}{φ:br}{env:LV}{m:Mem E.X}{a:Act}{w:World}(h:St E W0 ρ φ env m N a w):St E W0 ρ φ (jZ [] env) ⟨cK (jZ [] env) m.loc,m.tbl,m.next⟩ N a w ∧
  ∀i o,(⟨cK (jZ [] env) m.loc,m.tbl,m.next⟩:Mem E.X).get i=some o→m.get i=some o:=by
 have hsub:∀i o,(⟨cK (jZ [] env) m.loc,m.tbl,m.next⟩:Mem E.X).get i=some o→m.get i=some o:=by
  intro i o hi;unfold Mem.get at hi ⊢;cases hq:aa i (cK (jZ [] env) m.loc) with
  |some x =>
   rw[hq] at hi;rw[jy hq];exact hi
  |none =>
   rw[hq] at hi;cases hl:aa i m.loc with
   |some x=>exact(h.sep i x o hl hi).elim
   |none=>exact hi
 refine⟨⟨fun s v e=>h.er s v (by rw[nN rfl] at e;exact e),h.sz,h.df,fun i x y h1 h2=>h.sep i x y (jy h1) h2,h.good.part hsub (Ze _)⟩,hsub⟩
theorem St.tidy{ρ:Ren}{φ:br}{env:LV}{m:Mem E.X}{a:Act}{w:World}(n:Nat)(h:St E W0 ρ φ env m N a w):St E W0 ρ φ (tidy n env m).1 (tidy n env m).2 N a w ∧
  (∀i o,(tidy n env m).2.get i=some o→m.get i=some o)∧(tidy n env m).2.next=m.next:=by
 unfold AI.tidy;cases Nat.beq (Nat.land n 7) 0 with
 |true=>exact⟨h.prune.1,h.prune.2,rfl⟩
 |false=>exact⟨h,fun i o hi=>hi,rfl⟩
theorem yd(hmix:P.follows .mixedOrders=true)(hC:bR E P W0 call)(fuel:Nat):∀(c:Code) (ic:ICode) (x:Ex) (env env':LV) (m m':Mem E.X) (ρ:Ren) (φ:br) (a:Act) (w:World) (Q:Exit→Act→World→Prop),
  ef P esc N c=some ic→bP call fuel ic env m=some (x,env',m')→St E W0 ρ φ env m N a w →
  (∀a' w' ρ' φ',To E W0 ρ φ m w ρ' φ' env' m' N a' w'→Q x.out a' w')→c.wp P Q a w:=by
 intro c;induction c with
 |skip =>
  intro ic x env env' m m' ρ φ a w Q hm hr hs hQ;simp only[ef,zI] at hm;subst hm;simp only[bP,zI,Zf] at hr;obtain⟨rfl,rfl,rfl⟩:=hr;exact wp_skip (hQ a w ρ φ ⟨hs,Post.refl hs.good⟩)
 |region id os draw =>
  intro ic x env env' m m' ρ φ a w Q hm hr hs hQ;cases draw with
  |false =>
   simp only[ef,Zb] at hm;obtain⟨il,hil,rfl⟩:=hm;simp only[bP] at hr;split at hr
   ·rename_i e1 m1 h1;simp only[zI,Zf] at hr;obtain⟨rfl,rfl,rfl⟩:=hr;exact uM hC hil h1 hs hQ
   ·cases hr
  |true =>
   simp only[ef] at hm;split at hm
   ·rename_i il hil;cases hb:(fL il&&wM 0 (cD os.toList [])) with
    |false=>rw[hb] at hm;cases hm
    |true =>
     rw[hb,cond_true] at hm;injection hm with hm;subst hm;simp only[Zi] at hb;simp only[bP] at hr;split at hr
     ·rename_i e1 m1 h1;simp only[zI,Zf] at hr;obtain⟨rfl,rfl,rfl⟩:=hr;exact wV hmix hC hil rfl hb.2 hb.1 h1 hs hQ
     ·cases hr
   ·cases hm
 |seq p q ihp ihq =>
  intro ic x env env' m m' ρ φ a w Q hm hr hs hQ;simp only[ef] at hm;split at hm
  ·rename_i ip iq h1 h2;injection hm with hm;subst hm;simp only[bP] at hr;split at hr
   ·rename_i e1 m1 h3;refine wp_seq (ihp ip .norm env e1 m m1 ρ φ a w _ h1 h3 hs ?_);intro a' w' ρ' φ' ht;exact ihq iq x e1 env' m1 m' ρ' φ' a' w' Q h2 hr ht.st fun a'' w'' ρ'' φ'' ht'=>hQ a'' w'' ρ'' φ'' ⟨ht'.st,ht.post.trans ht'.post⟩
   ·rename_i hne;refine wp_seq (ihp ip x env env' m m' ρ φ a w _ h1 hr hs ?_);intro a' w' ρ' φ' ht;have:=hQ a' w' ρ' φ' ht;cases x with
    |norm=>exact(hne _ _ hr).elim
    |exit id=>exact this
    |ret=>exact this
  ·cases hm
 |cond cnd p q ihp ihq =>
  intro ic x env env' m m' ρ φ a w Q hm hr hs hQ;simp only[ef] at hm;split at hm
  ·rename_i c' ip iq h0 h1 h2;injection hm with hm;subst hm;simp only[bP] at hr;split at hr
   ·rename_i hb;exact wp_cond_true (al h0 hb hs.er).IS (ihp ip x env env' m m' ρ φ a w Q h1 hr hs hQ)
   ·rename_i hb;exact wp_cond_false (al h0 hb hs.er).IS (ihq iq x env env' m m' ρ φ a w Q h2 hr hs hQ)
   ·cases hr
  ·cases hm
 |block id p ih =>
  intro ic x env env' m m' ρ φ a w Q hm hr hs hQ;simp only[ef,Zb] at hm;obtain⟨ip,h1,rfl⟩:=hm;simp only[bP] at hr;split at hr
  ·rename_i k e1 m1 h2;refine wp_block (ih ip (.exit k) env e1 m m1 ρ φ a w _ h1 h2 hs ?_);intro a' w' ρ' φ' ht;show(if k=id then Q .normal a' w' else Q (.exit k) a' w');by_cases hk:k=id
   ·subst hk;simp only[Nat.beq_refl,cond_true,zI,Zf] at hr;obtain⟨rfl,rfl,rfl⟩:=hr;simp only[if_true];exact hQ a' w' ρ' φ' ht
   ·have:Nat.beq k id=false:=by rw[← Zl,Zg];exact hk
    rw[this,cond_false] at hr;simp only[zI,Zf] at hr;obtain⟨rfl,rfl,rfl⟩:=hr;simp only[hk,if_false];exact hQ a' w' ρ' φ' ht
  ·rename_i hne;refine wp_block (ih ip x env env' m m' ρ φ a w _ h1 hr hs ?_);intro a' w' ρ' φ' ht;have:=hQ a' w' ρ' φ' ht;cases x with
   |norm=>exact this
   |exit k=>exact(hne _ _ _ hr).elim
   |ret=>exact this
 |loop p ih =>
  intro ic x env env' m m' ρ φ a w Q hm hr hs hQ;simp only[ef,Zb] at hm;obtain⟨ip,h1,rfl⟩:=hm;simp only[bP] at hr;have key:∀(n:Nat) (env:LV) (m:Mem E.X) (ρ:Ren) (φ:br) (a:Act) (w:World),ge (bP call fuel ip) n env m=some (x,env',m')→St E W0 ρ φ env m N a w →
    (∀a' w' ρ' φ',To E W0 ρ φ m w ρ' φ' env' m' N a' w'→Q x.out a' w')→Code.rounds P p Q n a w:=by
   intro n;induction n with
   |zero=>intro env m ρ φ a w h;simp[ge] at h
   |succ n ihn =>
    intro env m ρ φ a w h hs hQ;simp only[ge] at h;rw[rounds_succ];split at h
    ·rename_i e1 m1 h2;refine ih ip .norm env e1 m m1 ρ φ a w _ h1 h2 hs ?_;intro a' w' ρ' φ' ht;obtain⟨hst,hsub,hnx⟩:=ht.st.tidy n;refine ihn _ _ ρ' φ' a' w' h hst ?_;intro a'' w'' ρ'' φ'' ht';have hpp:=ht.post.part (n'':=(tidy n e1 m1).2.next) hsub (Nat.le_of_eq hnx.symm);exact hQ a'' w'' ρ'' φ'' ⟨ht'.st,hpp.trans ht'.post⟩
    ·rename_i hne;refine ih ip x env env' m m' ρ φ a w _ h1 h hs ?_;intro a' w' ρ' φ' ht;have:=hQ a' w' ρ' φ' ht;cases x with
     |norm=>exact(hne _ _ h).elim
     |exit k=>exact this
     |ret=>exact this
  exact wp_loop_rounds fuel (key fuel env m ρ φ a w hr hs hQ)
 |exit id =>
  intro ic x env env' m m' ρ φ a w Q hm hr hs hQ;simp only[ef,zI] at hm;subst hm;simp only[bP,zI,Zf] at hr;obtain⟨rfl,rfl,rfl⟩:=hr;exact wp_exit (hQ a w ρ φ ⟨hs,Post.refl hs.good⟩)
 |ret =>
  intro ic x env env' m m' ρ φ a w Q hm hr hs hQ;simp only[ef,zI] at hm;subst hm;simp only[bP,zI,Zf] at hr;obtain⟨rfl,rfl,rfl⟩:=hr;exact wp_ret (hQ a w ρ φ ⟨hs,Post.refl hs.good⟩)
 |rangeFunc f ps as b _ _=>intro ic x env env' m m' ρ φ a w Q hm hr;injection hm with hm;subst hm;cases hr
 |scope b _=>intro ic x env env' m m' ρ φ a w Q hm hr;injection hm with hm;subst hm;cases hr
 |label l=>intro ic x env env' m m' ρ φ a w Q hm hr;injection hm with hm;subst hm;cases hr
 |goto l=>intro ic x env env' m m' ρ φ a w Q hm hr;injection hm with hm;subst hm;cases hr
 |refuse s=>intro ic x env env' m m' ρ φ a w Q hm hr;injection hm with hm;subst hm;cases hr
end
end Go.AI
namespace Go.AI
variable {E:Ext}{P:Program}{W0:World}{N:Nat}{esc:Nat→Nat→Bool}
theorem Ai{ρ:Ren}:∀{vs vs':List Value} {n:Nat} {s:Nat} {v:Value},All2 (VR ρ) vs vs'→aa s (aM n vs)=some v→n≤s∧∃v',vs'[s-n]? = some v'∧VR ρ v v'
 |[],_,n,s,v,h,hl=>by simp[aM,aa] at hl
 |x::vs,_,n,s,v,.cons (b:=y) h t,hl=>by
  simp only[aM] at hl;rw[zC] at hl;split at hl
  ·rename_i e;simp only at e;subst e;simp only[zI] at hl;subst hl;exact⟨Ze _,y,by simp,h⟩
  ·rename_i hne;obtain⟨h1,v',h2,h3⟩:=Ai t hl;refine⟨by omega,v',?_,h3⟩;rw[show s-n=(s-Nat.succ n)+1 by omega];simpa using h2
theorem iB{ρ:Ren}{φ:br}{env:LV}{m:Mem E.X}{a:Act}{w:World}(hs:St E W0 ρ φ env m N a w):∀{rs:List ResultVar} {is:List IRes} {vs:List Value},re P rs=some is→db env m is=some vs →
  ∃vs',(rs.mapM (m:=Sem) fun(x:ResultVar)=>match x with| .tmp t=>pure (a.tmps.getD t undef) | .cell c t=>do loadVar t (← asAddr (a.tmps.getD c undef))).run P w = .ok vs' w∧All2 (VR ρ) vs vs'
 |[],is,vs,h,hv=>by
  simp only[re,zI] at h;subst h;simp only[db,zI] at hv;subst hv;exact⟨[],rfl,.nil⟩
 | .tmp t::rs,is,vs,h,hv=>by
  simp only[re,Zb] at h;obtain⟨is',h1,rfl⟩:=h;simp only[db] at hv;split at hv
  ·rename_i v s h2 h3;injection hv with hv;subst hv;obtain⟨vs',k1,k2⟩:=iB hs h1 h3;refine⟨a.tmps.getD t undef::vs',?_,.cons (hs.er t v h2) k2⟩;simp only[List.mapM_cons,Zc,Zd,Za,k1]
  ·cases hv
 | .cell c t::rs,is,vs,h,hv=>by
  simp only[re] at h;split at h
  ·rename_i g n is' hg hn h1;split at h
   ·cases h
   ·rename_i hz;injection h with h;subst h;simp only[db] at hv;split at hv
    ·rename_i ad s h2 h3;split at hv
     ·rename_i cs hcs;split at hv
      ·rename_i v hov;injection hv with hv;subst hv;obtain⟨vs',k1,k2⟩:=iB hs h1 h3;have hp:=hs.er c _ h2;have hn0:(bif g then n else 1)≠0:=by
        cases g with
        |true =>
         simp only[Bool.true_and] at hz;intro e;simp only[cond_true] at e;rw[e] at hz;simp at hz
        |false=>simp
       generalize hq:a.tmps.getD c undef=q at hp;cases hp.By with
       |ptr hrb =>
        obtain⟨r',l1,l2,l3⟩:=gI (P:=P) hcs hs.good hn0 (.ptr hrb);unfold dy at hov;cases g with
        |true =>
         simp only[cond_true,zI] at hov l1;subst hov;refine⟨.agg ⟨r'⟩::vs',?_,.cons (.x (.agg l2)) k2⟩;have hh:((fun(x:ResultVar)=>match x with| .tmp t=>(pure (a.tmps.getD t undef):Sem Value) | .cell c t=>do loadVar t (← asAddr (a.tmps.getD c undef))) (.cell c t)).run P w = .ok (.agg ⟨r'⟩) w:=by
          simp only[hq,asAddr,loadVar,Zc,Zd,Za,fO hg,if_true,bW hn,l1]
         rw[List.mapM_cons,Zc,hh];simp only[Za,Zc,k1,Zd]
        |false =>
         simp only[cond_false] at hov;split at hov
         ·rename_i x;injection hov with hov;subst hov;obtain⟨yv,l4,l5⟩:=l3 x rfl rfl;refine⟨yv::vs',?_,.cons (.of_flat l5) k2⟩;have hh:((fun(x:ResultVar)=>match x with| .tmp t=>(pure (a.tmps.getD t undef):Sem Value) | .cell c t=>do loadVar t (← asAddr (a.tmps.getD c undef))) (.cell c t)).run P w = .ok yv w:=by
           simp only[hq,asAddr,loadVar,Zc,Zd,Za,fO hg,Zq,if_false,l4]
          rw[List.mapM_cons,Zc,hh];simp only[Za,Zc,k1,Zd]
         ·cases hov
      ·cases hv
     ·cases hv
    ·cases hv
  ·cases h
theorem xJ{ρ:Ren}{vs vs':List Value}{v:Value}(h:ja vs=some v)(hv:All2 (VR ρ) vs vs'):VR ρ v (if h:(⟨vs'⟩:Array Value).size=1 then(⟨vs'⟩:Array Value)[0] else .tuple ⟨vs'⟩):=by
 unfold ja at h;split at h
 ·rename_i x;injection h with h;subst h;cases hv with
  |cons h1 h2=>cases h2;simpa using h1
 ·rename_i hne;cases hall:vs.all isX with
  |false=>rw[hall] at h;cases h
  |true =>
   rw[hall,cond_true] at h;injection h with h;subst h;have hl:=hv.length;have hsz:¬((⟨vs'⟩:Array Value).size=1):=by
    show¬(vs'.length=1);intro e;rw[e] at hl
    match vs,hl with
    |[y],_=>exact hne y rfl
   rw[dif_neg hsz];refine .tup ?_;clear hne hsz hl;induction hv with
   |nil=>exact .nil
   |cons h1 h2 ih =>
    simp only[List.all_cons,Zi] at hall;refine .cons ?_ (ih hall.2);cases h1 with
    |x h=>exact h
    |tup h=>simp[isX] at hall
theorem eE(hmix:P.follows .mixedOrders=true){clean:Nat→Bool}{hook:dS E.X}(hH:bR E P W0 fun f vs h=>match hook f with|some g=>g vs h|none=>none):∀n,bR E P W0 (run (Dt P esc) clean hook n)
 |0=>by intro k vs h v h' hr;simp[run] at hr
 |n+1=>by
  intro k vs h v h' hr ρ φ w hG vs' hvs;simp only[run] at hr;cases hk:hook k with
  |some g =>
   rw[hk] at hr;exact hH k vs h v h' (by simp only[hk];exact hr) ρ φ w hG vs' hvs
  |none =>
   rw[hk] at hr;simp only at hr;split at hr
   ·cases hr
   ·rename_i fn hfn;cases hle:Nat.ble vs.length fn.n with
    |false=>rw[hle] at hr;cases hr
    |true =>
     rw[hle,cond_true] at hr;rw[Zk] at hle;unfold Dt at hfn;split at hfn
     ·rename_i gf hgf;split at hfn
      ·rename_i c hbody;split at hfn
       ·rename_i ic is hic his;split at hfn
        ·cases hfn
        ·rename_i hname;injection hfn with hfn;subst hfn;simp only at hle hr;refine .inl ⟨⟨gf,c,hgf,hbody,by simpa using hname⟩,?_⟩;have hlen:=hvs.length;have hst:St E W0 ρ φ (aM 0 vs) ⟨[],h.tbl,h.next⟩ gf.ntmps { tmps:=(⟨vs'⟩:Array Value)++Array.replicate (gf.ntmps-(⟨vs'⟩:Array Value).size) undef,defers:=[] } w:=by
          refine⟨?_,?_,rfl,?_,hG⟩
          ·intro s u hu;obtain⟨_,v',h1,h2⟩:=Ai hvs hu;rw[Nat.sub_zero] at h1;have hlt:s<vs'.length:=by
            rcases ZA s vs'.length with h|h
            ·exact h
            ·rw[ZD h] at h1;cases h1
           have:((⟨vs'⟩:Array Value)++Array.replicate (gf.ntmps-(⟨vs'⟩:Array Value).size) undef)[s]? = some v':=by
            rw[Array.getElem?_append_left hlt,dY];exact h1
           rw[Zp,this];exact h2
          ·simp only[Array.size_append,Array.size_replicate];show vs'.length+(gf.ntmps-vs'.length)=gf.ntmps;omega
          ·intro i x y hx;simp[aa] at hx
         have hget:(⟨[],h.tbl,h.next⟩:Mem E.X).get=fun i=>aa i h.tbl:=by
          funext i;rfl
         have fin:∀(env:LV) (m:Mem E.X),(match db env m is with|some rs=>(match ja rs with|some v=>some (v,(⟨bif clean k then iu h.next m.tbl else m.tbl,m.next⟩:Hp E.X))|none=>none)|none=>none)=some (v,h') →
           ∀(a':Act) (w':World) (ρ':Ren) (φ':br),To E W0 ρ φ (⟨[],h.tbl,h.next⟩:Mem E.X) w ρ' φ' env m gf.ntmps a' w' →
            a'.defers=[]∧∃v0,(results gf a'.tmps).run P w' = .ok v0 w'∧∃v' ρ' φ',Ending.returned v0 = .returned v'∧VR ρ' v v'∧Post (E:=E) W0 ρ φ (fun i=>aa i h.tbl) h.next w ρ' φ' (fun i=>aa i h'.tbl) h'.next w':=by
          intro env m hres a' w' ρ' φ' ht;refine⟨ht.st.df,?_⟩;split at hres
          ·rename_i rs hrs;split at hres
           ·rename_i v1 hv1;simp only[zI,Zf] at hres;obtain⟨rfl,rfl⟩:=hres;obtain⟨vs1,k1,k2⟩:=iB ht.st his hrs;refine⟨_,?_,_,ρ',φ',rfl,xJ hv1 k2,?_⟩
            ·have:(gf.results.mapM (m:=Sem) fun(x:ResultVar)=>match x with| .tmp t=>pure (a'.tmps.getD t undef) | .cell c t=>do loadVar t (← asAddr (a'.tmps.getD c undef))).run P w' = .ok ⟨vs1⟩ w':=by
              rw[← Array.toArray_toList (xs:=gf.results),List.mapM_toArray];simp only[Sem.run_map,k1,Za]
             change (do
              let vs ← gf.results.mapM (m:=Sem) fun(x:ResultVar)=>match x with| .tmp t=>pure (a'.tmps.getD t undef) | .cell c t=>do loadVar t (← asAddr (a'.tmps.getD c undef))
              pure (if h:vs.size=1 then vs[0] else .tuple vs):Sem Value).run P w'=_
             rw[Zc,this];simp only[Za,Zd]
            ·have hp:=ht.post;rw[hget] at hp;refine hp.part (V'':=fun i=>aa i (bif clean k then iu h.next m.tbl else m.tbl)) ?_ (Ze _);intro i o hi;have hi':aa i m.tbl=some o:=by
              cases hcl:clean k with
              |false=>rw[hcl,cond_false] at hi;exact hi
              |true =>
               rw[hcl,cond_true] at hi;exact(hY (f:=fun j=>Nat.blt j h.next) hi).1
             show m.get i=some o;unfold Mem.get;cases hl:aa i m.loc with
             |some x=>exact(ht.st.sep i x o hl hi').elim
             |none=>exact hi'
           ·cases hres
          ·cases hres
         split at hr
         ·cases hr
         ·cases hr
         ·rename_i x env m hx hrc;refine calls_of_wp hgf hbody ?_;refine yd hmix (eE hmix hH n) n c ic x _ env _ m ρ φ _ w _ hic hrc hst ?_;intro a' w' ρ' φ' ht;obtain⟨f1,v0,f2,f3⟩:=fin env m hr a' w' ρ' φ' ht;cases x with
          |norm=>exact⟨f1,v0,f2,f3⟩
          |ret=>exact⟨f1,v0,f2,f3⟩
          |exit id=>exact(hx _ rfl).elim
       ·cases hfn
      ·cases hfn
     ·cases hfn
end Go.AI
