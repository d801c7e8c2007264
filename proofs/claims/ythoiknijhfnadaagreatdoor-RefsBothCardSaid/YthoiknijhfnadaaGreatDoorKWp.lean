/- The evaluator walked by rules: what it answers where values are not known. No program is named here. -/
import Derived.Test.YthoiknijhfnadaaGreatDoorKHk
namespace Go.AI
section
variable {X:Type}{call:CallFn X}{fuel:Nat}
structure WO(call:CallFn X)(l:List (Option (Nat×Bool)×IOp))(env:List (Nat×Value))(m:Mem X)(Q:List (Nat×Value)→Mem X→Prop):Prop where
 ex:∃env' m',runOps call l env m=some (env',m')∧Q env' m'
structure WC(call:CallFn X)(fuel:Nat)(c:ICode)(env:List (Nat×Value))(m:Mem X)(Q:Ex→List (Nat×Value)→Mem X→Prop):Prop where
 ex:∃x env' m',runC call fuel c env m=some (x,env',m')∧Q x env' m'
variable {env:List (Nat×Value)}{m:Mem X}{Q:Ex→List (Nat×Value)→Mem X→Prop}{K:List (Nat×Value)→Mem X→Prop}{l:List (Option (Nat×Bool)×IOp)}
def thenC(call:CallFn X)(fuel:Nat)(b:ICode)(Q:Ex→List (Nat×Value)→Mem X→Prop):Ex→List (Nat×Value)→Mem X→Prop
 | .norm,e,m=>WC call fuel b e m Q
 | .exit k,e,m=>Q (.exit k) e m
 | .ret,e,m=>Q .ret e m
def blockC(id:Nat)(Q:Ex→List (Nat×Value)→Mem X→Prop):Ex→List (Nat×Value)→Mem X→Prop
 | .exit k,e,m=>if k=id then Q .norm e m else Q (.exit k) e m
 | .norm,e,m=>Q .norm e m
 | .ret,e,m=>Q .ret e m
theorem WC.mono{c:ICode}{Q':Ex→List (Nat×Value)→Mem X→Prop}(h:WC call fuel c env m Q)(hq:∀x e m,Q x e m→Q' x e m):WC call fuel c env m Q' :=
 let⟨x,e,m',h1,h2⟩:=h;⟨x,e,m',h1,hq _ _ _ h2⟩
theorem WO.mono{K':List (Nat×Value)→Mem X→Prop}(h:WO call l env m K)(hq:∀e m,K e m→K' e m):WO call l env m K' :=
 let⟨e,m',h1,h2⟩:=h;⟨e,m',h1,hq _ _ h2⟩
theorem WC.skip(h:Q .norm env m):WC call fuel .skip env m Q:=⟨_,_,_,rfl,h⟩
theorem WC.exit{id:Nat}(h:Q (.exit id) env m):WC call fuel (.exit id) env m Q:=⟨_,_,_,rfl,h⟩
theorem WC.ret(h:Q .ret env m):WC call fuel .ret env m Q:=⟨_,_,_,rfl,h⟩
theorem WC.ops(h:WO call l env m (Q .norm)):WC call fuel (.ops l) env m Q:=by
 obtain⟨e,m',h1,h2⟩:=h
 exact⟨.norm,e,m',by simp only[runC,h1],h2⟩
theorem WC.drawn{bf:List (List Nat)}{e:List (Nat×Value)}{m':Mem X}(h:drawnRun call l bf env m=some (e,m'))(hq:Q .norm e m'):WC call fuel (.drawn l bf) env m Q :=
 ⟨.norm,e,m',by simp only[runC,h],hq⟩
theorem WC.seq{a b:ICode}(h:WC call fuel a env m (thenC call fuel b Q)):WC call fuel (.seq a b) env m Q:=by
 obtain⟨x,e,m',h1,h2⟩:=h
 cases x with
 |norm =>
  obtain⟨x,e',m'',h3,h4⟩:=(h2:WC call fuel b e m' Q)
  exact⟨x,e',m'',by simp only[runC,h1,h3],h4⟩
 |exit k=>exact⟨.exit k,e,m',by simp only[runC,h1],h2⟩
 |ret=>exact⟨.ret,e,m',by simp only[runC,h1],h2⟩
theorem WC.block{id:Nat}{a:ICode}(h:WC call fuel a env m (blockC id Q)):WC call fuel (.block id a) env m Q:=by
 obtain⟨x,e,m',h1,h2⟩:=h
 cases x with
 |norm=>exact⟨.norm,e,m',by simp only[runC,h1],h2⟩
 |ret=>exact⟨.ret,e,m',by simp only[runC,h1],h2⟩
 |exit k =>
  simp only[blockC] at h2
  by_cases hk:k=id
  ·rw[if_pos hk] at h2
   refine⟨.norm,e,m',?_,h2⟩
   simp only[runC,h1,hk,Nat.beq_refl,cond_true]
  ·rw[if_neg hk] at h2
   refine⟨.exit k,e,m',?_,h2⟩
   have:Nat.beq k id=false:=by rw[← Bool.not_eq_true,Nat.beq_eq];exact hk
   simp only[runC,h1,this,cond_false]
theorem WC.cond{c:Opd}{a b:ICode}{t:Bool}(h:evo env c=some (.bool t))(ht:t=true→WC call fuel a env m Q)(hf:t=false→WC call fuel b env m Q):WC call fuel (.cond c a b) env m Q:=by
 cases t with
 |true=>obtain⟨x,e,m',h1,h2⟩:=ht rfl;exact⟨x,e,m',by simp only[runC,h,h1],h2⟩
 |false=>obtain⟨x,e,m',h1,h2⟩:=hf rfl;exact⟨x,e,m',by simp only[runC,h,h1],h2⟩
theorem WC.cond_true{c:Opd}{a b:ICode}(h:evo env c=some (.bool true))(ht:WC call fuel a env m Q):WC call fuel (.cond c a b) env m Q :=
 .cond h (fun _=>ht) (fun h=>by cases h)
theorem WC.cond_false{c:Opd}{a b:ICode}(h:evo env c=some (.bool false))(ht:WC call fuel b env m Q):WC call fuel (.cond c a b) env m Q :=
 .cond h (fun h=>by cases h) (fun _=>ht)
theorem tidy_look(n s:Nat)(env:List (Nat×Value))(m:Mem X):look s (tidy n env m).1=look s env:=by
 unfold tidy
 cases Nat.beq (Nat.land n 7) 0 with
 |true=>rw[cond_true];exact uniq_look' s env
 |false=>rfl
where
 uniq_look' (s:Nat) (env:List (Nat×Value)):look s (uniq [] env)=look s env:=by
  have key:∀(env:List (Nat×Value)) (seen:List Nat),memB s seen=false→look s (uniq seen env)=look s env:=by
   intro env
   induction env with
   |nil=>intro seen _;rfl
   |cons x r ih =>
    intro seen h
    obtain⟨k,v⟩:=x
    simp only[uniq]
    cases hk:memB k seen with
    |true =>
     rw[cond_true,zC,ih _ h]
     split
     ·rename_i e;simp only at e;subst e;rw[h] at hk;cases hk
     ·rfl
    |false =>
     rw[cond_false,zC,zC]
     split
     ·rfl
     ·rename_i hne
      refine ih _ ?_
      simp only[memB,Bool.or_eq_false_iff]
      refine⟨?_,h⟩
      rw[← Bool.not_eq_true,Nat.beq_eq];exact fun e=>hne e
  exact key env [] rfl
theorem tidy_mem(n:Nat)(env:List (Nat×Value))(tbl:List (Nat×AObj X))(nx:Nat):(tidy n env ⟨[],tbl,nx⟩).2=⟨[],tbl,nx⟩:=by
 unfold tidy
 cases Nat.beq (Nat.land n 7) 0<;>rfl
theorem WC.loop{body:ICode}(I:Nat→(Nat→Option Value)→List (Nat×AObj X)→Nat→Prop){k:Nat}{tbl:List (Nat×AObj X)}{nx:Nat}(hk:k<fuel)(h0:I k (fun t=>look t env) tbl nx)
  (step:∀j e tbl nx,I j (fun t=>look t e) tbl nx→WC call fuel body e ⟨[],tbl,nx⟩ fun x e' m'=>match x with
   | .norm=>∃j',j'<j∧m'.loc=[]∧I j' (fun t=>look t e') m'.tbl m'.next
   | .exit i=>Q (.exit i) e' m'
   | .ret=>Q .ret e' m'):WC call fuel (.loop body) env ⟨[],tbl,nx⟩ Q:=by
 have key:∀n k env tbl nx,k<n→I k (fun t=>look t env) tbl nx→∃x env' m',loopN (runC call fuel body) n env ⟨[],tbl,nx⟩=some (x,env',m')∧Q x env' m':=by
  intro n
  induction n with
  |zero=>intro k env tbl nx h;omega
  |succ n ih =>
   intro k env tbl nx hk h
   obtain⟨x,e',m',h1,h2⟩:=step k env tbl nx h
   simp only[loopN,h1]
   cases x with
   |norm =>
    obtain⟨j',h3,h4,h5⟩:=h2
    obtain⟨loc,tbl',nx'⟩:=m'
    simp only at h4 h5;subst h4
    dsimp only
    rw[tidy_mem]
    refine ih j' _ tbl' nx' (by omega) ?_
    simp only[tidy_look];exact h5
   |exit i=>exact⟨_,_,_,rfl,h2⟩
   |ret=>exact⟨_,_,_,rfl,h2⟩
 obtain⟨x,e,m',h1,h2⟩:=key fuel k env tbl nx hk h0
 exact⟨x,e,m',h1,h2⟩
theorem WO.nil(h:K env m):WO call [] env m K:=⟨_,_,rfl,h⟩
theorem WO.step{i:IOp}{v:Value}{m':Mem X}(h:estep call env m i=some (v,m'))(k:WO call l (putEnv i.dst v env) m' K):WO call ((none,i)::l) env m K:=by
 obtain⟨e,m'',h1,h2⟩:=k
 exact⟨e,m'',by simp only[runOps,wanted,h,h1],h2⟩
theorem WO.pure{d:Nat}{p:PureOp}{v:Value}(h:peval env p=some v)(k:WO call l ((d,v)::env) m K):WO call ((none,.pure d p)::l) env m K :=
 .step (i:=.pure d p) (by simp only[estep,h]) k
theorem WO.guard{d:Nat}{b:Bool}{t:Bool}{i:IOp}(hg:look d env=some (.bool t))(hw:t=b→WO call ((none,i)::l) env m K)(hn:t≠b→WO call l (putEnv i.dst undef env) m K):WO call ((some (d,b),i)::l) env m K:=by
 by_cases h:t=b
 ·obtain⟨e,m',h1,h2⟩:=hw h
  refine⟨e,m',?_,h2⟩
  have h3:wanted env (some (d,b))=some true:=by simp[wanted,hg,h]
  simp only[runOps,wanted] at h1
  simp only[runOps,h3]
  exact h1
 ·obtain⟨e,m',h1,h2⟩:=hn h
  refine⟨e,m',?_,h2⟩
  have h3:wanted env (some (d,b))=some false:=by simp[wanted,hg,h]
  simp only[runOps,h3]
  exact h1
theorem wrap64{n:Int}(h:-9223372036854775808≤n)(h':n<9223372036854775808):wrapF .i64 n=n:=by
 rw[wrapF_eq,wrap_i64]
 split<;>omega
theorem WO.add{d:Nat}{e:EqK}{x y:Opd}{a b:Int}(hx:evo env x=some (.int .i64 a))(hy:evo env y=some (.int .i64 b))(h1:-9223372036854775808≤a+b)(h2:a+b<9223372036854775808)
  (k:WO call l ((d,.int .i64 (a+b))::env) m K):WO call ((none,.pure d (.bin .add e x y))::l) env m K :=
 .pure (by simp only[peval,hx,hy,binVal,intBin,wrap64 h1 h2,if_true]) k
theorem WO.sub{d:Nat}{e:EqK}{x y:Opd}{a b:Int}(hx:evo env x=some (.int .i64 a))(hy:evo env y=some (.int .i64 b))(h1:-9223372036854775808≤a-b)(h2:a-b<9223372036854775808)
  (k:WO call l ((d,.int .i64 (a-b))::env) m K):WO call ((none,.pure d (.bin .sub e x y))::l) env m K :=
 .pure (by simp only[peval,hx,hy,binVal,intBin,wrap64 h1 h2,if_true]) k
theorem WO.mul{d:Nat}{e:EqK}{x y:Opd}{a b:Int}(hx:evo env x=some (.int .i64 a))(hy:evo env y=some (.int .i64 b))(h1:-9223372036854775808≤a*b)(h2:a*b<9223372036854775808)
  (k:WO call l ((d,.int .i64 (a*b))::env) m K):WO call ((none,.pure d (.bin .mul e x y))::l) env m K :=
 .pure (by simp only[peval,hx,hy,binVal,intBin,wrap64 h1 h2,if_true]) k
theorem WO.lss{d:Nat}{e:EqK}{x y:Opd}{j:IntKind}{a b:Int}(hx:evo env x=some (.int j a))(hy:evo env y=some (.int j b))(k:WO call l ((d,.bool (decide (a<b)))::env) m K):WO call ((none,.pure d (.bin .lss e x y))::l) env m K :=
 .pure (by simp only[peval,hx,hy,binVal,intBin,if_true,iltF_eq]) k
theorem WO.gtr{d:Nat}{e:EqK}{x y:Opd}{j:IntKind}{a b:Int}(hx:evo env x=some (.int j a))(hy:evo env y=some (.int j b))(k:WO call l ((d,.bool (decide (b<a)))::env) m K):WO call ((none,.pure d (.bin .gtr e x y))::l) env m K :=
 .pure (by simp only[peval,hx,hy,binVal,intBin,if_true,iltF_eq]) k
theorem WO.leq{d:Nat}{e:EqK}{x y:Opd}{j:IntKind}{a b:Int}(hx:evo env x=some (.int j a))(hy:evo env y=some (.int j b))(k:WO call l ((d,.bool (decide (a≤b)))::env) m K):WO call ((none,.pure d (.bin .leq e x y))::l) env m K :=
 .pure (by
  have:(!decide (b<a))=decide (a≤b):=by rw[← decide_not];exact decide_eq_decide.2 Int.not_lt
  simp only[peval,hx,hy,binVal,intBin,if_true,iltF_eq,this]) k
theorem WO.geq{d:Nat}{e:EqK}{x y:Opd}{j:IntKind}{a b:Int}(hx:evo env x=some (.int j a))(hy:evo env y=some (.int j b))(k:WO call l ((d,.bool (decide (b≤a)))::env) m K):WO call ((none,.pure d (.bin .geq e x y))::l) env m K :=
 .pure (by
  have:(!decide (a<b))=decide (b≤a):=by rw[← decide_not];exact decide_eq_decide.2 Int.not_lt
  simp only[peval,hx,hy,binVal,intBin,if_true,iltF_eq,this]) k
theorem WO.eql{d:Nat}{e:EqK}{x y:Opd}{j:IntKind}{a b:Int}(hx:evo env x=some (.int j a))(hy:evo env y=some (.int j b))(k:WO call l ((d,.bool (decide (a=b)))::env) m K):WO call ((none,.pure d (.bin .eql e x y))::l) env m K :=
 .pure (by
  have:(a == b)=decide (a=b):=rfl
  simp only[peval,hx,hy,binVal,intBin,if_true,ieqF_eq,this]) k
theorem WO.neq{d:Nat}{e:EqK}{x y:Opd}{j:IntKind}{a b:Int}(hx:evo env x=some (.int j a))(hy:evo env y=some (.int j b))(k:WO call l ((d,.bool (decide (a≠b)))::env) m K):WO call ((none,.pure d (.bin .neq e x y))::l) env m K :=
 .pure (by
  have:(!(a == b))=decide (a≠b):=by rw[decide_not];rfl
  simp only[peval,hx,hy,binVal,intBin,if_true,ieqF_eq,this]) k
theorem WO.not{d:Nat}{x:Opd}{p:Prop}[Decidable p](hx:evo env x=some (.bool (decide p)))(k:WO call l ((d,.bool (decide (¬p)))::env) m K):WO call ((none,.pure d (.not x))::l) env m K :=
 .pure (by simp only[peval,hx,decide_not]) k
theorem WO.mv{d:Nat}{x:Opd}{v:Value}(hx:evo env x=some v)(k:WO call l ((d,v)::env) m K):WO call ((none,.pure d (.mv x))::l) env m K:=.pure hx k
section
variable {tbl:List (Nat×AObj X)}{nx:Nat}
theorem WO.load{d n:Nat}{g:Bool}{a:Opd}{i o:Nat}{ob:AObj X}{cs r:List Value}{v:Value}(ha:evo env a=some (.pointer (some ⟨i,o,none⟩)))(hi:look i tbl=some ob)(hc:cellsO ob=some cs)(hr:takeN cs o n=some r)(hv:oneOf g r=some v)
  (k:WO call l ((d,v)::env) ⟨[],tbl,nx⟩ K):WO call ((none,.load d n g a)::l) env ⟨[],tbl,nx⟩ K:=by
 refine .step (i:=.load d n g a) ?_ k
 have h1:(⟨[],tbl,nx⟩:Mem X).load ⟨i,o,none⟩ n=some r:=by
  have:(⟨[],tbl,nx⟩:Mem X).get i=some ob:=hi
  simp only[Mem.load,this,hc,hr]
 simp only[estep,mstep,ha,h1,hv,Option.map]
theorem mem_store{i o:Nat}{ob ob':AObj X}{cs vs:List Value}(hi:look i tbl=some ob)(hc:cellsO ob=some cs)(hl:o+vs.length≤cs.length)(hp:putO (splice cs o vs) ob=some ob') :
  (⟨[],tbl,nx⟩:Mem X).store ⟨i,o,none⟩ vs=some ⟨[],upd i ob' tbl,nx⟩:=by
 have h1:(⟨[],tbl,nx⟩:Mem X).get i=some ob:=hi
 have h2:Nat.ble (o+vs.length) cs.length=true:=by rw[Nat.ble_eq];exact hl
 simp only[Mem.store,h1,hc,h2,cond_true,hp,Option.map,Mem.put,look]
theorem WO.store{n:Nat}{a x:Opd}{i o:Nat}{ob ob':AObj X}{v:Value}{cs vs:List Value}(ha:evo env a=some (.pointer (some ⟨i,o,none⟩)))(hx:evo env x=some v)(hv:cellsV v=some vs)(hn:vs.length=n)(hi:look i tbl=some ob)(hc:cellsO ob=some cs)
  (hl:o+vs.length≤cs.length) (hp:putO (splice cs o vs) ob=some ob') (k:WO call l env ⟨[],upd i ob' tbl,nx⟩ K):WO call ((none,.store n a x)::l) env ⟨[],tbl,nx⟩ K:=by
 refine .step (i:=.store n a x) (v:=undef) (m':=⟨[],upd i ob' tbl,nx⟩) ?_ k
 have h1:Nat.beq vs.length n=true:=by rw[Nat.beq_eq];exact hn
 simp only[estep,mstep,ha,hx,hv,h1,cond_true,mem_store hi hc hl hp,Option.map]
theorem WO.new{d:Nat}{cs:List Value}(k:WO call l ((d,.pointer (some ⟨nx,0,none⟩))::env) ⟨[],(nx,.cells cs)::tbl,nx+1⟩ K):WO call ((none,.new d true cs)::l) env ⟨[],tbl,nx⟩ K :=
 .step (i:=.new d true cs) rfl k
theorem WO.newt{d t:Nat}{cs:List Value}(k:WO call l ((d,.pointer (some ⟨nx,0,none⟩))::env) ⟨[],(nx,.typed t cs)::tbl,nx+1⟩ K):WO call ((none,.newt d true t cs)::l) env ⟨[],tbl,nx⟩ K :=
 .step (i:=.newt d true t cs) rfl k
theorem WO.box{d:Nat}{x:Opd}{v:Value}{cs:List Value}(hx:evo env x=some v)(hv:cellsV v=some cs)(k:WO call l ((d,.pointer (some ⟨nx,0,none⟩))::env) ⟨[],(nx,.cells cs)::tbl,nx+1⟩ K):WO call ((none,.box d true x)::l) env ⟨[],tbl,nx⟩ K :=
 .step (i:=.box d true x) (by simp only[estep,mstep,allocI,hx,hv,Option.map];rfl) k
theorem WO.fcall{d:Option Nat}{f:Opd}{xs:List Opd}{kf:Nat}{fst caps:Array Value}{vs:List Value}{v:Value}{h:Hp X}(hf:evo env f=some (.func (.func kf) fst caps))(hxs:evs env xs=some vs)(hc:call kf (vs++caps.toList) ⟨m.tbl,m.next⟩=some (v,h))
  (k:WO call l (putEnv d v env) ⟨m.loc,h.tbl,h.next⟩ K):WO call ((none,.call d f xs)::l) env m K:=by
 refine .step (i:=.call d f xs) (m':=⟨m.loc,h.tbl,h.next⟩) ?_ k
 simp only[estep,hf,hxs,hc]
theorem WO.fcall_ex{d:Option Nat}{f:Opd}{xs:List Opd}{kf:Nat}{fst caps:Array Value}{vs:List Value}{R:Value→Hp X→Prop}(hf:evo env f=some (.func (.func kf) fst caps))(hxs:evs env xs=some vs)(hc:∃v h,call kf (vs++caps.toList) ⟨m.tbl,m.next⟩=some (v,h)∧R v h)
  (k:∀v h,R v h→WO call l (putEnv d v env) ⟨m.loc,h.tbl,h.next⟩ K):WO call ((none,.call d f xs)::l) env m K :=
 let⟨_,_,h1,h2⟩:=hc;.fcall hf hxs h1 (k _ _ h2)
end
def endC(res:List IRes)(cl:Bool)(nx:Nat)(R:Value→Hp X→Prop):Ex→List (Nat×Value)→Mem X→Prop
 | .exit _,_,_=>False
 | .norm,e,m=>∃vs v,resV e m res=some vs∧packV vs=some v∧R v ⟨bif cl then dropNew nx m.tbl else m.tbl,m.next⟩
 | .ret,e,m=>∃vs v,resV e m res=some vs∧packV vs=some v∧R v ⟨bif cl then dropNew nx m.tbl else m.tbl,m.next⟩
theorem run_fn{F:Nat→Option IFn}{clean:Nat→Bool}{hook:Hook X}{n f:Nat}{vs:List Value}{h:Hp X}{fn:IFn}{R:Value→Hp X→Prop}(hh:hook f=none)(hf:F f=some fn)(hl:vs.length≤fn.n)
  (hw:WC (run F clean hook n) n fn.code (argsE 0 vs) ⟨[],h.tbl,h.next⟩ (endC fn.res (clean f) h.next R)):∃v h',run F clean hook (n+1) f vs h=some (v,h')∧R v h':=by
 obtain⟨x,e,m,h1,h2⟩:=hw
 have hb:Nat.ble vs.length fn.n=true:=by rw[Nat.ble_eq];exact hl
 cases x with
 |exit _=>exact h2.elim
 |norm =>
  obtain⟨ws,v,h3,h4,h5⟩:=h2
  exact⟨v,_,by simp only[run,hh,hf,hb,cond_true,h1,h3,h4],h5⟩
 |ret =>
  obtain⟨ws,v,h3,h4,h5⟩:=h2
  exact⟨v,_,by simp only[run,hh,hf,hb,cond_true,h1,h3,h4],h5⟩
theorem run_hook{F:Nat→Option IFn}{clean:Nat→Bool}{hook:Hook X}{n f:Nat}{vs:List Value}{h:Hp X}{g:List Value→Hp X→Option (Value×Hp X)}(hh:hook f=some g):run F clean hook (n+1) f vs h=g vs h:=by
 simp only[run,hh]
end
end Go.AI
/- The evaluator walked by rules, on: comparisons split the walk;slices, indexes;what a call leaves as it was. No program is named here. -/
namespace Go.AI
section
variable {X:Type}{call:CallFn X}{fuel:Nat}{env:List (Nat×Value)}{m:Mem X}{Q:Ex→List (Nat×Value)→Mem X→Prop}{K:List (Nat×Value)→Mem X→Prop}{l:List (Option (Nat×Bool)×IOp)}
theorem zN{b:ICode}(h:WC call fuel b env m Q):thenC call fuel b Q .norm env m:=h
theorem thenC_exit{b:ICode}{k:Nat}(h:Q (.exit k) env m):thenC call fuel b Q (.exit k) env m:=h
theorem thenC_ret{b:ICode}(h:Q .ret env m):thenC call fuel b Q .ret env m:=h
theorem zB{id:Nat}(h:Q .norm env m):blockC id Q .norm env m:=h
theorem blockC_ret{id:Nat}(h:Q .ret env m):blockC id Q .ret env m:=h
theorem blockC_exit{id:Nat}(h:Q .norm env m):blockC id Q (.exit id) env m:=by
 simp only[blockC,if_true];exact h
theorem blockC_ne{id k:Nat}(hk:k≠id)(h:Q (.exit k) env m):blockC id Q (.exit k) env m:=by
 simp only[blockC,hk,if_false];exact h
theorem WO.split{d:Nat}{p:Prop}[Decidable p](hT:p→WO call l ((d,.bool true)::env) m K)(hF:¬p→WO call l ((d,.bool false)::env) m K):WO call l ((d,.bool (decide p))::env) m K:=by
 by_cases h:p
 ·rw[decide_eq_true h];exact hT h
 ·rw[decide_eq_false h];exact hF h
theorem WO.lssS{d:Nat}{e:EqK}{x y:Opd}{j:IntKind}{a b:Int}(hx:evo env x=some (.int j a))(hy:evo env y=some (.int j b))(hT:a<b→WO call l ((d,.bool true)::env) m K)(hF:¬a<b→WO call l ((d,.bool false)::env) m K):WO call ((none,.pure d (.bin .lss e x y))::l) env m K:=.lss hx hy (.split hT hF)
theorem WO.gtrS{d:Nat}{e:EqK}{x y:Opd}{j:IntKind}{a b:Int}(hx:evo env x=some (.int j a))(hy:evo env y=some (.int j b))(hT:b<a→WO call l ((d,.bool true)::env) m K)(hF:¬b<a→WO call l ((d,.bool false)::env) m K):WO call ((none,.pure d (.bin .gtr e x y))::l) env m K:=.gtr hx hy (.split hT hF)
theorem WO.leqS{d:Nat}{e:EqK}{x y:Opd}{j:IntKind}{a b:Int}(hx:evo env x=some (.int j a))(hy:evo env y=some (.int j b))(hT:a≤b→WO call l ((d,.bool true)::env) m K)(hF:¬a≤b→WO call l ((d,.bool false)::env) m K):WO call ((none,.pure d (.bin .leq e x y))::l) env m K:=.leq hx hy (.split hT hF)
theorem WO.geqS{d:Nat}{e:EqK}{x y:Opd}{j:IntKind}{a b:Int}(hx:evo env x=some (.int j a))(hy:evo env y=some (.int j b))(hT:b≤a→WO call l ((d,.bool true)::env) m K)(hF:¬b≤a→WO call l ((d,.bool false)::env) m K):WO call ((none,.pure d (.bin .geq e x y))::l) env m K:=.geq hx hy (.split hT hF)
theorem WO.eqlS{d:Nat}{e:EqK}{x y:Opd}{j:IntKind}{a b:Int}(hx:evo env x=some (.int j a))(hy:evo env y=some (.int j b))(hT:a=b→WO call l ((d,.bool true)::env) m K)(hF:¬a=b→WO call l ((d,.bool false)::env) m K):WO call ((none,.pure d (.bin .eql e x y))::l) env m K:=.eql hx hy (.split hT hF)
theorem WO.neqS{d:Nat}{e:EqK}{x y:Opd}{j:IntKind}{a b:Int}(hx:evo env x=some (.int j a))(hy:evo env y=some (.int j b))(hT:a≠b→WO call l ((d,.bool true)::env) m K)(hF:a=b→WO call l ((d,.bool false)::env) m K):WO call ((none,.pure d (.bin .neq e x y))::l) env m K :=
 .neq hx hy (.split hT fun h=>hF (Decidable.byContradiction h))
theorem WO.skip{d:Nat}{b t:Bool}{i:IOp}(hg:look d env=some (.bool t))(ht:(t == b)=false)(hn:WO call l (putEnv i.dst undef env) m K):WO call ((some (d,b),i)::l) env m K :=
 .guard hg (fun h=>by subst h;simp at ht) (fun _=>hn)
theorem WO.take{d:Nat}{b t:Bool}{i:IOp}(hg:look d env=some (.bool t))(ht:(t == b)=true)(hn:WO call ((none,i)::l) env m K):WO call ((some (d,b),i)::l) env m K :=
 .guard hg (fun _=>hn) (fun h=>by exact(h (by simpa using ht)).elim)
theorem WO.quo{d:Nat}{e:EqK}{x y:Opd}{a b:Nat}(hx:evo env x=some (.int .i64 (Int.ofNat a)))(hy:evo env y=some (.int .i64 (Int.ofNat (b+1))))(ha:a<9223372036854775808)(k:WO call l ((d,.int .i64 (Int.ofNat (a / (b+1))))::env) m K):WO call ((none,.pure d (.bin .quo e x y))::l) env m K:=by
 refine .pure ?_ k
 have h1:a / (b+1)<half .i64:=Nat.lt_of_le_of_lt (Nat.div_le_self _ _) ha
 have h2:wrapF .i64 (Int.ofNat (a / (b+1)))=Int.ofNat (a / (b+1)):=by rw[wrapF_eq];exact wrapF_nat .i64 _ h1
 have h3:Nat.div a (b+1)=a / (b+1):=rfl
 simp only[peval,hx,hy,binVal,intBin,divF,if_true,h3,h2,Option.map]
theorem WO.rem{d:Nat}{e:EqK}{x y:Opd}{a b:Nat}(hx:evo env x=some (.int .i64 (Int.ofNat a)))(hy:evo env y=some (.int .i64 (Int.ofNat (b+1))))(k:WO call l ((d,.int .i64 (Int.ofNat (a % (b+1))))::env) m K):WO call ((none,.pure d (.bin .rem e x y))::l) env m K:=by
 refine .pure ?_ k
 have h3:Nat.mod a (b+1)=a % (b+1):=rfl
 simp only[peval,hx,hy,binVal,intBin,divF,if_true,h3,Option.map]
theorem WO.as{d:Nat}{j:IntKind}{a b:Int}(h:a=b)(k:WO call l ((d,.int j b)::env) m K):WO call l ((d,.int j a)::env) m K:=by rw[h];exact k
def Fresh(t:List (Nat×AObj X))(n:Nat):Prop:=∀k,n≤k→look k t=none
structure Keep(t:List (Nat×AObj X))(n:Nat)(t':List (Nat×AObj X))(n':Nat):Prop where
 fr:Fresh t' n'
 le:n≤n'
 same:∀k,k<n→look k t'=look k t
theorem Keep.refl{t:List (Nat×AObj X)}{n:Nat}(h:Fresh t n):Keep t n t n:=⟨h,Nat.le_refl _,fun _ _=>rfl⟩
theorem Keep.trans{t t' t'':List (Nat×AObj X)}{n n' n'':Nat}(a:Keep t n t' n')(b:Keep t' n' t'' n''):Keep t n t'' n'':=⟨b.fr,Nat.le_trans a.le b.le,fun k hk=>(b.same k (Nat.lt_of_lt_of_le hk a.le)).trans (a.same k hk)⟩
theorem Fresh.new{t:List (Nat×AObj X)}{n:Nat}(h:Fresh t n)(o:AObj X):Fresh ((n,o)::t) (n+1):=fun k hk=>by
 rw[zC]
 rw[if_neg (by show¬k=n;omega)]
 exact h k (by omega)
theorem Keep.new{t:List (Nat×AObj X)}{n:Nat}(h:Fresh t n)(o:AObj X):Keep t n ((n,o)::t) (n+1):=⟨h.new o,by omega,fun k hk=>by rw[zC,if_neg (by show¬k=n;omega)]⟩
theorem look_new{t:List (Nat×AObj X)}{n:Nat}{o:AObj X}:look n ((n,o)::t)=some o:=by rw[zC,if_pos rfl]
theorem look_old{t:List (Nat×AObj X)}{n k:Nat}{o:AObj X}(h:k≠n):look k ((n,o)::t)=look k t:=by rw[zC,if_neg h]
theorem zS{t:List (Nat×AObj X)}{i:Nat}{o o':AObj X}(h:look i t=some o):look i (upd i o' t)=some o':=by rw[look_upd,if_pos rfl,h];rfl
theorem zU{t:List (Nat×AObj X)}{i j:Nat}{o':AObj X}(h:j≠i):look j (upd i o' t)=look j t:=by rw[look_upd,if_neg h]
theorem Fresh.upd{t:List (Nat×AObj X)}{n i:Nat}{o:AObj X}(h:Fresh t n):Fresh (upd i o t) n:=fun k hk=>by
 rw[look_upd,h k hk];split<;>rfl
theorem Keep.upd{t t':List (Nat×AObj X)}{n n' i:Nat}{o:AObj X}(a:Keep t n t' n')(hi:n≤i):Keep t n (upd i o t') n':=⟨a.fr.upd,a.le,fun k hk=>by rw[zU (by omega)];exact a.same k hk⟩
end
end Go.AI
/- The evaluator walked by rules, on: whole numbers without a sign;the lesser and the greater;indexes and slices. No program is named here. -/
namespace Go.AI
section
variable {X:Type}{call:CallFn X}{fuel:Nat}{env:List (Nat×Value)}{m:Mem X}{K:List (Nat×Value)→Mem X→Prop}{l:List (Option (Nat×Bool)×IOp)}
theorem wrapU(n:Nat):wrapF .u64 (Int.ofNat n)=Int.ofNat (n % 18446744073709551616):=by
 rw[wrapF_eq,wrap_u64];rfl
theorem wrapU_lt{n:Nat}(h:n<18446744073709551616):wrapF .u64 (Int.ofNat n)=Int.ofNat n:=by
 rw[wrapU,Nat.mod_eq_of_lt h]
theorem WO.addU{d:Nat}{e:EqK}{x y:Opd}{a b:Nat}(hx:evo env x=some (.int .u64 (Int.ofNat a)))(hy:evo env y=some (.int .u64 (Int.ofNat b)))(k:WO call l ((d,.int .u64 (Int.ofNat ((a+b) % 18446744073709551616)))::env) m K):WO call ((none,.pure d (.bin .add e x y))::l) env m K:=by
 refine .pure ?_ k
 have h:Int.ofNat a+Int.ofNat b=Int.ofNat (a+b):=rfl
 simp only[peval,hx,hy,binVal,intBin,if_true,h,wrapU]
theorem WO.subU{d:Nat}{e:EqK}{x y:Opd}{a b:Nat}(hx:evo env x=some (.int .u64 (Int.ofNat a)))(hy:evo env y=some (.int .u64 (Int.ofNat b)))(hb:b≤18446744073709551616)(k:WO call l ((d,.int .u64 (Int.ofNat ((a+(18446744073709551616-b)) % 18446744073709551616)))::env) m K):WO call ((none,.pure d (.bin .sub e x y))::l) env m K:=by
 refine .pure ?_ k
 have h:wrapF .u64 (Int.ofNat a-Int.ofNat b)=Int.ofNat ((a+(18446744073709551616-b)) % 18446744073709551616):=by
  rw[wrapF_eq,wrap_u64]
  simp only[zO]
  omega
 simp only[peval,hx,hy,binVal,intBin,if_true,h]
theorem WO.shlU{d:Nat}{e:EqK}{x y:Opd}{j:IntKind}{a s:Nat}(hx:evo env x=some (.int .u64 (Int.ofNat a)))(hy:evo env y=some (.int j (Int.ofNat s)))(hs:s≤64)(k:WO call l ((d,.int .u64 (Int.ofNat (a*2 ^ s % 18446744073709551616)))::env) m K):WO call ((none,.pure d (.bin .shl e x y))::l) env m K:=by
 refine .pure ?_ k
 have h1:(bif Nat.blt s IntKind.u64.bits then s else IntKind.u64.bits)=s:=by
  rw[blt_iff]
  by_cases h:s<IntKind.u64.bits
  ·rw[decide_eq_true h];rfl
  ·rw[decide_eq_false h]
   have:IntKind.u64.bits=64:=rfl
   rw[this] at h ⊢
   show(64:Nat)=s;omega
 have h2:Nat.mul a (Nat.pow 2 s)=a*2 ^ s:=rfl
 simp only[peval,hx,hy,binVal,intBin,shiftF,h1,h2,wrapU,Option.map]
theorem WO.shrU{d:Nat}{e:EqK}{x y:Opd}{j:IntKind}{a s:Nat}(hx:evo env x=some (.int .u64 (Int.ofNat a)))(hy:evo env y=some (.int j (Int.ofNat s)))(hs:s≤64)(k:WO call l ((d,.int .u64 (Int.ofNat (a / 2 ^ s)))::env) m K):WO call ((none,.pure d (.bin .shr e x y))::l) env m K:=by
 refine .pure ?_ k
 have h1:(bif Nat.blt s IntKind.u64.bits then s else IntKind.u64.bits)=s:=by
  rw[blt_iff]
  by_cases h:s<IntKind.u64.bits
  ·rw[decide_eq_true h];rfl
  ·rw[decide_eq_false h]
   have:IntKind.u64.bits=64:=rfl
   rw[this] at h ⊢
   show(64:Nat)=s;omega
 have h2:Nat.div a (Nat.pow 2 s)=a / 2 ^ s:=rfl
 simp only[peval,hx,hy,binVal,intBin,shiftF,h1,h2,Option.map]
theorem bitsF_nat{op:BinOp}{a b:Nat}(ha:a<18446744073709551616)(hb:b<18446744073709551616) :
  (op = .and→bitsF op .u64 (Int.ofNat a) (Int.ofNat b)=some (Int.ofNat (a &&& b)))∧(op = .or→bitsF op .u64 (Int.ofNat a) (Int.ofNat b)=some (Int.ofNat (a ||| b))):=by
 have h1:(Nat.blt a (full .u64)&&Nat.blt b (full .u64))=true:=by
  rw[blt_iff,blt_iff,Bool.and_eq_true];exact⟨decide_eq_true ha,decide_eq_true hb⟩
 constructor
 ·rintro rfl
  simp only[bitsF,h1,cond_true]
  have h2:Nat.land a b=a &&& b:=rfl
  rw[h2,wrapU_lt]
  exact Nat.lt_of_le_of_lt Nat.and_le_left ha
 ·rintro rfl
  simp only[bitsF,h1,cond_true]
  have h2:Nat.lor a b=a ||| b:=rfl
  rw[h2,wrapU_lt]
  exact Nat.or_lt_two_pow (n:=64) ha hb
theorem WO.andU{d:Nat}{e:EqK}{x y:Opd}{a b:Nat}(hx:evo env x=some (.int .u64 (Int.ofNat a)))(hy:evo env y=some (.int .u64 (Int.ofNat b)))(ha:a<18446744073709551616)(hb:b<18446744073709551616)(k:WO call l ((d,.int .u64 (Int.ofNat (a &&& b)))::env) m K):WO call ((none,.pure d (.bin .and e x y))::l) env m K:=by
 refine .pure ?_ k
 simp only[peval,hx,hy,binVal,intBin,if_true,(bitsF_nat ha hb).1 rfl,Option.map]
theorem WO.orU{d:Nat}{e:EqK}{x y:Opd}{a b:Nat}(hx:evo env x=some (.int .u64 (Int.ofNat a)))(hy:evo env y=some (.int .u64 (Int.ofNat b)))(ha:a<18446744073709551616)(hb:b<18446744073709551616)(k:WO call l ((d,.int .u64 (Int.ofNat (a ||| b)))::env) m K):WO call ((none,.pure d (.bin .or e x y))::l) env m K:=by
 refine .pure ?_ k
 simp only[peval,hx,hy,binVal,intBin,if_true,(bitsF_nat ha hb).2 rfl,Option.map]
theorem WO.min2{d:Nat}{x y:Opd}{j:IntKind}{a b:Int}(hx:evo env x=some (.int j a))(hy:evo env y=some (.int j b))(k:WO call l ((d,.int j (min a b))::env) m K):WO call ((none,.pure d (.min [x,y]))::l) env m K:=by
 refine .pure ?_ k
 have h:(bif iltF b a then b else a)=min a b:=by
  rw[iltF_eq]
  by_cases h:b<a
  ·rw[decide_eq_true h];show b=min a b;omega
  ·rw[decide_eq_false h];show a=min a b;omega
 simp only[peval,evs,hx,hy,mines,if_true,h]
theorem WO.max2{d:Nat}{x y:Opd}{j:IntKind}{a b:Int}(hx:evo env x=some (.int j a))(hy:evo env y=some (.int j b))(k:WO call l ((d,.int j (max a b))::env) m K):WO call ((none,.pure d (.max [x,y]))::l) env m K:=by
 refine .pure ?_ k
 have h:(bif iltF a b then b else a)=max a b:=by
  rw[iltF_eq]
  by_cases h:a<b
  ·rw[decide_eq_true h];show b=max a b;omega
  ·rw[decide_eq_false h];show a=max a b;omega
 simp only[peval,evs,hx,hy,maxes,if_true,h]
theorem WO.fadd{d off:Nat}{x:Opd}{b o:Nat}(hx:evo env x=some (.pointer (some ⟨b,o,none⟩)))(k:WO call l ((d,.pointer (some ⟨b,o+off,none⟩))::env) m K):WO call ((none,.pure d (.fadd off x))::l) env m K :=
 .pure (by simp only[peval,hx]) k
theorem WO.nilck{d:Nat}{x:Opd}{a:Addr}(hx:evo env x=some (.pointer (some a)))(k:WO call l ((d,.pointer (some a))::env) m K):WO call ((none,.pure d (.nilck x))::l) env m K :=
 .pure (by simp only[peval,hx]) k
theorem WO.len{d:Nat}{x:Opd}{a:Option Addr}{n c:Nat}(hx:evo env x=some (.slice a n c))(k:WO call l ((d,.int .i64 (Int.ofNat n))::env) m K):WO call ((none,.pure d (.len x))::l) env m K :=
 .pure (by simp only[peval,hx];rfl) k
theorem WO.lens{d:Nat}{x:Opd}{s:ByteArray}(hx:evo env x=some (.string s))(k:WO call l ((d,.int .i64 (Int.ofNat s.size))::env) m K):WO call ((none,.pure d (.lens x))::l) env m K :=
 .pure (by simp only[peval,hx];rfl) k
theorem WO.idxL{d e:Nat}{x i:Opd}{b o len c n:Nat}{sp:Option Nat}{j:IntKind}{z:Int}(hx:evo env x=some (.slice (some ⟨b,o,sp⟩) len c))(hi:evo env i=some (.int j z))(hz:z=Int.ofNat n)(hn:n<len)(k:WO call l ((d,.pointer (some ⟨b,o+n*e,none⟩))::env) m K):WO call ((none,.pure d (.idxL e x i))::l) env m K:=by
 subst hz
 refine .pure ?_ k
 have h:Nat.blt n len=true:=by rw[blt_iff];exact decide_eq_true hn
 simp only[peval,hx,hi,natOf,h,cond_true]
theorem WO.idxA{d n e:Nat}{x i:Opd}{b o q:Nat}{j:IntKind}{z:Int}(hx:evo env x=some (.pointer (some ⟨b,o,none⟩)))(hi:evo env i=some (.int j z))(hz:z=Int.ofNat q)(hn:q<n)(k:WO call l ((d,.pointer (some ⟨b,o+q*e,none⟩))::env) m K):WO call ((none,.pure d (.idxA n e x i))::l) env m K:=by
 subst hz
 refine .pure ?_ k
 have h:Nat.blt q n=true:=by rw[blt_iff];exact decide_eq_true hn
 simp only[peval,hx,hi,natOf,h,cond_true]
theorem WO.slALo{d n e:Nat}{x i:Opd}{b o q:Nat}{j:IntKind}{z:Int}(hx:evo env x=some (.pointer (some ⟨b,o,none⟩)))(hi:evo env i=some (.int j z))(hz:z=Int.ofNat q)(hn:q<n)(k:WO call l ((d,.slice (some ⟨b,o+q*e,some 1⟩) (n-q) (n-q))::env) m K):WO call ((none,.pure d (.slA n e x (some i) none none))::l) env m K:=by
 subst hz
 refine .pure ?_ k
 have h1:Nat.ble n n=true:=by rw[Nat.ble_eq];exact Nat.le_refl _
 have h2:Nat.ble q n=true:=by rw[Nat.ble_eq];omega
 have h3:Nat.beq n q=false:=by rw[← Bool.not_eq_true,Nat.beq_eq];omega
 simp only[peval,hx,evopt,hi,Option.map,bounds,natOpt,natOf,h1,h2,sliceL,h3,Option.isSome,Option.isNone,Bool.and_true,Bool.or_true,cond_true,cond_false]
theorem WO.slAHi{d n e:Nat}{x i:Opd}{b o q:Nat}{j:IntKind}{z:Int}(hx:evo env x=some (.pointer (some ⟨b,o,none⟩)))(hi:evo env i=some (.int j z))(hz:z=Int.ofNat q)(hn:q≤n)(h0:0<n)(k:WO call l ((d,.slice (some ⟨b,o+0*e,some 1⟩) (q-0) (n-0))::env) m K):WO call ((none,.pure d (.slA n e x none (some i) none))::l) env m K:=by
 subst hz
 refine .pure ?_ k
 have h1:Nat.ble n n=true:=by rw[Nat.ble_eq];exact Nat.le_refl _
 have h2:Nat.ble q n=true:=by rw[Nat.ble_eq];omega
 have h4:Nat.ble 0 q=true:=by rw[Nat.ble_eq];omega
 have h3:Nat.beq n 0=false:=by rw[← Bool.not_eq_true,Nat.beq_eq];omega
 simp only[peval,hx,evopt,hi,Option.map,bounds,natOpt,natOf,h1,h2,h4,sliceL,h3,Option.isSome,Option.isNone,Bool.and_true,Bool.true_or,cond_true,cond_false]
theorem WO.slLHi{d e:Nat}{x i:Opd}{b o len c q:Nat}{j:IntKind}{z:Int}(hx:evo env x=some (.slice (some ⟨b,o,some 1⟩) len c))(hi:evo env i=some (.int j z))(hz:z=Int.ofNat q)(hn:q≤c)(h0:0<c)(k:WO call l ((d,.slice (some ⟨b,o+0*e,some 1⟩) (q-0) (c-0))::env) m K):WO call ((none,.pure d (.slL e x none (some i) none))::l) env m K:=by
 subst hz
 refine .pure ?_ k
 have h1:Nat.ble c c=true:=by rw[Nat.ble_eq];exact Nat.le_refl _
 have h2:Nat.ble q c=true:=by rw[Nat.ble_eq];omega
 have h4:Nat.ble 0 q=true:=by rw[Nat.ble_eq];omega
 have h3:Nat.beq c 0=false:=by rw[← Bool.not_eq_true,Nat.beq_eq];omega
 simp only[peval,hx,evopt,hi,Option.map,bounds,natOpt,natOf,h1,h2,h4,sliceL,h3,Option.isSome,Option.isNone,Bool.and_true,Bool.true_or,cond_true,cond_false]
end
end Go.AI
/- Regions whose order is drawn, walked by rules;what is added to a slice, walked by rules. No program is named here. -/
namespace Go.AI
section
variable {X:Type}{call:CallFn X}{fuel:Nat}{bf:List (List Nat)}{base:Nat}{ds:List (Nat×Option Nat)}{env0:List (Nat×Value)}{k:Nat}{r:List (Option (Nat×Bool)×IOp)}{Q:DS X→Prop}
 {vals:List (Nat×Option Nat×Value)} {snaps:List (Mem X)} {chain:List Nat} {fls:List (Nat×Bool×AObj X)} {lds:List (Nat×Rq×List Value)}
structure WD(call:CallFn X)(bf:List (List Nat))(base:Nat)(ds:List (Nat×Option Nat))(env0:List (Nat×Value))(k:Nat)(l:List (Option (Nat×Bool)×IOp))(Z:DS X)(Q:DS X→Prop):Prop where
 ex:∃Z',drun call bf base ds env0 k l Z=some Z'∧Q Z'
theorem WD.nil{Z:DS X}(h:Q Z):WD call bf base ds env0 k [] Z Q:=⟨Z,rfl,h⟩
theorem WD.pure{d:Nat}{p:PureOp}{v:Value}(h:peval (envAt bf ds env0 vals k) p=some v)(q:WD call bf base ds env0 (k+1) r ⟨(k,some d,v)::vals,snaps,chain,fls,lds⟩ Q):WD call bf base ds env0 k ((none,.pure d p)::r) ⟨vals,snaps,chain,fls,lds⟩ Q:=by
 obtain⟨Z',h1,h2⟩:=q
 refine⟨Z',?_,h2⟩
 simp only[drun,dstep,wanted,kindOf,h,IOp.dst]
 exact h1
theorem WD.load{d n:Nat}{g:Bool}{a:Opd}{ad:Addr}{m:Mem X}{ms:List (Mem X)}{cs:List Value}{v:Value}(ha:evo (envAt bf ds env0 vals k) a=some (.pointer (some ad)))(hl:m.load ad n=some cs)(hv:oneOf g cs=some v)
  (q:WD call bf base ds env0 (k+1) r ⟨(k,some d,v)::vals,m::ms,chain,fls,(k,.ld ad n,cs)::lds⟩ Q):WD call bf base ds env0 k ((none,.load d n g a)::r) ⟨vals,m::ms,chain,fls,lds⟩ Q:=by
 obtain⟨Z',h1,h2⟩:=q
 refine⟨Z',?_,h2⟩
 simp only[drun,dstep,wanted,kindOf,ha,hl,hv,IOp.dst]
 exact h1
theorem WD.mget{d b:Nat}{z:List Value}{x y:Opd}{j:IntKind}{n:Int}{m:Mem X}{ms:List (Mem X)}{v:Value}(hx:evo (envAt bf ds env0 vals k) x=some (.map (some b)))(hy:evo (envAt bf ds env0 vals k) y=some (.int j n))(hr:m.mrd b j n z=some [v])
  (q:WD call bf base ds env0 (k+1) r ⟨(k,some d,v)::vals,m::ms,chain,fls,(k,.mp b j n z,[v])::lds⟩ Q):WD call bf base ds env0 k ((none,.mget d z false false x y)::r) ⟨vals,m::ms,chain,fls,lds⟩ Q:=by
 obtain⟨Z',h1,h2⟩:=q
 refine⟨Z',?_,h2⟩
 simp only[drun,dstep,wanted,kindOf,hx,hy,hr,IOp.dst,Bool.or_self]
 exact h1
theorem WD.alloc{i:IOp}{hp:Bool}{cs:List Value}{nn:Option Nat}(hk:kindOf i = .alloc)(ha:allocI (envAt bf ds env0 vals k) i=some (hp,cs,nn))
  (q:WD call bf base ds env0 (k+1) r ⟨(k,i.dst,refTo (base+k) nn)::vals,snaps,chain,(k,hp,.cells cs)::fls,lds⟩ Q):WD call bf base ds env0 k ((none,i)::r) ⟨vals,snaps,chain,fls,lds⟩ Q:=by
 obtain⟨Z',h1,h2⟩:=q
 refine⟨Z',?_,h2⟩
 simp only[drun,dstep,wanted,hk,ha]
 exact h1
theorem WD.chn{i:IOp}{m m':Mem X}{ms:List (Mem X)}{v:Value}(hk:kindOf i = .chain)(hp:peekV (envAt bf ds env0 vals k) bf base k fls i=none)(ha:(chain.all fun c=>ordB bf c k)=true)
  (he:estep call (envAt bf ds env0 vals k) (layAll base (pubs bf chain fls k) m) i=some (v,m'))
  (q:WD call bf base ds env0 (k+1) r ⟨(k,i.dst,v)::vals,m'::m::ms,k::chain,fls,lds⟩ Q):WD call bf base ds env0 k ((none,i)::r) ⟨vals,m::ms,chain,fls,lds⟩ Q:=by
 obtain⟨Z',h1,h2⟩:=q
 refine⟨Z',?_,h2⟩
 simp only[drun,dstep,wanted,hk,hp,ha,cond_true,he]
 exact h1
theorem WC.drawnW{l:List (Option (Nat×Bool)×IOp)}{env:List (Nat×Value)}{m:Mem X}{K:Ex→List (Nat×Value)→Mem X→Prop}
  (h:WD call bf m.next (numbered 0 l) env 0 l ⟨[],[⟨m.loc,m.tbl,m.next+l.length⟩],[],[],[]⟩ fun Z=>heldAll bf Z Z.lds=true∧∃mu ms,Z.snaps=mu::ms∧K .norm (slotsOf Z.vals++env) (layAll m.next (Z.fls.filter fun f=>Z.chain.all fun c=>!ordB bf f.1 c) mu)) :
  WC call fuel (.drawn l bf) env m K:=by
 obtain⟨Z,h1,h2,mu,ms,h3,h4⟩:=h
 refine .drawn (e:=slotsOf Z.vals++env) (m':=layAll m.next (Z.fls.filter fun f=>Z.chain.all fun c=>!ordB bf f.1 c) mu) ?_ h4
 unfold drawnRun
 rw[h1]
 dsimp only
 rw[h2,_root_.cond_true,h3]
theorem mem_load{tbl:List (Nat×AObj X)}{nx i o n:Nat}{ob:AObj X}{cs s:List Value}(hi:look i tbl=some ob)(hc:cellsO ob=some cs)(hr:takeN cs o n=some s):(⟨[],tbl,nx⟩:Mem X).load ⟨i,o,none⟩ n=some s:=by
 have h1:(⟨[],tbl,nx⟩:Mem X).get i=some ob:=hi
 simp only[Mem.load,h1,hc,hr]
theorem mem_loads{tbl:List (Nat×AObj X)}{nx i o n:Nat}{sp:Option Nat}{ob:AObj X}{cs s:List Value}(hi:look i tbl=some ob)(hc:cellsO ob=some cs)(hr:takeN cs o n=some s)(hn:n≠0):(⟨[],tbl,nx⟩:Mem X).loads (some ⟨i,o,sp⟩) n=some s:=by
 have h0:Nat.beq n 0=false:=by rw[← Bool.not_eq_true,Nat.beq_eq];exact hn
 simp only[Mem.loads,h0,cond_false,mem_load hi hc hr]
theorem bytesEq_refl:∀(s:List UInt8),bytesEq s s=true
 |[]=>rfl
 |a::r=>by simp only[bytesEq,beq_self_eq_true,bytesEq_refl r,Bool.and_self]
theorem byteCells_len(s:List UInt8):(byteCells s).length=s.length:=by simp[byteCells]
theorem byteCells_app(s t:List UInt8):byteCells (s++t)=byteCells s++byteCells t:=by simp[byteCells]
theorem cellBytesX_of:∀(s:List UInt8),cellBytesX (byteCells s)=some s
 |[]=>rfl
 |a::r=>by
  have h1:Nat.blt a.toNat 256=true:=by rw[blt_iff];exact decide_eq_true a.toNat_lt
  have h2:UInt8.ofNat a.toNat=a:=UInt8.ofNat_toNat
  show(bif Nat.blt a.toNat 256 then(cellBytesX (byteCells r)).map (UInt8.ofNat a.toNat::·) else none)=_
  rw[h1,cellBytesX_of r,h2];rfl
theorem cellBytes_of:∀(s:List UInt8),cellBytes (byteCells s)=some s
 |[]=>rfl
 |a::r=>by
  have h2:UInt8.ofNat a.toNat=a:=UInt8.ofNat_toNat
  show(cellBytes (byteCells r)).map (UInt8.ofNat a.toNat::·)=_
  rw[cellBytes_of r,h2];rfl
theorem roomy_of{need b:Nat}(h:(need+1000)*b≤70368744177664):roomy need b=true:=by
 show Nat.ble _ _=true
 rw[Nat.ble_eq];exact h
theorem appendM_new{m:Mem X}{e b t n:Nat}{y:Value}{src:List Value}(hs:source m e y=some (n,src))(hn:0<n)(hr:(n+1000)*b≤70368744177664) :
  appendM m e b t (.slice none 0 0) y=some (.slice (some ⟨m.next,0,none⟩) n n,m.new true (.grown e t src)):=by
 have h1:Nat.ble n 0=false:=by rw[← Bool.not_eq_true,Nat.ble_eq];omega
 have h2:roomy n b=true:=roomy_of hr
 have h3:Nat.beq 0 0=true:=rfl
 simp only[appendM,hs,Nat.zero_add,h1,h2,h3,cond_false,cond_true,Bool.and_self]
theorem appendM_more{m:Mem X}{e b t n i l:Nat}{y:Value}{src old:List Value}(hs:source m e y=some (n,src))(hsl:src.length=n*e)(hn:0<n)(hi:m.get i=some (.grown e t old))(hol:old.length=l*e)(hld:m.loads (some ⟨i,0,none⟩) (l*e)=some old)(hr:(l+n+1000)*b≤70368744177664) :
  appendM m e b t (.slice (some ⟨i,0,none⟩) l l) y=some (.slice (some ⟨m.next,0,none⟩) (l+n) (l+n),(m.kill i).new true (.grown e t (old++src))):=by
 have h1:Nat.ble (l+n) l=false:=by rw[← Bool.not_eq_true,Nat.ble_eq];omega
 have h2:roomy (l+n) b=true:=roomy_of hr
 have h3:exactB none (.grown e t old:AObj X)=false:=rfl
 have h4:mineB e t 0 l l n src none (.grown e t old:AObj X)=true:=by
  have q1:Nat.beq t t=true:=Nat.beq_refl t
  have q2:Nat.beq e e=true:=Nat.beq_refl e
  have q3:Nat.beq old.length (l*e)=true:=by rw[Nat.beq_eq];exact hol
  have q4:Nat.beq src.length (n*e)=true:=by rw[Nat.beq_eq];exact hsl
  have q5:Nat.ble l l=true:=by rw[Nat.ble_eq];exact Nat.le_refl l
  have q6:Nat.beq 0 0=true:=rfl
  simp only[mineB,q1,q2,q3,q4,q5,q6,Bool.and_self]
 simp only[appendM,hs,hi,h1,h2,h3,h4,hld,cond_false,cond_true,Bool.false_or]
theorem WO.append{env:List (Nat×Value)}{m m':Mem X}{K:List (Nat×Value)→Mem X→Prop}{l:List (Option (Nat×Bool)×IOp)}{d e b t:Nat}{x y:Opd}{u v w:Value}(hx:evo env x=some u)(hy:evo env y=some v)(h:appendM m e b t u v=some (w,m'))(q:WO call l ((d,w)::env) m' K):WO call ((none,.append d e b t x y)::l) env m K :=
 .step (i:=.append d e b t x y) (by simp only[estep,mstep,hx,hy,h]) q
theorem Fresh.del{t:List (Nat×AObj X)}{n i:Nat}(h:Fresh t n):Fresh (del i t) n:=fun k hk=>by
 rw[look_del,h k hk];split<;>rfl
theorem Keep.del{t t':List (Nat×AObj X)}{n n' i:Nat}(a:Keep t n t' n')(hi:n≤i):Keep t n (del i t') n':=⟨a.fr.del,a.le,fun k hk=>by rw[look_del,if_neg (by omega)];exact a.same k hk⟩
theorem look_del_ne{t:List (Nat×AObj X)}{i j:Nat}(h:j≠i):look j (del i t)=look j t:=by rw[look_del,if_neg h]
theorem beq_no{n k:Nat}(h:n≠k):Nat.beq n k=false:=by rw[← Bool.not_eq_true,Nat.beq_eq];exact h
section
variable {env:List (Nat×Value)}{m m':Mem X}
theorem estep_ustr{d t i n e:Nat}{x y:Opd}{cs:List Value}{s:List UInt8}(hx:evo env x=some (.pointer (some ⟨i,0,none⟩)))(hy:evo env y=some (.int .i64 (.ofNat n)))(h0:n≠0)(hi:m.get i=some (.grown e t cs))(hl:n≤9223372036854775807)(hc:cellBytesX (cs.take n)=some s)(hs:s.length=n) :
  estep call env m (.ustr d t x y)=some (.string ⟨⟨s⟩⟩,m.kill i):=by
 have h3:Nat.ble n 9223372036854775807=true:=by rw[Nat.ble_eq];exact hl
 have h5:Nat.beq s.length n=true:=by rw[Nat.beq_eq];exact hs
 simp only[estep,mstep,hx,hy,beq_no h0,hi,h3,hc,h5,Nat.beq_refl,cond_false,cond_true,Bool.and_self]
theorem estep_b2s{d n c:Nat}{x:Opd}{a:Addr}{cs:List Value}{s:List UInt8}(hx:evo env x=some (.slice (some a) n c))(hl:m.loads (some a) n=some cs)(hc:cellBytes cs=some s):estep call env m (.b2s d x)=some (.string ⟨⟨s⟩⟩,m):=by
 simp only[estep,mstep,hx,hl,hc,Option.map]
theorem estep_call{d:Option Nat}{f:Opd}{xs:List Opd}{kf:Nat}{fst caps:Array Value}{vs:List Value}{v:Value}{h:Hp X}(hf:evo env f=some (.func (.func kf) fst caps))(hxs:evs env xs=some vs)(hc:call kf (vs++caps.toList) ⟨m.tbl,m.next⟩=some (v,h)):estep call env m (.call d f xs)=some (v,⟨m.loc,h.tbl,h.next⟩):=by
 simp only[estep,hf,hxs,hc]
theorem estep_store{n:Nat}{a x:Opd}{ad:Addr}{v:Value}{vs:List Value}(ha:evo env a=some (.pointer (some ad)))(hx:evo env x=some v)(hv:cellsV v=some vs)(hn:vs.length=n)(h:m.store ad vs=some m'):estep call env m (.store n a x)=some (undef,m'):=by
 have h1:Nat.beq vs.length n=true:=by rw[Nat.beq_eq];exact hn
 simp only[estep,mstep,ha,hx,hv,h1,cond_true,h,Option.map]
theorem estep_copys{d e i o dl c:Nat}{sp:Option Nat}{x y:Opd}{s:List UInt8}(hx:evo env x=some (.slice (some ⟨i,o,sp⟩) dl c))(hy:evo env y=some (.string ⟨⟨s⟩⟩))(h0:(byteCells (s.take dl)).length≠0)(h:m.store ⟨i,o,none⟩ (byteCells (s.take dl))=some m') :
  estep call env m (.copy d e x y)=some (.int .i64 (Int.ofNat (Nat.min s.length dl)),m'):=by
 simp only[estep,mstep,hx,hy,beq_no h0,cond_false,h,Option.map]
end
theorem resV_cell{env:List (Nat×Value)}{m:Mem X}{t n:Nat}{g:Bool}{r:List IRes}{ad:Addr}{cs s:List Value}{v:Value}(ht:look t env=some (.pointer (some ad)))(hl:m.load ad n=some cs)(hv:oneOf g cs=some v)(hr:resV env m r=some s):resV env m (.cell t n g::r)=some (v::s):=by
 simp only[resV,ht,hr,hl,hv]
theorem resV_tmp{env:List (Nat×Value)}{m:Mem X}{t:Nat}{r:List IRes}{s:List Value}{v:Value}(ht:look t env=some v)(hr:resV env m r=some s):resV env m (.tmp t::r)=some (v::s):=by
 simp only[resV,ht,hr]
theorem Keep.more{t t':List (Nat×AObj X)}{n n' n'':Nat}(a:Keep t n t' n')(h:n'≤n''):Keep t n t' n'':=⟨fun k hk=>a.fr k (Nat.le_trans h hk),Nat.le_trans a.le h,a.same⟩
end
end Go.AI
