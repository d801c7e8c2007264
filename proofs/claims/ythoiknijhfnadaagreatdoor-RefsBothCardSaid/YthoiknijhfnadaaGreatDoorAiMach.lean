/- The evaluator as a machine: its state is plain data, so that a long reckoning can be done piece by piece. No program is named here. -/
import Derived.Test.YthoiknijhfnadaaGreatDoorKHk
noncomputable section
namespace Go.AI
section
variable {X:Type}
inductive Fm(X:Type) where
 |code (c:ICode)
 |ops (l:List (Option (Nat×Bool)×IOp))
 |loop (c:ICode) (n:Nat)
 |block (id:Nat)
 |ret (f lv:Nat) (d:Option Nat) (env:List (Nat×Value)) (loc:List (Nat×AObj X)) (nx:Nat) (res:List IRes)
 |drw (l0:List (Option (Nat×Bool)×IOp)) (bf:List (List Nat)) (l:List (Option (Nat×Bool)×IOp)) (base k:Nat) (env0:List (Nat×Value)) (Z:DS X)
 |drc (l0:List (Option (Nat×Bool)×IOp)) (bf:List (List Nat)) (l:List (Option (Nat×Bool)×IOp)) (base k:Nat) (d:Option Nat) (env0:List (Nat×Value)) (Z:DS X)
structure Ms(X:Type) where
 lv:Nat
 st:List (Fm X)
 x:Ex
 env:List (Nat×Value)
 m:Mem X
def endV(cl:Bool)(nx:Nat)(res:List IRes)(env:List (Nat×Value))(m:Mem X):Option (Value×Hp X) :=
 match resV env m res with
 |some rs=>match packV rs with
  |some v=>some (v,⟨bif cl then dropNew nx m.tbl else m.tbl,m.next⟩)
  |none=>none
 |none=>none
def finD(bf:List (List Nat))(base:Nat)(env0:List (Nat×Value))(Z:DS X):Option (List (Nat×Value)×Mem X) :=
 bif heldAll bf Z Z.lds then(match Z.snaps with
  |mu::_=>some (slotsOf Z.vals++env0,layAll base (Z.fls.filter fun f=>Z.chain.all fun c=>!ordB bf f.1 c) mu)
  |[]=>none) else none
def DS.next(Z:DS X)(k:Nat)(d:Option Nat)(v:Value)(m:Mem X):DS X:=⟨(k,d,v)::Z.vals,m::Z.snaps,k::Z.chain,Z.fls,Z.lds⟩
section
variable (F:Nat→Option IFn)(clean:Nat→Bool)(hook:Hook X)
abbrev Dn(X:Type):=Nat→Ex→List (Nat×Value)→Mem X→Option (Value×Hp X)
def norm?{γ:Type}(x:Ex)(a b:γ):γ:=match x with| .norm=>a|_=>b
def den1(k:Dn X):Fm X→Dn X
 | .code c,n,x,e,m=>norm? x ((runC (run F clean hook n) n c e m).bind fun r=>k n r.1 r.2.1 r.2.2) (k n x e m)
 | .ops l,n,x,e,m=>norm? x ((runOps (run F clean hook n) l e m).bind fun r=>k n .norm r.1 r.2) (k n x e m)
 | .loop c j,n,x,e,m=>norm? x ((loopN (runC (run F clean hook n) n c) j (tidy j e m).1 (tidy j e m).2).bind fun r=>k n r.1 r.2.1 r.2.2) (k n x e m)
 | .block id,n,x,e,m=>match x with
  | .exit j=>bif Nat.beq j id then k n .norm e m else k n (.exit j) e m
  |x=>k n x e m
 | .ret f lv d e0 l0 nx res,_,x,e,m=>match x with
  | .exit _=>none
  |_=>(endV (clean f) nx res e m).bind fun r=>k lv .norm (putEnv d r.1 e0) ⟨l0,r.2.tbl,r.2.next⟩
 | .drw l0 bf l base j e0 Z,n,x,e,m=>norm? x ((drun (run F clean hook n) bf base (numbered 0 l0) e0 j l Z).bind fun Z'=>(finD bf base e0 Z').bind fun r=>k n .norm r.1 r.2) (k n x e m)
 | .drc l0 bf l base j d e0 Z,n,x,e,m=>norm? x ((look 0 e).bind fun v=>(drun (run F clean hook n) bf base (numbered 0 l0) e0 (Nat.succ j) l (Z.next j d v m)).bind fun Z'=>(finD bf base e0 Z').bind fun r=>k n .norm r.1 r.2) (k n x e m)
def den:List (Fm X)→Dn X
 |[]=>fun _ _ e m=>(look 0 e).map fun v=>(v,⟨m.tbl,m.next⟩)
 |fr::s=>den1 F clean hook (den s) fr
abbrev IH(X:Type):=Nat→List (Fm X)→Ex→List (Nat×Value)→Mem X→Option (Ms X)
abbrev Row:=List (Option (Nat×Bool)×IOp)
def exK{γ:Type}(x:Ex)(a b:γ):γ:=Ex.rec a (fun _=>b) b x
def liftM(sk:SK X (Ms X)):Row→IH X→Nat→List (Fm X)→Env→Mem X→Option (Ms X) :=
 fun r ih lv s e m=>sk (fun _ _ _ _=>none) e m fun e' m'=>ih lv (.ops r::s) .norm e' m'
def goM(vs:List Value)(f:Nat)(d:Option Nat)(fn:IFn):IH X→Nat→Nat→List (Fm X)→Env→List (Nat×AObj X)→List (Nat×AObj X)→Nat→Option (Ms X) :=
 IFn.rec (fun code nt res ih n lv fs e loc tbl nx=>Bool.rec none (ih n (.code code::.ret f lv d e loc nx res::fs) .norm (argsE 0 vs) ⟨[],tbl,nx⟩) (Nat.ble vs.length nt)) fn
def callG(f:Opd)(xs:List Opd)(ev:Env)(m:Mem X)(d:Option Nat)(e:Env)(fs:List (Fm X))(ih:IH X)(lv:Nat):Option (Ms X) :=
 evK ev f (vFun none fun g cap=>fnK none (fun f=>evsK ev xs fun vs=>Mem.rec (fun loc tbl nx =>
  Nat.rec none (fun n _=>Option.rec
   (Option.rec none (fun fn=>goM (capK vs cap) f d fn ih n lv fs e loc tbl nx) (F f))
   (fun g=>ob (g (capK vs cap) ⟨tbl,nx⟩) fun q=>Prod.rec (fun v h=>Hp.rec (fun tbl' nx'=>ih lv fs .norm (putEnv d v e) ⟨loc,tbl',nx'⟩) h) q) (hook f)) lv) m) g)
def callM(d:Option Nat)(f:Opd)(xs:List Opd):Row→IH X→Nat→List (Fm X)→Env→Mem X→Option (Ms X) :=
 fun r ih lv s e m=>callG F hook f xs e m d e (.ops r::s) ih lv
def stepM(i:IOp):Row→IH X→Nat→List (Fm X)→Env→Mem X→Option (Ms X) :=
 IOp.rec (fun d p=>liftM (sPure d p)) (fun d n g a=>liftM (sLoad d n g a)) (fun n a x=>liftM (sStore n a x)) (fun d h cs=>liftM (newK d h cs)) (fun d h x=>liftM (sBox d h x))
  (fun d n e z ps=>liftM (coldM (.bslice d n e z ps))) (fun d e b z l c=>liftM (coldM (.mslice d e b z l c))) (fun d t x=>liftM (coldM (.s2b d t x))) (fun d x=>liftM (coldM (.b2s d x)))
  (fun d e b t x y=>liftM (coldM (.append d e b t x y))) (fun d e x y=>liftM (coldM (.copy d e x y))) (fun d e z x=>liftM (coldM (.clear d e z x))) (callM F hook)
  (fun d=>liftM (coldM (.mmap d))) (fun d z a o m k=>liftM (coldM (.mget d z a o m k))) (fun m k x=>liftM (coldM (.mset m k x)))
  (fun d z a m k=>liftM (coldM (.ment d z a m k))) (fun m s x=>liftM (coldM (.ests m s x))) (fun d m=>liftM (coldM (.mlen d m))) (fun d m=>liftM (coldM (.mclr d m)))
  (fun d h t cs=>liftM (coldM (.newt d h t cs))) (fun d t x=>liftM (coldM (.tou d t x))) (fun d t n x=>liftM (coldM (.fromu d t n x))) (fun d x=>liftM (coldM (.usd d x))) (fun d t x n=>liftM (coldM (.ustr d t x n))) (fun d e b t z x n=>liftM (coldM (.appz d e b t z x n))) i
abbrev SM(X:Type):=List (Fm X)→Nat→Env→Mem X→IH X→Option (Ms X)
def opsM(l:Row):SM X :=
 List.rec (motive:=fun _=>SM X) (fun s lv e m ih=>ih lv s .norm e m) (fun gi r _ s lv e m ih=>Prod.rec (fun g i=>wantK e g (stepM F hook i r ih lv s e m) (ih lv (.ops r::s) .norm (dstK i e) m)) gi) l
def callOr{γ:Type}(i:IOp)(n:γ)(y:Option Nat→Opd→List Opd→γ):γ :=
 IOp.rec (fun _ _=>n) (fun _ _ _ _=>n) (fun _ _ _=>n) (fun _ _ _=>n) (fun _ _ _=>n) (fun _ _ _ _ _=>n) (fun _ _ _ _ _ _=>n) (fun _ _ _=>n) (fun _ _=>n) (fun _ _ _ _ _ _=>n) (fun _ _ _ _=>n) (fun _ _ _ _=>n) (fun d f xs=>y d f xs)
  (fun _=>n) (fun _ _ _ _ _ _=>n) (fun _ _ _=>n) (fun _ _ _ _ _=>n) (fun _ _ _=>n) (fun _ _=>n) (fun _ _=>n) (fun _ _ _ _=>n) (fun _ _ _=>n) (fun _ _ _ _=>n) (fun _ _=>n) (fun _ _ _ _=>n) (fun _ _ _ _ _ _ _=>n) i
def drwM(l0:Row)(bf:List (List Nat))(l:Row)(base j:Nat)(e0:Env)(Z:DS X)(s:List (Fm X))(lv:Nat)(ih:IH X):Option (Ms X) :=
 List.rec (Option.rec none (fun r=>Prod.rec (fun e' m'=>ih lv s .norm e' m') r) (finD bf base e0 Z)) (fun gi r _=>Prod.rec (fun g i =>
  callOr i (Option.rec none (fun Z'=>fN (Nat.succ j) fun j'=>ih lv (.drw l0 bf r base j' e0 Z'::s) .norm [] ⟨[],[],0⟩) (dstep (fun _ _ _=>none) bf base (numbered 0 l0) e0 j g i Z))
   fun d f xs=>Option.rec none (fun b=>Bool.rec
    (fN (Nat.succ j) fun j'=>ih lv (.drw l0 bf r base j' e0 ⟨(j,d,undef)::Z.vals,Z.snaps,Z.chain,Z.fls,Z.lds⟩::s) .norm [] ⟨[],[],0⟩)
    (Bool.rec none (List.rec none (fun m _ _=>callG F hook f xs (envAt bf (numbered 0 l0) e0 Z.vals j) (layAll base (pubs bf Z.chain Z.fls j) m) (some 0) [] (.drc l0 bf r base j d e0 Z::s) ih lv) Z.snaps) (Z.chain.all fun c=>ordB bf c j)) b)
    (wanted (envAt bf (numbered 0 l0) e0 Z.vals j) g)) gi) l
def codeM(c:ICode):SM X :=
 ICode.rec (motive:=fun _=>SM X)
  (fun s lv e m ih=>ih lv s .norm e m)
  (fun l s lv e m ih=>opsM F hook l s lv e m ih)
  (fun l bf s lv e m ih=>Mem.rec (fun loc tbl nx=>fN (Nat.add nx l.length) fun nx'=>ih lv (.drw l bf l nx 0 e ⟨[],[⟨loc,tbl,nx'⟩],[],[],[]⟩::s) .norm [] ⟨[],[],0⟩) m)
  (fun a b _ _ s lv e m ih=>ih lv (.code a::.code b::s) .norm e m)
  (fun c a b _ _ s lv e m ih=>evK e c (vBool none (Bool.rec (ih lv (.code b::s) .norm e m) (ih lv (.code a::s) .norm e m))))
  (fun id a _ s lv e m ih=>ih lv (.code a::.block id::s) .norm e m)
  (fun a _ s lv e m ih=>Nat.rec none (fun j _=>ih lv (.code a::.loop a j::s) .norm e m) lv)
  (fun id s lv e m ih=>ih lv s (.exit id) e m)
  (fun s lv e m ih=>ih lv s .ret e m) c
def frM(fr:Fm X):List (Fm X)→Nat→Ex→Env→Mem X→IH X→Option (Ms X) :=
 Fm.rec (motive:=fun _=>List (Fm X)→Nat→Ex→Env→Mem X→IH X→Option (Ms X))
  (fun c s lv x e m ih=>exK x (codeM F hook c s lv e m ih) (ih lv s x e m))
  (fun l s lv x e m ih=>exK x (opsM F hook l s lv e m ih) (ih lv s x e m))
  (fun c j s lv x e m ih=>exK x (tidyK j e m fun e' m'=>Nat.rec none (fun j' _=>ih lv (.code c::.loop c j'::s) .norm e' m') j) (ih lv s x e m))
  (fun id s lv x e m ih=>Ex.rec (ih lv s .norm e m) (fun k=>Bool.rec (ih lv s (.exit k) e m) (ih lv s .norm e m) (Nat.beq k id)) (ih lv s .ret e m) x)
  (fun f lv0 d e0 l0 nx res s _ x e m ih=>Ex.rec (endK (clean f) nx res e m fun v h=>Hp.rec (fun tbl' nx'=>ih lv0 s .norm (putEnv d v e0) ⟨l0,tbl',nx'⟩) h) (fun _=>none) (endK (clean f) nx res e m fun v h=>Hp.rec (fun tbl' nx'=>ih lv0 s .norm (putEnv d v e0) ⟨l0,tbl',nx'⟩) h) x)
  (fun l0 bf l base j e0 Z s lv x e m ih=>exK x (drwM F hook l0 bf l base j e0 Z s lv ih) (ih lv s x e m))
  (fun l0 bf l base j d e0 Z s lv x e m ih=>exK x (lookK 0 e none fun v=>fN (Nat.succ j) fun j'=>ih lv (.drw l0 bf l base j' e0 ⟨(j,d,v)::Z.vals,m::Z.snaps,j::Z.chain,Z.fls,Z.lds⟩::s) .norm [] ⟨[],[],0⟩) (ih lv s x e m)) fr
def machK(n:Nat):IH X :=
 Nat.rec (motive:=fun _=>IH X) (fun lv st x e m=>some ⟨lv,st,x,e,m⟩) (fun _ ih lv st x e m=>List.rec (some ⟨lv,st,x,e,m⟩) (fun fr s _=>frM F clean hook fr s lv x e m ih) st) n
variable {F clean hook}
theorem stepM_eq(i:IOp)(hi:∀d f xs,i≠.call d f xs)(c:CallFn X)(r:Row)(ih:IH X)(lv:Nat)(s:List (Fm X))(e:Env)(m:Mem X) :
  stepM F hook i r ih lv s e m=(estep c e m i).bind fun q=>ih lv (.ops r::s) .norm (putEnv i.dst q.1 e) q.2:=by
 have hc:SameCall (β:=Ms X) (fun _ _ _ _=>none) (fun _ _ _=>(none:Option (Value×Hp X))):=fun _ _ _ _=>rfl
 have h:=stepK_eq hc i e m fun e' m'=>ih lv (.ops r::s) .norm e' m'
 cases i with
 |call d f xs=>exact(hi d f xs rfl).elim
 |_=>exact h
def callE(call:CallFn X)(ev:Env)(m:Mem X)(f:Opd)(xs:List Opd):Option (Value×Hp X) :=
 match evo ev f,evs ev xs with
 |some (.func (.func k) _ caps),some vs=>call k (vs++caps.toList) ⟨m.tbl,m.next⟩
 |_,_=>none
theorem estep_callE(call:CallFn X)(e:Env)(m:Mem X)(d:Option Nat)(f:Opd)(xs:List Opd):estep call e m (.call d f xs)=(callE call e m f xs).map fun q=>(q.1,⟨m.loc,q.2.tbl,q.2.next⟩):=by
 simp only[estep,callE]
 cases evo e f with
 |none=>rfl
 |some v =>
  cases v with
  |func g fi caps =>
   cases g with
   |func k =>
    cases evs e xs with
    |none=>rfl
    |some vs =>
     dsimp only
     cases call k (vs++caps.toList) ⟨m.tbl,m.next⟩<;>rfl
   |_=>rfl
  |_=>rfl
theorem callG_eq(f:Opd)(xs:List Opd)(ev:Env)(m:Mem X)(d:Option Nat)(e:Env)(fs:List (Fm X))(ih:IH X)(lv:Nat){s':Ms X}
  (hih:∀lv st x e m,ih lv st x e m=some s'→den F clean hook st lv x e m=den F clean hook s'.st s'.lv s'.x s'.env s'.m)
  (h:callG F hook f xs ev m d e fs ih lv=some s') :
  ((callE (run F clean hook lv) ev m f xs).bind fun q=>den F clean hook fs lv .norm (putEnv d q.1 e) ⟨m.loc,q.2.tbl,q.2.next⟩)=den F clean hook s'.st s'.lv s'.x s'.env s'.m:=by
 unfold callG at h
 rw[evK_eq] at h
 simp only[callE]
 cases hf:evo ev f with
 |none=>rw[hf] at h;cases h
 |some fv =>
  rw[hf,bind_some'] at h
  cases fv with
  |func g fi cap =>
   change fnK none _ g=some s' at h
   cases g with
   |func f' =>
    change evsK ev xs _=some s' at h
    rw[evsK_eq] at h
    cases hxs:evs ev xs with
    |none=>rw[hxs] at h;cases h
    |some vs =>
     rw[hxs,bind_some'] at h
     obtain⟨loc,tbl,nx⟩:=m
     have hcap:capK vs cap=vs++cap.toList:=by
      obtain⟨cl⟩:=cap
      cases cl with
      |nil=>exact(List.append_nil vs).symm
      |cons a l=>rfl
     cases lv with
     |zero=>cases h
     |succ n =>
      change (Option.rec (Option.rec none (fun fn=>goM (capK vs cap) f' d fn ih n (n+1) fs e loc tbl nx) (F f'))
       (fun g=>ob (g (capK vs cap) ⟨tbl,nx⟩) fun q=>Prod.rec (fun v h=>Hp.rec (fun tbl' nx'=>ih (n+1) fs .norm (putEnv d v e) ⟨loc,tbl',nx'⟩) h) q) (hook f'):Option (Ms X))=some s' at h
      rw[hcap] at h
      simp only[run]
      cases hk:hook f' with
      |some g =>
       rw[hk] at h
       change ob (g (vs++cap.toList) ⟨tbl,nx⟩) _=some s' at h
       rw[ob_eq] at h
       dsimp only
       cases hg:g (vs++cap.toList) ⟨tbl,nx⟩ with
       |none=>rw[hg] at h;cases h
       |some q =>
        obtain⟨v,tb,nx'⟩:=q
        rw[hg,bind_some'] at h
        (have q:=hih _ _ _ _ _ h;exact q)
      |none =>
       rw[hk] at h
       dsimp only at h ⊢
       cases hF:F f' with
       |none=>rw[hF] at h;cases h
       |some fn =>
        obtain⟨code,nt,res⟩:=fn
        rw[hF] at h
        change (Bool.rec none (ih n (.code code::.ret f' (n+1) d e loc nx res::fs) .norm (argsE 0 (vs++cap.toList)) ⟨[],tbl,nx⟩) (Nat.ble (vs++cap.toList).length nt):Option (Ms X))=some s' at h
        dsimp only
        cases hb:Nat.ble (vs++cap.toList).length nt with
        |false=>rw[hb] at h;cases h
        |true =>
         rw[hb] at h
         rw[cond_true]
         have:=hih _ _ _ _ _ h
         rw[← this]
         show _=((runC (run F clean hook n) n code (argsE 0 (vs++cap.toList)) ⟨[],tbl,nx⟩).bind fun q=>den1 F clean hook (den F clean hook fs) (.ret f' (n+1) d e loc nx res) n q.1 q.2.1 q.2.2)
         rcases runC (run F clean hook n) n code (argsE 0 (vs++cap.toList)) ⟨[],tbl,nx⟩ with _|⟨x,e1,m1⟩
         ·rfl
         ·cases x with
          |exit id=>rfl
          |norm =>
           simp only[bind_some',den1,endV]
           cases resV e1 m1 res with
           |none=>rfl
           |some rs =>
            dsimp only
            cases packV rs<;>rfl
          |ret =>
           simp only[bind_some',den1,endV]
           cases resV e1 m1 res with
           |none=>rfl
           |some rs =>
            dsimp only
            cases packV rs<;>rfl
   |_=>cases h
  |_=>cases h
theorem callM_eq(d:Option Nat)(f:Opd)(xs:List Opd)(r:Row)(ih:IH X)(lv:Nat)(s:List (Fm X))(e:Env)(m:Mem X){s':Ms X}
  (hih:∀lv st x e m,ih lv st x e m=some s'→den F clean hook st lv x e m=den F clean hook s'.st s'.lv s'.x s'.env s'.m)
  (h:callM F hook d f xs r ih lv s e m=some s') :
  ((estep (run F clean hook lv) e m (.call d f xs)).bind fun q=>den1 F clean hook (den F clean hook s) (.ops r) lv .norm (putEnv d q.1 e) q.2)=den F clean hook s'.st s'.lv s'.x s'.env s'.m:=by
 rw[← callG_eq f xs e m d e (.ops r::s) ih lv hih h,estep_callE]
 cases callE (run F clean hook lv) e m f xs<;>rfl
theorem dstep_other(i:IOp)(hi:∀d f xs,i≠.call d f xs)(c c':CallFn X)(bf:List (List Nat))(base:Nat)(ds:List (Nat×Option Nat))(e0:Env)(k:Nat)(g:Option (Nat×Bool))(Z:DS X):dstep c bf base ds e0 k g i Z=dstep c' bf base ds e0 k g i Z:=by
 have he:∀e m,estep c e m i=estep c' e m i:=by
  intro e m
  cases i with
  |call d f xs=>exact(hi d f xs rfl).elim
  |_=>rfl
 simp only[dstep,he]
theorem drwM_eq(l0:Row)(bf:List (List Nat))(l:Row)(base j:Nat)(e0:Env)(Z:DS X)(ih:IH X)(lv:Nat)(s:List (Fm X))(e:Env)(m:Mem X){s':Ms X}
  (hih:∀lv st x e m,ih lv st x e m=some s'→den F clean hook st lv x e m=den F clean hook s'.st s'.lv s'.x s'.env s'.m)
  (h:drwM F hook l0 bf l base j e0 Z s lv ih=some s') :
  den F clean hook (.drw l0 bf l base j e0 Z::s) lv .norm e m=den F clean hook s'.st s'.lv s'.x s'.env s'.m:=by
 show((drun (run F clean hook lv) bf base (numbered 0 l0) e0 j l Z).bind fun Z'=>(finD bf base e0 Z').bind fun r=>den F clean hook s lv .norm r.1 r.2)=_
 cases l with
 |nil =>
  change (Option.rec none (fun r=>Prod.rec (fun e' m'=>ih lv s .norm e' m') r) (finD bf base e0 Z):Option (Ms X))=some s' at h
  simp only[drun,bind_some']
  cases hf:finD bf base e0 Z with
  |none=>rw[hf] at h;cases h
  |some r=>rw[hf] at h;(have q:=hih _ _ _ _ _ h;exact q)
 |cons gi r =>
  obtain⟨g,i⟩:=gi
  by_cases hi:∃d f xs,i = .call d f xs
  ·obtain⟨d,f,xs,rfl⟩:=hi
   change (Option.rec none (fun b=>Bool.rec
    (fN (Nat.succ j) fun j'=>ih lv (.drw l0 bf r base j' e0 ⟨(j,d,undef)::Z.vals,Z.snaps,Z.chain,Z.fls,Z.lds⟩::s) .norm [] ⟨[],[],0⟩)
    (Bool.rec none (List.rec none (fun m _ _=>callG F hook f xs (envAt bf (numbered 0 l0) e0 Z.vals j) (layAll base (pubs bf Z.chain Z.fls j) m) (some 0) [] (.drc l0 bf r base j d e0 Z::s) ih lv) Z.snaps) (Z.chain.all fun c=>ordB bf c j)) b)
    (wanted (envAt bf (numbered 0 l0) e0 Z.vals j) g):Option (Ms X))=some s' at h
   simp only[drun,dstep]
   cases hw:wanted (envAt bf (numbered 0 l0) e0 Z.vals j) g with
   |none=>rw[hw] at h;cases h
   |some b =>
    rw[hw] at h
    cases b with
    |false =>
     change fN (Nat.succ j) _=some s' at h
     rw[fN_eq] at h
     (have q:=hih _ _ _ _ _ h;exact q)
    |true =>
     change (Bool.rec none (List.rec none (fun m _ _=>callG F hook f xs (envAt bf (numbered 0 l0) e0 Z.vals j) (layAll base (pubs bf Z.chain Z.fls j) m) (some 0) [] (.drc l0 bf r base j d e0 Z::s) ih lv) Z.snaps) (Z.chain.all fun c=>ordB bf c j):Option (Ms X))=some s' at h
     have hk:kindOf (.call d f xs) = .chain:=rfl
     have hp:peekV (envAt bf (numbered 0 l0) e0 Z.vals j) bf base j Z.fls (.call d f xs)=none:=rfl
     simp only[hk,hp]
     cases ha:Z.chain.all fun c=>ordB bf c j with
     |false=>rw[ha] at h;cases h
     |true =>
      rw[ha] at h
      rw[cond_true]
      cases hs:Z.snaps with
      |nil=>rw[hs] at h;cases h
      |cons m0 ms =>
       rw[hs] at h
       change callG F hook f xs (envAt bf (numbered 0 l0) e0 Z.vals j) (layAll base (pubs bf Z.chain Z.fls j) m0) (some 0) [] (.drc l0 bf r base j d e0 Z::s) ih lv=some s' at h
       rw[← callG_eq f xs _ _ (some 0) [] _ ih lv hih h]
       dsimp only
       rw[estep_callE]
       cases callE (run F clean hook lv) (envAt bf (numbered 0 l0) e0 Z.vals j) (layAll base (pubs bf Z.chain Z.fls j) m0) f xs with
       |none=>rfl
       |some q =>
        show _=((look 0 [(0,q.1)]).bind fun v=>(drun (run F clean hook lv) bf base (numbered 0 l0) e0 (Nat.succ j) r (Z.next j d v ⟨(layAll base (pubs bf Z.chain Z.fls j) m0).loc,q.2.tbl,q.2.next⟩)).bind fun Z'=>(finD bf base e0 Z').bind fun r=>den F clean hook s lv .norm r.1 r.2)
        have hl:look 0 [(0,q.1)]=some q.1:=rfl
        rw[hl,bind_some']
        simp only[Option.map,DS.next,hs]
        rfl
  ·have hne:∀d f xs,i≠.call d f xs:=fun d f xs he=>hi ⟨d,f,xs,he⟩
   have h':(Option.rec none (fun Z'=>fN (Nat.succ j) fun j'=>ih lv (.drw l0 bf r base j' e0 Z'::s) .norm [] ⟨[],[],0⟩) (dstep (fun _ _ _=>none) bf base (numbered 0 l0) e0 j g i Z):Option (Ms X))=some s':=by
    cases i with
    |call d f xs=>exact(hne d f xs rfl).elim
    |_=>exact h
   rw[dstep_other i hne (fun _ _ _=>none) (run F clean hook lv)] at h'
   simp only[drun]
   cases hd:dstep (run F clean hook lv) bf base (numbered 0 l0) e0 j g i Z with
   |none=>rw[hd] at h';cases h'
   |some Z' =>
    rw[hd] at h'
    change fN (Nat.succ j) _=some s' at h'
    rw[fN_eq] at h'
    (have q:=hih _ _ _ _ _ h';exact q)
theorem opsM_eq(l:Row)(ih:IH X)(lv:Nat)(s:List (Fm X))(e:Env)(m:Mem X){s':Ms X}
  (hih:∀lv st x e m,ih lv st x e m=some s'→den F clean hook st lv x e m=den F clean hook s'.st s'.lv s'.x s'.env s'.m)
  (h:opsM F hook l s lv e m ih=some s') :
  den F clean hook (.ops l::s) lv .norm e m=den F clean hook s'.st s'.lv s'.x s'.env s'.m:=by
 cases l with
 |nil=>(have q:=hih _ _ _ _ _ h;exact q)
 |cons gi r =>
  obtain⟨g,i⟩:=gi
  change wantK e g (stepM F hook i r ih lv s e m) (ih lv (.ops r::s) .norm (dstK i e) m)=some s' at h
  show((runOps (run F clean hook lv) ((g,i)::r) e m).bind fun q=>den F clean hook s lv .norm q.1 q.2)=_
  simp only[runOps]
  have key:stepM F hook i r ih lv s e m=some s'→((estep (run F clean hook lv) e m i).bind fun q=>(runOps (run F clean hook lv) r (putEnv i.dst q.1 e) q.2).bind fun q=>den F clean hook s lv .norm q.1 q.2)=den F clean hook s'.st s'.lv s'.x s'.env s'.m:=by
   intro h
   by_cases hi:∃d f xs,i = .call d f xs
   ·obtain⟨d,f,xs,rfl⟩:=hi
    exact callM_eq d f xs r ih lv s e m hih h
   ·rw[stepM_eq i (fun d f xs he=>hi ⟨d,f,xs,he⟩) (run F clean hook lv)] at h
    cases hq:estep (run F clean hook lv) e m i with
    |none=>rw[hq] at h;cases h
    |some q=>rw[hq] at h;(have q:=hih _ _ _ _ _ h;exact q)
  have key2:(match estep (run F clean hook lv) e m i with|some (v,m')=>runOps (run F clean hook lv) r (putEnv i.dst v e) m'|none=>none).bind (fun q=>den F clean hook s lv .norm q.1 q.2)=((estep (run F clean hook lv) e m i).bind fun q=>(runOps (run F clean hook lv) r (putEnv i.dst q.1 e) q.2).bind fun q=>den F clean hook s lv .norm q.1 q.2):=by
   cases estep (run F clean hook lv) e m i<;>rfl
  cases g with
  |none =>
   refine Eq.trans ?_ (key h)
   exact key2
  |some dw =>
   change (Option.rec none (fun b=>Bool.rec (ih lv (.ops r::s) .norm (dstK i e) m) (stepM F hook i r ih lv s e m) b) (wanted e (some dw)):Option (Ms X))=some s' at h
   cases hw:wanted e (some dw) with
   |none=>rw[hw] at h;cases h
   |some b =>
    rw[hw] at h
    cases b with
    |true=>exact key2.trans (key h)
    |false=>(have q:=hih _ _ _ _ _ h;exact q)
theorem codeM_eq(c:ICode)(ih:IH X)(lv:Nat)(s:List (Fm X))(e:Env)(m:Mem X){s':Ms X}
  (hih:∀lv st x e m,ih lv st x e m=some s'→den F clean hook st lv x e m=den F clean hook s'.st s'.lv s'.x s'.env s'.m)
  (h:codeM F hook c s lv e m ih=some s') :
  den F clean hook (.code c::s) lv .norm e m=den F clean hook s'.st s'.lv s'.x s'.env s'.m:=by
 show((runC (run F clean hook lv) lv c e m).bind fun r=>den F clean hook s lv r.1 r.2.1 r.2.2)=_
 cases c with
 |skip=>(have q:=hih _ _ _ _ _ h;exact q)
 |ops l =>
  have:=opsM_eq l ih lv s e m hih h
  rw[← this]
  show _=((runOps (run F clean hook lv) l e m).bind fun q=>den F clean hook s lv .norm q.1 q.2)
  simp only[runC]
  cases runOps (run F clean hook lv) l e m<;>rfl
 |drawn l bf =>
  obtain⟨loc,tbl,nx⟩:=m
  change fN (Nat.add nx l.length) (fun nx'=>ih lv (.drw l bf l nx 0 e ⟨[],[⟨loc,tbl,nx'⟩],[],[],[]⟩::s) .norm [] ⟨[],[],0⟩)=some s' at h
  rw[fN_eq] at h
  have:=hih _ _ _ _ _ h
  rw[← this]
  show _=((drun (run F clean hook lv) bf nx (numbered 0 l) e 0 l ⟨[],[⟨loc,tbl,nx+l.length⟩],[],[],[]⟩).bind fun Z'=>(finD bf nx e Z').bind fun r=>den F clean hook s lv .norm r.1 r.2)
  simp only[runC,drawnRun,finD]
  cases drun (run F clean hook lv) bf nx (numbered 0 l) e 0 l ⟨[],[⟨loc,tbl,nx+l.length⟩],[],[],[]⟩ with
  |none=>rfl
  |some Z =>
   dsimp only[bind_some']
   cases heldAll bf Z Z.lds with
   |false=>rfl
   |true =>
    dsimp only[cond_true]
    cases Z.snaps<;>rfl
 |seq a b =>
  have:=hih _ _ _ _ _ h
  rw[← this]
  show _=((runC (run F clean hook lv) lv a e m).bind fun r=>norm? r.1 ((runC (run F clean hook lv) lv b r.2.1 r.2.2).bind fun r=>den F clean hook s lv r.1 r.2.1 r.2.2) (den F clean hook s lv r.1 r.2.1 r.2.2))
  simp only[runC]
  rcases runC (run F clean hook lv) lv a e m with _|⟨x,e1,m1⟩
  ·rfl
  ·cases x<;>rfl
 |cond cnd a b =>
  change evK e cnd _=some s' at h
  rw[evK_eq] at h
  simp only[runC]
  cases hv:evo e cnd with
  |none=>rw[hv] at h;cases h
  |some v =>
   rw[hv,bind_some'] at h
   cases v with
   |bool bb=>cases bb<;>(have q:=hih _ _ _ _ _ h;exact q)
   |_=>cases h
 |block id a =>
  have:=hih _ _ _ _ _ h
  rw[← this]
  show _=((runC (run F clean hook lv) lv a e m).bind fun r=>den1 F clean hook (den F clean hook s) (.block id) lv r.1 r.2.1 r.2.2)
  simp only[runC]
  rcases runC (run F clean hook lv) lv a e m with _|⟨x,e1,m1⟩
  ·rfl
  ·cases x with
   |norm=>rfl
   |ret=>rfl
   |exit k =>
    simp only[bind_some',den1]
    cases Nat.beq k id<;>rfl
 |loop a =>
  cases lv with
  |zero=>cases h
  |succ j =>
   have:=hih _ _ _ _ _ h
   rw[← this]
   show _=((runC (run F clean hook (j+1)) (j+1) a e m).bind fun r=>norm? r.1 ((loopN (runC (run F clean hook (j+1)) (j+1) a) j (tidy j r.2.1 r.2.2).1 (tidy j r.2.1 r.2.2).2).bind fun r=>den F clean hook s (j+1) r.1 r.2.1 r.2.2) (den F clean hook s (j+1) r.1 r.2.1 r.2.2))
   show((loopN (runC (run F clean hook (j+1)) (j+1) a) (j+1) e m).bind _)=_
   simp only[loopN]
   rcases runC (run F clean hook (j+1)) (j+1) a e m with _|⟨x,e1,m1⟩
   ·rfl
   ·cases x<;>rfl
 |exit id=>(have q:=hih _ _ _ _ _ h;exact q)
 |ret=>(have q:=hih _ _ _ _ _ h;exact q)
theorem frM_eq(fr:Fm X)(ih:IH X)(lv:Nat)(s:List (Fm X))(x:Ex)(e:Env)(m:Mem X){s':Ms X}
  (hih:∀lv st x e m,ih lv st x e m=some s'→den F clean hook st lv x e m=den F clean hook s'.st s'.lv s'.x s'.env s'.m)
  (h:frM F clean hook fr s lv x e m ih=some s') :
  den F clean hook (fr::s) lv x e m=den F clean hook s'.st s'.lv s'.x s'.env s'.m:=by
 cases fr with
 |code c =>
  cases x with
  |norm=>exact codeM_eq c ih lv s e m hih h
  |exit k=>(have q:=hih _ _ _ _ _ h;exact q)
  |ret=>(have q:=hih _ _ _ _ _ h;exact q)
 |ops l =>
  cases x with
  |norm=>exact opsM_eq l ih lv s e m hih h
  |exit k=>(have q:=hih _ _ _ _ _ h;exact q)
  |ret=>(have q:=hih _ _ _ _ _ h;exact q)
 |loop c j =>
  cases x with
  |norm =>
   change tidyK j e m (fun e' m'=>(Nat.rec none (fun j' _=>ih lv (.code c::.loop c j'::s) .norm e' m') j:Option (Ms X)))=some s' at h
   rw[tidyK_eq] at h
   cases j with
   |zero=>cases h
   |succ j =>
    have:=hih _ _ _ _ _ h
    rw[← this]
    show((loopN (runC (run F clean hook lv) lv c) (j+1) (tidy (j+1) e m).1 (tidy (j+1) e m).2).bind fun r=>den F clean hook s lv r.1 r.2.1 r.2.2)=((runC (run F clean hook lv) lv c (tidy (j+1) e m).1 (tidy (j+1) e m).2).bind fun r=>norm? r.1 ((loopN (runC (run F clean hook lv) lv c) j (tidy j r.2.1 r.2.2).1 (tidy j r.2.1 r.2.2).2).bind fun r=>den F clean hook s lv r.1 r.2.1 r.2.2) (den F clean hook s lv r.1 r.2.1 r.2.2))
    generalize(tidy (j+1) e m).1=e0
    generalize(tidy (j+1) e m).2=m0
    simp only[loopN]
    rcases runC (run F clean hook lv) lv c e0 m0 with _|⟨x,e1,m1⟩
    ·rfl
    ·cases x<;>rfl
  |exit k=>(have q:=hih _ _ _ _ _ h;exact q)
  |ret=>(have q:=hih _ _ _ _ _ h;exact q)
 |block id =>
  cases x with
  |norm=>(have q:=hih _ _ _ _ _ h;exact q)
  |ret=>(have q:=hih _ _ _ _ _ h;exact q)
  |exit k =>
   change (Bool.rec (ih lv s (.exit k) e m) (ih lv s .norm e m) (Nat.beq k id):Option (Ms X))=some s' at h
   show(bif Nat.beq k id then den F clean hook s lv .norm e m else den F clean hook s lv (.exit k) e m)=_
   cases hb:Nat.beq k id<;>rw[hb] at h<;>(have q:=hih _ _ _ _ _ h;exact q)
 |ret f lv0 d e0 l0 nx res =>
  have key:endK (clean f) nx res e m (fun v h=>Hp.rec (fun tbl' nx'=>ih lv0 s .norm (putEnv d v e0) ⟨l0,tbl',nx'⟩) h)=some s'→((endV (clean f) nx res e m).bind fun r=>den F clean hook s lv0 .norm (putEnv d r.1 e0) ⟨l0,r.2.tbl,r.2.next⟩)=den F clean hook s'.st s'.lv s'.x s'.env s'.m:=by
   intro h
   rw[endK_eq] at h
   change (endV (clean f) nx res e m).bind _=some s' at h
   cases hv:endV (clean f) nx res e m with
   |none=>rw[hv] at h;cases h
   |some q =>
    obtain⟨v,tb,nx'⟩:=q
    rw[hv] at h
    (have q:=hih _ _ _ _ _ h;exact q)
  cases x with
  |norm=>exact key h
  |ret=>exact key h
  |exit k=>cases h
 |drw l0 bf l base j e0 Z =>
  cases x with
  |norm=>exact drwM_eq l0 bf l base j e0 Z ih lv s e m hih h
  |exit k=>(have q:=hih _ _ _ _ _ h;exact q)
  |ret=>(have q:=hih _ _ _ _ _ h;exact q)
 |drc l0 bf l base j d e0 Z =>
  cases x with
  |norm =>
   change lookK 0 e none (fun v=>fN (Nat.succ j) fun j'=>ih lv (.drw l0 bf l base j' e0 ⟨(j,d,v)::Z.vals,m::Z.snaps,j::Z.chain,Z.fls,Z.lds⟩::s) .norm [] ⟨[],[],0⟩)=some s' at h
   rw[lookK_eq] at h
   show((look 0 e).bind fun v=>(drun (run F clean hook lv) bf base (numbered 0 l0) e0 (Nat.succ j) l (Z.next j d v m)).bind fun Z'=>(finD bf base e0 Z').bind fun r=>den F clean hook s lv .norm r.1 r.2)=_
   cases hv:look 0 e with
   |none=>rw[hv] at h;cases h
   |some v =>
    rw[hv] at h
    dsimp only at h
    rw[fN_eq] at h
    (have q:=hih _ _ _ _ _ h;exact q)
  |exit k=>(have q:=hih _ _ _ _ _ h;exact q)
  |ret=>(have q:=hih _ _ _ _ _ h;exact q)
theorem mach_den:∀(n lv:Nat) (st:List (Fm X)) (x:Ex) (e:Env) (m:Mem X) (s':Ms X),machK F clean hook n lv st x e m=some s'→den F clean hook st lv x e m=den F clean hook s'.st s'.lv s'.x s'.env s'.m
 |0,lv,st,x,e,m,s',h=>by
  change some (Ms.mk lv st x e m)=some s' at h
  injection h with h;subst h;rfl
 |n+1,lv,st,x,e,m,s',h=>by
  cases st with
  |nil =>
   change some (Ms.mk lv [] x e m)=some s' at h
   injection h with h;subst h;rfl
  |cons fr s=>exact frM_eq fr (machK F clean hook n) lv s x e m (fun lv st x e m h=>mach_den n lv st x e m s' h) h
def Ms.den(F:Nat→Option IFn)(clean:Nat→Bool)(hook:Hook X)(s:Ms X):Option (Value×Hp X):=AI.den F clean hook s.st s.lv s.x s.env s.m
def machS(F:Nat→Option IFn)(clean:Nat→Bool)(hook:Hook X)(n:Nat)(s:Ms X):Option (Ms X):=Ms.rec (fun lv st x e m=>machK F clean hook n lv st x e m) s
theorem machS_den{n:Nat}{s s':Ms X}(h:machS F clean hook n s=some s'):s.den F clean hook=s'.den F clean hook:=by
 obtain⟨lv,st,x,e,m⟩:=s
 exact mach_den n lv st x e m s' h
def Ms.call(lv f:Nat)(h:Hp X):Ms X:=⟨lv,[.ops [(none,.call (some 0) (.c (.func (.func f) #[] #[])) [])]],.norm,[],⟨[],h.tbl,h.next⟩⟩
theorem Ms.call_den(lv f:Nat)(h:Hp X):(Ms.call lv f h).den F clean hook=run F clean hook lv f [] h:=by
 show((runOps (run F clean hook lv) [(none,.call (some 0) (.c (.func (.func f) #[] #[])) [])] [] ⟨[],h.tbl,h.next⟩).bind fun q=>(look 0 q.1).map fun v=>(v,(⟨q.2.tbl,q.2.next⟩:Hp X)))=_
 simp only[runOps,wanted,estep,evo,evs,List.append_nil]
 show(match(match run F clean hook lv f [] h with|some (v,h)=>some (v,(⟨[],h.tbl,h.next⟩:Mem X))|none=>none) with|some (v,m')=>some (putEnv (some 0) v [],m')|none=>none).bind _=_
 cases run F clean hook lv f [] h<;>rfl
theorem Ms.end_den{lv:Nat}{x:Ex}{e:Env}{m:Mem X}{v:Value}(h:look 0 e=some v):(Ms.mk lv [] x e m).den F clean hook=some (v,⟨m.tbl,m.next⟩):=by
 show(look 0 e).map _=_
 rw[h];rfl
end
end
end Go.AI
namespace Go.AI
def vi(n:Nat):Value:=.int .i64 (.ofNat n)
def vw(n:Nat):Value:=.int .u64 (.ofNat n)
def vp(b o:Nat):Value:=.pointer (some ⟨b,o,none⟩)
def ap(l r:List Value):List Value:=List.rec r (fun x _ ih=>x::ih) l
def subC:List Nat→ICode→ICode
 |[],c=>c
 |k::p,.seq a b=>bif Nat.beq k 0 then subC p a else subC p b
 |k::p,.cond _ a b=>bif Nat.beq k 0 then subC p a else subC p b
 |_::p,.block _ a=>subC p a
 |_::p,.loop a=>subC p a
 |_,c=>c
def cdF(F:Nat→Option IFn)(f:Nat)(p:List Nat):ICode:=match F f with
 |some fn=>subC p fn.code
 |none=>.skip
def cdO(F:Nat→Option IFn)(f:Nat)(p:List Nat)(k:Nat):List (Option (Nat×Bool)×IOp):=match cdF F f p with
 | .ops l=>l.drop k
 |_=>[]
def cdR(F:Nat→Option IFn)(f:Nat):List IRes:=match F f with
 |some fn=>fn.res
 |none=>[]
def cdD(F:Nat→Option IFn)(f:Nat)(p:List Nat):List (Option (Nat×Bool)×IOp):=match cdF F f p with
 | .drawn l _=>l
 |_=>[]
def cdB(F:Nat→Option IFn)(f:Nat)(p:List Nat):List (List Nat):=match cdF F f p with
 | .drawn _ b=>b
 |_=>[]
end Go.AI
