/- The evaluator as a machine: its state is plain data, so that a long reckoning can be done piece by piece. No program is named here. -/
import Derived.Test.YtohdfkipbgnkoaaGreatDoorKHk
noncomputable section
namespace Go.AI
section
variable {X:Type}
inductive Fm(X:Type) where
 |code (c:ICode)
 |ops (l:List (Option (Nat×Bool)×IOp))
 |loop (c:ICode) (n:Nat)
 |block (id:Nat)
 |ret (f lv:Nat) (d:Option Nat) (env:LV) (loc:List (Nat×AObj X)) (nx:Nat) (res:List IRes)
 |drw (l0:List (Option (Nat×Bool)×IOp)) (bf:List (List Nat)) (l:List (Option (Nat×Bool)×IOp)) (base k:Nat) (env0:LV) (Z:DS X)
 |drc (l0:List (Option (Nat×Bool)×IOp)) (bf:List (List Nat)) (l:List (Option (Nat×Bool)×IOp)) (base k:Nat) (d:Option Nat) (env0:LV) (Z:DS X)
structure Ms(X:Type) where
 lv:Nat
 st:List (Fm X)
 x:Ex
 env:LV
 m:Mem X
def Ds(cl:Bool)(nx:Nat)(res:List IRes)(env:LV)(m:Mem X):Option (Value×Hp X) :=
 match db env m res with
 |some rs=>match ja rs with
  |some v=>some (v,⟨bif cl then iu nx m.tbl else m.tbl,m.next⟩)
  |none=>none
 |none=>none
def lz(bf:List (List Nat))(base:Nat)(env0:LV)(Z:DS X):Option (LV×Mem X) :=
 bif bi bf Z Z.lds then(match Z.snaps with
  |mu::_=>some (dh Z.vals++env0,bT base (Z.fls.filter fun f=>Z.chain.all fun c=>!bC bf f.1 c) mu)
  |[]=>none) else none
def DS.next(Z:DS X)(k:Nat)(d:Option Nat)(v:Value)(m:Mem X):DS X:=⟨(k,d,v)::Z.vals,m::Z.snaps,k::Z.chain,Z.fls,Z.lds⟩
section
variable (F:Nat→Option IFn)(clean:Nat→Bool)(hook:dS X)
abbrev Dn(X:Type):=Nat→Ex→LV→Mem X→Option (Value×Hp X)
def norm?{γ:Type}(x:Ex)(a b:γ):γ:=match x with| .norm=>a|_=>b
def xX(k:Dn X):Fm X→Dn X
 | .code c,n,x,e,m=>norm? x ((bP (run F clean hook n) n c e m).bind fun r=>k n r.1 r.2.1 r.2.2) (k n x e m)
 | .ops l,n,x,e,m=>norm? x ((aY (run F clean hook n) l e m).bind fun r=>k n .norm r.1 r.2) (k n x e m)
 | .loop c j,n,x,e,m=>norm? x ((ge (bP (run F clean hook n) n c) j (tidy j e m).1 (tidy j e m).2).bind fun r=>k n r.1 r.2.1 r.2.2) (k n x e m)
 | .block id,n,x,e,m=>match x with
  | .exit j=>bif Nat.beq j id then k n .norm e m else k n (.exit j) e m
  |x=>k n x e m
 | .ret f lv d e0 l0 nx res,_,x,e,m=>match x with
  | .exit _=>none
  |_=>(Ds (clean f) nx res e m).bind fun r=>k lv .norm (bD d r.1 e0) ⟨l0,r.2.tbl,r.2.next⟩
 | .drw l0 bf l base j e0 Z,n,x,e,m=>norm? x ((d8 (run F clean hook n) bf base (aH 0 l0) e0 j l Z).bind fun Z'=>(lz bf base e0 Z').bind fun r=>k n .norm r.1 r.2) (k n x e m)
 | .drc l0 bf l base j d e0 Z,n,x,e,m=>norm? x ((aa 0 e).bind fun v=>(d8 (run F clean hook n) bf base (aH 0 l0) e0 (Nat.succ j) l (Z.next j d v m)).bind fun Z'=>(lz bf base e0 Z').bind fun r=>k n .norm r.1 r.2) (k n x e m)
def den:List (Fm X)→Dn X
 |[]=>fun _ _ e m=>(aa 0 e).map fun v=>(v,⟨m.tbl,m.next⟩)
 |fr::s=>xX F clean hook (den s) fr
abbrev IH(X:Type):=Nat→List (Fm X)→Ex→LV→Mem X→Option (Ms X)
abbrev Row:=List (Option (Nat×Bool)×IOp)
def exK{γ:Type}(x:Ex)(a b:γ):γ:=Ex.rec a (fun _=>b) b x
def dZ(sk:SK X (Ms X)):Row→IH X→Nat→List (Fm X)→Env→Mem X→Option (Ms X) :=
 fun r ih lv s e m=>sk (fun _ _ _ _=>none) e m fun e' m'=>ih lv (.ops r::s) .norm e' m'
def goM(vs:List Value)(f:Nat)(d:Option Nat)(fn:IFn):IH X→Nat→Nat→List (Fm X)→Env→List (Nat×AObj X)→List (Nat×AObj X)→Nat→Option (Ms X) :=
 IFn.rec (fun code nt res ih n lv fs e loc tbl nx=>Bool.rec none (ih n (.code code::.ret f lv d e loc nx res::fs) .norm (aM 0 vs) ⟨[],tbl,nx⟩) (Nat.ble vs.length nt)) fn
def pL(f:Opd)(xs:List Opd)(ev:Env)(m:Mem X)(d:Option Nat)(e:Env)(fs:List (Fm X))(ih:IH X)(lv:Nat):Option (Ms X) :=
 evK ev f (LI none fun g cap=>fnK none (fun f=>vt ev xs fun vs=>Mem.rec (fun loc tbl nx =>
  Nat.rec none (fun n _=>Option.rec
   (Option.rec none (fun fn=>goM (rW vs cap) f d fn ih n lv fs e loc tbl nx) (F f))
   (fun g=>ob (g (rW vs cap) ⟨tbl,nx⟩) fun q=>Prod.rec (fun v h=>Hp.rec (fun tbl' nx'=>ih lv fs .norm (bD d v e) ⟨loc,tbl',nx'⟩) h) q) (hook f)) lv) m) g)
def Jy(d:Option Nat)(f:Opd)(xs:List Opd):Row→IH X→Nat→List (Fm X)→Env→Mem X→Option (Ms X) :=
 fun r ih lv s e m=>pL F hook f xs e m d e (.ops r::s) ih lv
def wx(i:IOp):Row→IH X→Nat→List (Fm X)→Env→Mem X→Option (Ms X) :=
 IOp.rec (fun d p=>dZ (J0 d p)) (fun d n g a=>dZ (JZ d n g a)) (fun n a x=>dZ (DG n a x)) (fun d h cs=>dZ (yi d h cs)) (fun d h x=>dZ (Ox d h x))
  (fun d n e z ps=>dZ (b8 (.bslice d n e z ps))) (fun d e b z l c=>dZ (b8 (.mslice d e b z l c))) (fun d t x=>dZ (b8 (.s2b d t x))) (fun d x=>dZ (b8 (.b2s d x)))
  (fun d e b t x y=>dZ (b8 (.append d e b t x y))) (fun d e x y=>dZ (b8 (.copy d e x y))) (fun d e z x=>dZ (b8 (.clear d e z x))) (Jy F hook)
  (fun d=>dZ (b8 (.mmap d))) (fun d z a o m k=>dZ (b8 (.mget d z a o m k))) (fun m k x=>dZ (b8 (.mset m k x)))
  (fun d z a m k=>dZ (b8 (.ment d z a m k))) (fun m s x=>dZ (b8 (.ests m s x))) (fun d m=>dZ (b8 (.mlen d m))) (fun d m=>dZ (b8 (.mclr d m)))
  (fun d h t cs=>dZ (b8 (.newt d h t cs))) (fun d t x=>dZ (b8 (.tou d t x))) (fun d t n x=>dZ (b8 (.fromu d t n x))) (fun d x=>dZ (b8 (.usd d x))) (fun d t x n=>dZ (b8 (.ustr d t x n))) i
abbrev SM(X:Type):=List (Fm X)→Nat→Env→Mem X→IH X→Option (Ms X)
def Kz(l:Row):SM X :=
 List.rec (motive:=fun _=>SM X) (fun s lv e m ih=>ih lv s .norm e m) (fun gi r _ s lv e m ih=>Prod.rec (fun g i=>Ah e g (wx F hook i r ih lv s e m) (ih lv (.ops r::s) .norm (Gv i e) m)) gi) l
def M4{γ:Type}(i:IOp)(n:γ)(y:Option Nat→Opd→List Opd→γ):γ :=
 IOp.rec (fun _ _=>n) (fun _ _ _ _=>n) (fun _ _ _=>n) (fun _ _ _=>n) (fun _ _ _=>n) (fun _ _ _ _ _=>n) (fun _ _ _ _ _ _=>n) (fun _ _ _=>n) (fun _ _=>n) (fun _ _ _ _ _ _=>n) (fun _ _ _ _=>n) (fun _ _ _ _=>n) (fun d f xs=>y d f xs)
  (fun _=>n) (fun _ _ _ _ _ _=>n) (fun _ _ _=>n) (fun _ _ _ _ _=>n) (fun _ _ _=>n) (fun _ _=>n) (fun _ _=>n) (fun _ _ _ _=>n) (fun _ _ _=>n) (fun _ _ _ _=>n) (fun _ _=>n) (fun _ _ _ _=>n) i
def Nn(l0:Row)(bf:List (List Nat))(l:Row)(base j:Nat)(e0:Env)(Z:DS X)(s:List (Fm X))(lv:Nat)(ih:IH X):Option (Ms X) :=
 List.rec (Option.rec none (fun r=>Prod.rec (fun e' m'=>ih lv s .norm e' m') r) (lz bf base e0 Z)) (fun gi r _=>Prod.rec (fun g i =>
  M4 i (Option.rec none (fun Z'=>fN (Nat.succ j) fun j'=>ih lv (.drw l0 bf r base j' e0 Z'::s) .norm [] ⟨[],[],0⟩) (dD (fun _ _ _=>none) bf base (aH 0 l0) e0 j g i Z))
   fun d f xs=>Option.rec none (fun b=>Bool.rec
    (fN (Nat.succ j) fun j'=>ih lv (.drw l0 bf r base j' e0 ⟨(j,d,undef)::Z.vals,Z.snaps,Z.chain,Z.fls,Z.lds⟩::s) .norm [] ⟨[],[],0⟩)
    (Bool.rec none (List.rec none (fun m _ _=>pL F hook f xs (bq bf (aH 0 l0) e0 Z.vals j) (bT base (g9 bf Z.chain Z.fls j) m) (some 0) [] (.drc l0 bf r base j d e0 Z::s) ih lv) Z.snaps) (Z.chain.all fun c=>bC bf c j)) b)
    (wanted (bq bf (aH 0 l0) e0 Z.vals j) g)) gi) l
def J4(c:ICode):SM X :=
 ICode.rec (motive:=fun _=>SM X)
  (fun s lv e m ih=>ih lv s .norm e m)
  (fun l s lv e m ih=>Kz F hook l s lv e m ih)
  (fun l bf s lv e m ih=>Mem.rec (fun loc tbl nx=>fN (Nat.add nx l.length) fun nx'=>ih lv (.drw l bf l nx 0 e ⟨[],[⟨loc,tbl,nx'⟩],[],[],[]⟩::s) .norm [] ⟨[],[],0⟩) m)
  (fun a b _ _ s lv e m ih=>ih lv (.code a::.code b::s) .norm e m)
  (fun c a b _ _ s lv e m ih=>evK e c (vo none (Bool.rec (ih lv (.code b::s) .norm e m) (ih lv (.code a::s) .norm e m))))
  (fun id a _ s lv e m ih=>ih lv (.code a::.block id::s) .norm e m)
  (fun a _ s lv e m ih=>Nat.rec none (fun j _=>ih lv (.code a::.loop a j::s) .norm e m) lv)
  (fun id s lv e m ih=>ih lv s (.exit id) e m)
  (fun s lv e m ih=>ih lv s .ret e m) c
def frM(fr:Fm X):List (Fm X)→Nat→Ex→Env→Mem X→IH X→Option (Ms X) :=
 Fm.rec (motive:=fun _=>List (Fm X)→Nat→Ex→Env→Mem X→IH X→Option (Ms X))
  (fun c s lv x e m ih=>exK x (J4 F hook c s lv e m ih) (ih lv s x e m))
  (fun l s lv x e m ih=>exK x (Kz F hook l s lv e m ih) (ih lv s x e m))
  (fun c j s lv x e m ih=>exK x (sG j e m fun e' m'=>Nat.rec none (fun j' _=>ih lv (.code c::.loop c j'::s) .norm e' m') j) (ih lv s x e m))
  (fun id s lv x e m ih=>Ex.rec (ih lv s .norm e m) (fun k=>Bool.rec (ih lv s (.exit k) e m) (ih lv s .norm e m) (Nat.beq k id)) (ih lv s .ret e m) x)
  (fun f lv0 d e0 l0 nx res s _ x e m ih=>Ex.rec (pm (clean f) nx res e m fun v h=>Hp.rec (fun tbl' nx'=>ih lv0 s .norm (bD d v e0) ⟨l0,tbl',nx'⟩) h) (fun _=>none) (pm (clean f) nx res e m fun v h=>Hp.rec (fun tbl' nx'=>ih lv0 s .norm (bD d v e0) ⟨l0,tbl',nx'⟩) h) x)
  (fun l0 bf l base j e0 Z s lv x e m ih=>exK x (Nn F hook l0 bf l base j e0 Z s lv ih) (ih lv s x e m))
  (fun l0 bf l base j d e0 Z s lv x e m ih=>exK x (gC 0 e none fun v=>fN (Nat.succ j) fun j'=>ih lv (.drw l0 bf l base j' e0 ⟨(j,d,v)::Z.vals,m::Z.snaps,j::Z.chain,Z.fls,Z.lds⟩::s) .norm [] ⟨[],[],0⟩) (ih lv s x e m)) fr
def Gn(n:Nat):IH X :=
 Nat.rec (motive:=fun _=>IH X) (fun lv st x e m=>some ⟨lv,st,x,e,m⟩) (fun _ ih lv st x e m=>List.rec (some ⟨lv,st,x,e,m⟩) (fun fr s _=>frM F clean hook fr s lv x e m ih) st) n
variable {F clean hook}
theorem FU(i:IOp)(hi:∀d f xs,i≠.call d f xs)(c:aP X)(r:Row)(ih:IH X)(lv:Nat)(s:List (Fm X))(e:Env)(m:Mem X) :
  wx F hook i r ih lv s e m=(bh c e m i).bind fun q=>ih lv (.ops r::s) .norm (bD i.dst q.1 e) q.2:=by
 have hc:iU (β:=Ms X) (fun _ _ _ _=>none) (fun _ _ _=>(none:Option (Value×Hp X))):=fun _ _ _ _=>rfl
 have h:=wN hc i e m fun e' m'=>ih lv (.ops r::s) .norm e' m'
 cases i with
 |call d f xs=>exact(hi d f xs rfl).elim
 |_=>exact h
def kw(call:aP X)(ev:Env)(m:Mem X)(f:Opd)(xs:List Opd):Option (Value×Hp X) :=
 match evo ev f,evs ev xs with
 |some (.func (.func k) _ caps),some vs=>call k (vs++caps.toList) ⟨m.tbl,m.next⟩
 |_,_=>none
theorem io(call:aP X)(e:Env)(m:Mem X)(d:Option Nat)(f:Opd)(xs:List Opd):bh call e m (.call d f xs)=(kw call e m f xs).map fun q=>(q.1,⟨m.loc,q.2.tbl,q.2.next⟩):=by
 simp only[bh,kw];cases evo e f with
 |none=>rfl
 |some v =>
  cases v with
  |func g fi caps =>
   cases g with
   |func k =>
    cases evs e xs with
    |none=>rfl
    |some vs =>
     dsimp only;cases call k (vs++caps.toList) ⟨m.tbl,m.next⟩<;>rfl
   |_=>rfl
  |_=>rfl
theorem xk(f:Opd)(xs:List Opd)(ev:Env)(m:Mem X)(d:Option Nat)(e:Env)(fs:List (Fm X))(ih:IH X)(lv:Nat){s':Ms X}
  (hih:∀lv st x e m,ih lv st x e m=some s'→den F clean hook st lv x e m=den F clean hook s'.st s'.lv s'.x s'.env s'.m)
  (h:pL F hook f xs ev m d e fs ih lv=some s') :
  ((kw (run F clean hook lv) ev m f xs).bind fun q=>den F clean hook fs lv .norm (bD d q.1 e) ⟨m.loc,q.2.tbl,q.2.next⟩)=den F clean hook s'.st s'.lv s'.x s'.env s'.m:=by
 unfold pL at h;rw[evK_eq] at h;simp only[kw];cases hf:evo ev f with
 |none=>rw[hf] at h;cases h
 |some fv =>
  rw[hf,bm] at h;cases fv with
  |func g fi cap =>
   change fnK none _ g=some s' at h;cases g with
   |func f' =>
    change vt ev xs _=some s' at h;rw[evsK_eq] at h;cases hxs:evs ev xs with
    |none=>rw[hxs] at h;cases h
    |some vs =>
     rw[hxs,bm] at h;obtain⟨loc,tbl,nx⟩:=m;have hcap:rW vs cap=vs++cap.toList:=by
      obtain⟨cl⟩:=cap;cases cl with
      |nil=>exact(List.append_nil vs).symm
      |cons a l=>rfl
     cases lv with
     |zero=>cases h
     |succ n =>
      change (Option.rec (Option.rec none (fun fn=>goM (rW vs cap) f' d fn ih n (n+1) fs e loc tbl nx) (F f'))
       (fun g=>ob (g (rW vs cap) ⟨tbl,nx⟩) fun q=>Prod.rec (fun v h=>Hp.rec (fun tbl' nx'=>ih (n+1) fs .norm (bD d v e) ⟨loc,tbl',nx'⟩) h) q) (hook f'):Option (Ms X))=some s' at h
      rw[hcap] at h;simp only[run];cases hk:hook f' with
      |some g =>
       rw[hk] at h;change ob (g (vs++cap.toList) ⟨tbl,nx⟩) _=some s' at h;rw[ob_eq] at h;dsimp only;cases hg:g (vs++cap.toList) ⟨tbl,nx⟩ with
       |none=>rw[hg] at h;cases h
       |some q =>
        obtain⟨v,tb,nx'⟩:=q;rw[hg,bm] at h
        (have q:=hih _ _ _ _ _ h;exact q)
      |none =>
       rw[hk] at h;dsimp only at h ⊢;cases hF:F f' with
       |none=>rw[hF] at h;cases h
       |some fn =>
        obtain⟨code,nt,res⟩:=fn;rw[hF] at h;change (Bool.rec none (ih n (.code code::.ret f' (n+1) d e loc nx res::fs) .norm (aM 0 (vs++cap.toList)) ⟨[],tbl,nx⟩) (Nat.ble (vs++cap.toList).length nt):Option (Ms X))=some s' at h;dsimp only;cases hb:Nat.ble (vs++cap.toList).length nt with
        |false=>rw[hb] at h;cases h
        |true =>
         rw[hb] at h;rw[cond_true];have:=hih _ _ _ _ _ h;rw[← this];show _=((bP (run F clean hook n) n code (aM 0 (vs++cap.toList)) ⟨[],tbl,nx⟩).bind fun q=>xX F clean hook (den F clean hook fs) (.ret f' (n+1) d e loc nx res) n q.1 q.2.1 q.2.2);rcases bP (run F clean hook n) n code (aM 0 (vs++cap.toList)) ⟨[],tbl,nx⟩ with _|⟨x,e1,m1⟩
         ·rfl
         ·cases x with
          |exit id=>rfl
          |norm =>
           simp only[bm,xX,Ds];cases db e1 m1 res with
           |none=>rfl
           |some rs =>
            dsimp only;cases ja rs<;>rfl
          |ret =>
           simp only[bm,xX,Ds];cases db e1 m1 res with
           |none=>rfl
           |some rs =>
            dsimp only;cases ja rs<;>rfl
   |_=>cases h
  |_=>cases h
theorem Ea(d:Option Nat)(f:Opd)(xs:List Opd)(r:Row)(ih:IH X)(lv:Nat)(s:List (Fm X))(e:Env)(m:Mem X){s':Ms X}
  (hih:∀lv st x e m,ih lv st x e m=some s'→den F clean hook st lv x e m=den F clean hook s'.st s'.lv s'.x s'.env s'.m)
  (h:Jy F hook d f xs r ih lv s e m=some s') :
  ((bh (run F clean hook lv) e m (.call d f xs)).bind fun q=>xX F clean hook (den F clean hook s) (.ops r) lv .norm (bD d q.1 e) q.2)=den F clean hook s'.st s'.lv s'.x s'.env s'.m:=by
 rw[← xk f xs e m d e (.ops r::s) ih lv hih h,io];cases kw (run F clean hook lv) e m f xs<;>rfl
theorem u6(i:IOp)(hi:∀d f xs,i≠.call d f xs)(c c':aP X)(bf:List (List Nat))(base:Nat)(ds:List (Nat×Option Nat))(e0:Env)(k:Nat)(g:Option (Nat×Bool))(Z:DS X):dD c bf base ds e0 k g i Z=dD c' bf base ds e0 k g i Z:=by
 have he:∀e m,bh c e m i=bh c' e m i:=by
  intro e m;cases i with
  |call d f xs=>exact(hi d f xs rfl).elim
  |_=>rfl
 simp only[dD,he]
theorem HR(l0:Row)(bf:List (List Nat))(l:Row)(base j:Nat)(e0:Env)(Z:DS X)(ih:IH X)(lv:Nat)(s:List (Fm X))(e:Env)(m:Mem X){s':Ms X}
  (hih:∀lv st x e m,ih lv st x e m=some s'→den F clean hook st lv x e m=den F clean hook s'.st s'.lv s'.x s'.env s'.m)
  (h:Nn F hook l0 bf l base j e0 Z s lv ih=some s') :
  den F clean hook (.drw l0 bf l base j e0 Z::s) lv .norm e m=den F clean hook s'.st s'.lv s'.x s'.env s'.m:=by
 show((d8 (run F clean hook lv) bf base (aH 0 l0) e0 j l Z).bind fun Z'=>(lz bf base e0 Z').bind fun r=>den F clean hook s lv .norm r.1 r.2)=_;cases l with
 |nil =>
  change (Option.rec none (fun r=>Prod.rec (fun e' m'=>ih lv s .norm e' m') r) (lz bf base e0 Z):Option (Ms X))=some s' at h;simp only[d8,bm];cases hf:lz bf base e0 Z with
  |none=>rw[hf] at h;cases h
  |some r=>rw[hf] at h;(have q:=hih _ _ _ _ _ h;exact q)
 |cons gi r =>
  obtain⟨g,i⟩:=gi;by_cases hi:∃d f xs,i = .call d f xs
  ·obtain⟨d,f,xs,rfl⟩:=hi;change (Option.rec none (fun b=>Bool.rec
    (fN (Nat.succ j) fun j'=>ih lv (.drw l0 bf r base j' e0 ⟨(j,d,undef)::Z.vals,Z.snaps,Z.chain,Z.fls,Z.lds⟩::s) .norm [] ⟨[],[],0⟩)
    (Bool.rec none (List.rec none (fun m _ _=>pL F hook f xs (bq bf (aH 0 l0) e0 Z.vals j) (bT base (g9 bf Z.chain Z.fls j) m) (some 0) [] (.drc l0 bf r base j d e0 Z::s) ih lv) Z.snaps) (Z.chain.all fun c=>bC bf c j)) b)
    (wanted (bq bf (aH 0 l0) e0 Z.vals j) g):Option (Ms X))=some s' at h
   simp only[d8,dD];cases hw:wanted (bq bf (aH 0 l0) e0 Z.vals j) g with
   |none=>rw[hw] at h;cases h
   |some b =>
    rw[hw] at h;cases b with
    |false =>
     change fN (Nat.succ j) _=some s' at h;rw[fN_eq] at h
     (have q:=hih _ _ _ _ _ h;exact q)
    |true =>
     change (Bool.rec none (List.rec none (fun m _ _=>pL F hook f xs (bq bf (aH 0 l0) e0 Z.vals j) (bT base (g9 bf Z.chain Z.fls j) m) (some 0) [] (.drc l0 bf r base j d e0 Z::s) ih lv) Z.snaps) (Z.chain.all fun c=>bC bf c j):Option (Ms X))=some s' at h;have hk:ce (.call d f xs) = .chain:=rfl;have hp:vm (bq bf (aH 0 l0) e0 Z.vals j) bf base j Z.fls (.call d f xs)=none:=rfl;simp only[hk,hp];cases ha:Z.chain.all fun c=>bC bf c j with
     |false=>rw[ha] at h;cases h
     |true =>
      rw[ha] at h;rw[cond_true];cases hs:Z.snaps with
      |nil=>rw[hs] at h;cases h
      |cons m0 ms =>
       rw[hs] at h;change pL F hook f xs (bq bf (aH 0 l0) e0 Z.vals j) (bT base (g9 bf Z.chain Z.fls j) m0) (some 0) [] (.drc l0 bf r base j d e0 Z::s) ih lv=some s' at h;rw[← xk f xs _ _ (some 0) [] _ ih lv hih h];dsimp only;rw[io];cases kw (run F clean hook lv) (bq bf (aH 0 l0) e0 Z.vals j) (bT base (g9 bf Z.chain Z.fls j) m0) f xs with
       |none=>rfl
       |some q =>
        show _=((aa 0 [(0,q.1)]).bind fun v=>(d8 (run F clean hook lv) bf base (aH 0 l0) e0 (Nat.succ j) r (Z.next j d v ⟨(bT base (g9 bf Z.chain Z.fls j) m0).loc,q.2.tbl,q.2.next⟩)).bind fun Z'=>(lz bf base e0 Z').bind fun r=>den F clean hook s lv .norm r.1 r.2);have hl:aa 0 [(0,q.1)]=some q.1:=rfl;rw[hl,bm];simp only[Option.map,DS.next,hs];rfl
  ·have hne:∀d f xs,i≠.call d f xs:=fun d f xs he=>hi ⟨d,f,xs,he⟩
   have h':(Option.rec none (fun Z'=>fN (Nat.succ j) fun j'=>ih lv (.drw l0 bf r base j' e0 Z'::s) .norm [] ⟨[],[],0⟩) (dD (fun _ _ _=>none) bf base (aH 0 l0) e0 j g i Z):Option (Ms X))=some s':=by
    cases i with
    |call d f xs=>exact(hne d f xs rfl).elim
    |_=>exact h
   rw[u6 i hne (fun _ _ _=>none) (run F clean hook lv)] at h';simp only[d8];cases hd:dD (run F clean hook lv) bf base (aH 0 l0) e0 j g i Z with
   |none=>rw[hd] at h';cases h'
   |some Z' =>
    rw[hd] at h';change fN (Nat.succ j) _=some s' at h';rw[fN_eq] at h'
    (have q:=hih _ _ _ _ _ h';exact q)
theorem zq(l:Row)(ih:IH X)(lv:Nat)(s:List (Fm X))(e:Env)(m:Mem X){s':Ms X}
  (hih:∀lv st x e m,ih lv st x e m=some s'→den F clean hook st lv x e m=den F clean hook s'.st s'.lv s'.x s'.env s'.m)
  (h:Kz F hook l s lv e m ih=some s') :
  den F clean hook (.ops l::s) lv .norm e m=den F clean hook s'.st s'.lv s'.x s'.env s'.m:=by
 cases l with
 |nil=>(have q:=hih _ _ _ _ _ h;exact q)
 |cons gi r =>
  obtain⟨g,i⟩:=gi;change Ah e g (wx F hook i r ih lv s e m) (ih lv (.ops r::s) .norm (Gv i e) m)=some s' at h;show((aY (run F clean hook lv) ((g,i)::r) e m).bind fun q=>den F clean hook s lv .norm q.1 q.2)=_;simp only[aY];have key:wx F hook i r ih lv s e m=some s'→((bh (run F clean hook lv) e m i).bind fun q=>(aY (run F clean hook lv) r (bD i.dst q.1 e) q.2).bind fun q=>den F clean hook s lv .norm q.1 q.2)=den F clean hook s'.st s'.lv s'.x s'.env s'.m:=by
   intro h;by_cases hi:∃d f xs,i = .call d f xs
   ·obtain⟨d,f,xs,rfl⟩:=hi;exact Ea d f xs r ih lv s e m hih h
   ·rw[FU i (fun d f xs he=>hi ⟨d,f,xs,he⟩) (run F clean hook lv)] at h;cases hq:bh (run F clean hook lv) e m i with
    |none=>rw[hq] at h;cases h
    |some q=>rw[hq] at h;(have q:=hih _ _ _ _ _ h;exact q)
  have key2:(match bh (run F clean hook lv) e m i with|some (v,m')=>aY (run F clean hook lv) r (bD i.dst v e) m'|none=>none).bind (fun q=>den F clean hook s lv .norm q.1 q.2)=((bh (run F clean hook lv) e m i).bind fun q=>(aY (run F clean hook lv) r (bD i.dst q.1 e) q.2).bind fun q=>den F clean hook s lv .norm q.1 q.2):=by
   cases bh (run F clean hook lv) e m i<;>rfl
  cases g with
  |none =>
   refine Eq.trans ?_ (key h);exact key2
  |some dw =>
   change (Option.rec none (fun b=>Bool.rec (ih lv (.ops r::s) .norm (Gv i e) m) (wx F hook i r ih lv s e m) b) (wanted e (some dw)):Option (Ms X))=some s' at h;cases hw:wanted e (some dw) with
   |none=>rw[hw] at h;cases h
   |some b =>
    rw[hw] at h;cases b with
    |true=>exact key2.trans (key h)
    |false=>(have q:=hih _ _ _ _ _ h;exact q)
theorem DV(c:ICode)(ih:IH X)(lv:Nat)(s:List (Fm X))(e:Env)(m:Mem X){s':Ms X}
  (hih:∀lv st x e m,ih lv st x e m=some s'→den F clean hook st lv x e m=den F clean hook s'.st s'.lv s'.x s'.env s'.m)
  (h:J4 F hook c s lv e m ih=some s') :
  den F clean hook (.code c::s) lv .norm e m=den F clean hook s'.st s'.lv s'.x s'.env s'.m:=by
 show((bP (run F clean hook lv) lv c e m).bind fun r=>den F clean hook s lv r.1 r.2.1 r.2.2)=_;cases c with
 |skip=>(have q:=hih _ _ _ _ _ h;exact q)
 |ops l =>
  have:=zq l ih lv s e m hih h;rw[← this];show _=((aY (run F clean hook lv) l e m).bind fun q=>den F clean hook s lv .norm q.1 q.2);simp only[bP];cases aY (run F clean hook lv) l e m<;>rfl
 |drawn l bf =>
  obtain⟨loc,tbl,nx⟩:=m;change fN (Nat.add nx l.length) (fun nx'=>ih lv (.drw l bf l nx 0 e ⟨[],[⟨loc,tbl,nx'⟩],[],[],[]⟩::s) .norm [] ⟨[],[],0⟩)=some s' at h;rw[fN_eq] at h;have:=hih _ _ _ _ _ h;rw[← this];show _=((d8 (run F clean hook lv) bf nx (aH 0 l) e 0 l ⟨[],[⟨loc,tbl,nx+l.length⟩],[],[],[]⟩).bind fun Z'=>(lz bf nx e Z').bind fun r=>den F clean hook s lv .norm r.1 r.2);simp only[bP,eG,lz];cases d8 (run F clean hook lv) bf nx (aH 0 l) e 0 l ⟨[],[⟨loc,tbl,nx+l.length⟩],[],[],[]⟩ with
  |none=>rfl
  |some Z =>
   dsimp only[bm];cases bi bf Z Z.lds with
   |false=>rfl
   |true =>
    dsimp only[cond_true];cases Z.snaps<;>rfl
 |seq a b =>
  have:=hih _ _ _ _ _ h;rw[← this];show _=((bP (run F clean hook lv) lv a e m).bind fun r=>norm? r.1 ((bP (run F clean hook lv) lv b r.2.1 r.2.2).bind fun r=>den F clean hook s lv r.1 r.2.1 r.2.2) (den F clean hook s lv r.1 r.2.1 r.2.2));simp only[bP];rcases bP (run F clean hook lv) lv a e m with _|⟨x,e1,m1⟩
  ·rfl
  ·cases x<;>rfl
 |cond cnd a b =>
  change evK e cnd _=some s' at h;rw[evK_eq] at h;simp only[bP];cases hv:evo e cnd with
  |none=>rw[hv] at h;cases h
  |some v =>
   rw[hv,bm] at h;cases v with
   |bool bb=>cases bb<;>(have q:=hih _ _ _ _ _ h;exact q)
   |_=>cases h
 |block id a =>
  have:=hih _ _ _ _ _ h;rw[← this];show _=((bP (run F clean hook lv) lv a e m).bind fun r=>xX F clean hook (den F clean hook s) (.block id) lv r.1 r.2.1 r.2.2);simp only[bP];rcases bP (run F clean hook lv) lv a e m with _|⟨x,e1,m1⟩
  ·rfl
  ·cases x with
   |norm=>rfl
   |ret=>rfl
   |exit k =>
    simp only[bm,xX];cases Nat.beq k id<;>rfl
 |loop a =>
  cases lv with
  |zero=>cases h
  |succ j =>
   have:=hih _ _ _ _ _ h;rw[← this];show _=((bP (run F clean hook (j+1)) (j+1) a e m).bind fun r=>norm? r.1 ((ge (bP (run F clean hook (j+1)) (j+1) a) j (tidy j r.2.1 r.2.2).1 (tidy j r.2.1 r.2.2).2).bind fun r=>den F clean hook s (j+1) r.1 r.2.1 r.2.2) (den F clean hook s (j+1) r.1 r.2.1 r.2.2));show((ge (bP (run F clean hook (j+1)) (j+1) a) (j+1) e m).bind _)=_;simp only[ge];rcases bP (run F clean hook (j+1)) (j+1) a e m with _|⟨x,e1,m1⟩
   ·rfl
   ·cases x<;>rfl
 |exit id=>(have q:=hih _ _ _ _ _ h;exact q)
 |ret=>(have q:=hih _ _ _ _ _ h;exact q)
theorem L9(fr:Fm X)(ih:IH X)(lv:Nat)(s:List (Fm X))(x:Ex)(e:Env)(m:Mem X){s':Ms X}
  (hih:∀lv st x e m,ih lv st x e m=some s'→den F clean hook st lv x e m=den F clean hook s'.st s'.lv s'.x s'.env s'.m)
  (h:frM F clean hook fr s lv x e m ih=some s') :
  den F clean hook (fr::s) lv x e m=den F clean hook s'.st s'.lv s'.x s'.env s'.m:=by
 cases fr with
 |code c =>
  cases x with
  |norm=>exact DV c ih lv s e m hih h
  |exit k=>(have q:=hih _ _ _ _ _ h;exact q)
  |ret=>(have q:=hih _ _ _ _ _ h;exact q)
 |ops l =>
  cases x with
  |norm=>exact zq l ih lv s e m hih h
  |exit k=>(have q:=hih _ _ _ _ _ h;exact q)
  |ret=>(have q:=hih _ _ _ _ _ h;exact q)
 |loop c j =>
  cases x with
  |norm =>
   change sG j e m (fun e' m'=>(Nat.rec none (fun j' _=>ih lv (.code c::.loop c j'::s) .norm e' m') j:Option (Ms X)))=some s' at h;rw[uX] at h;cases j with
   |zero=>cases h
   |succ j =>
    have:=hih _ _ _ _ _ h;rw[← this];show((ge (bP (run F clean hook lv) lv c) (j+1) (tidy (j+1) e m).1 (tidy (j+1) e m).2).bind fun r=>den F clean hook s lv r.1 r.2.1 r.2.2)=((bP (run F clean hook lv) lv c (tidy (j+1) e m).1 (tidy (j+1) e m).2).bind fun r=>norm? r.1 ((ge (bP (run F clean hook lv) lv c) j (tidy j r.2.1 r.2.2).1 (tidy j r.2.1 r.2.2).2).bind fun r=>den F clean hook s lv r.1 r.2.1 r.2.2) (den F clean hook s lv r.1 r.2.1 r.2.2));generalize(tidy (j+1) e m).1=e0;generalize(tidy (j+1) e m).2=m0;simp only[ge];rcases bP (run F clean hook lv) lv c e0 m0 with _|⟨x,e1,m1⟩
    ·rfl
    ·cases x<;>rfl
  |exit k=>(have q:=hih _ _ _ _ _ h;exact q)
  |ret=>(have q:=hih _ _ _ _ _ h;exact q)
 |block id =>
  cases x with
  |norm=>(have q:=hih _ _ _ _ _ h;exact q)
  |ret=>(have q:=hih _ _ _ _ _ h;exact q)
  |exit k =>
   change (Bool.rec (ih lv s (.exit k) e m) (ih lv s .norm e m) (Nat.beq k id):Option (Ms X))=some s' at h;show(bif Nat.beq k id then den F clean hook s lv .norm e m else den F clean hook s lv (.exit k) e m)=_;cases hb:Nat.beq k id<;>rw[hb] at h<;>(have q:=hih _ _ _ _ _ h;exact q)
 |ret f lv0 d e0 l0 nx res =>
  have key:pm (clean f) nx res e m (fun v h=>Hp.rec (fun tbl' nx'=>ih lv0 s .norm (bD d v e0) ⟨l0,tbl',nx'⟩) h)=some s'→((Ds (clean f) nx res e m).bind fun r=>den F clean hook s lv0 .norm (bD d r.1 e0) ⟨l0,r.2.tbl,r.2.next⟩)=den F clean hook s'.st s'.lv s'.x s'.env s'.m:=by
   intro h;rw[uo] at h;change (Ds (clean f) nx res e m).bind _=some s' at h;cases hv:Ds (clean f) nx res e m with
   |none=>rw[hv] at h;cases h
   |some q =>
    obtain⟨v,tb,nx'⟩:=q;rw[hv] at h
    (have q:=hih _ _ _ _ _ h;exact q)
  cases x with
  |norm=>exact key h
  |ret=>exact key h
  |exit k=>cases h
 |drw l0 bf l base j e0 Z =>
  cases x with
  |norm=>exact HR l0 bf l base j e0 Z ih lv s e m hih h
  |exit k=>(have q:=hih _ _ _ _ _ h;exact q)
  |ret=>(have q:=hih _ _ _ _ _ h;exact q)
 |drc l0 bf l base j d e0 Z =>
  cases x with
  |norm =>
   change gC 0 e none (fun v=>fN (Nat.succ j) fun j'=>ih lv (.drw l0 bf l base j' e0 ⟨(j,d,v)::Z.vals,m::Z.snaps,j::Z.chain,Z.fls,Z.lds⟩::s) .norm [] ⟨[],[],0⟩)=some s' at h;rw[gw] at h;show((aa 0 e).bind fun v=>(d8 (run F clean hook lv) bf base (aH 0 l0) e0 (Nat.succ j) l (Z.next j d v m)).bind fun Z'=>(lz bf base e0 Z').bind fun r=>den F clean hook s lv .norm r.1 r.2)=_;cases hv:aa 0 e with
   |none=>rw[hv] at h;cases h
   |some v =>
    rw[hv] at h;dsimp only at h;rw[fN_eq] at h
    (have q:=hih _ _ _ _ _ h;exact q)
  |exit k=>(have q:=hih _ _ _ _ _ h;exact q)
  |ret=>(have q:=hih _ _ _ _ _ h;exact q)
theorem wZ:∀(n lv:Nat) (st:List (Fm X)) (x:Ex) (e:Env) (m:Mem X) (s':Ms X),Gn F clean hook n lv st x e m=some s'→den F clean hook st lv x e m=den F clean hook s'.st s'.lv s'.x s'.env s'.m
 |0,lv,st,x,e,m,s',h=>by
  change some (Ms.mk lv st x e m)=some s' at h;injection h with h;subst h;rfl
 |n+1,lv,st,x,e,m,s',h=>by
  cases st with
  |nil =>
   change some (Ms.mk lv [] x e m)=some s' at h;injection h with h;subst h;rfl
  |cons fr s=>exact L9 fr (Gn F clean hook n) lv s x e m (fun lv st x e m h=>wZ n lv st x e m s' h) h
def Ms.den(F:Nat→Option IFn)(clean:Nat→Bool)(hook:dS X)(s:Ms X):Option (Value×Hp X):=AI.den F clean hook s.st s.lv s.x s.env s.m
def bQ(F:Nat→Option IFn)(clean:Nat→Bool)(hook:dS X)(n:Nat)(s:Ms X):Option (Ms X):=Ms.rec (fun lv st x e m=>Gn F clean hook n lv st x e m) s
theorem aE{n:Nat}{s s':Ms X}(h:bQ F clean hook n s=some s'):s.den F clean hook=s'.den F clean hook:=by
 obtain⟨lv,st,x,e,m⟩:=s;exact wZ n lv st x e m s' h
def Ms.call(lv f:Nat)(h:Hp X):Ms X:=⟨lv,[.ops [(none,.call (some 0) (.c (.func (.func f) #[] #[])) [])]],.norm,[],⟨[],h.tbl,h.next⟩⟩
theorem Ms.e(lv f:Nat)(h:Hp X):(Ms.call lv f h).den F clean hook=run F clean hook lv f [] h:=by
 show((aY (run F clean hook lv) [(none,.call (some 0) (.c (.func (.func f) #[] #[])) [])] [] ⟨[],h.tbl,h.next⟩).bind fun q=>(aa 0 q.1).map fun v=>(v,(⟨q.2.tbl,q.2.next⟩:Hp X)))=_;simp only[aY,wanted,bh,evo,evs,List.append_nil];show(match(match run F clean hook lv f [] h with|some (v,h)=>some (v,(⟨[],h.tbl,h.next⟩:Mem X))|none=>none) with|some (v,m')=>some (bD (some 0) v [],m')|none=>none).bind _=_;cases run F clean hook lv f [] h<;>rfl
theorem Ms.a{lv:Nat}{x:Ex}{e:Env}{m:Mem X}{v:Value}(h:aa 0 e=some v):(Ms.mk lv [] x e m).den F clean hook=some (v,⟨m.tbl,m.next⟩):=by
 show(aa 0 e).map _=_;rw[h];rfl
end
end
end Go.AI
namespace Go.AI
def vb(n:Nat):Value:=.int .u8 (.ofNat n)
def vi(n:Nat):Value:=.int .i64 (.ofNat n)
def vw(n:Nat):Value:=.int .u64 (.ofNat n)
def vp(b o:Nat):Value:=.pointer (some ⟨b,o,none⟩)
def ap(l r:List Value):List Value:=List.rec r (fun x _ ih=>x::ih) l
def yC:List Nat→ICode→ICode
 |[],c=>c
 |k::p,.seq a b=>bif Nat.beq k 0 then yC p a else yC p b
 |k::p,.cond _ a b=>bif Nat.beq k 0 then yC p a else yC p b
 |_::p,.block _ a=>yC p a
 |_::p,.loop a=>yC p a
 |_,c=>c
def cdF(F:Nat→Option IFn)(f:Nat)(p:List Nat):ICode:=match F f with
 |some fn=>yC p fn.code
 |none=>.skip
def cdO(F:Nat→Option IFn)(f:Nat)(p:List Nat)(k:Nat):List (Option (Nat×Bool)×IOp):=match cdF F f p with
 | .ops l=>l.drop k
 |_=>[]
def cdR(F:Nat→Option IFn)(f:Nat):List IRes:=match F f with
 |some fn=>fn.res
 |none=>[]
def cdD(F:Nat→Option IFn)(f:Nat)(p:List Nat):List (Option (Nat×Bool)×IOp):=match cdF F f p with
 | .drawn l _=>l
 |_=>[]
def cdB(F:Nat→Option IFn)(f:Nat)(p:List Nat):List (List Nat):=match cdF F f p with
 | .drawn _ b=>b
 |_=>[]
end Go.AI
