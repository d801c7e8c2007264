/- The evaluator once more, so written that the kernel reckons quickly; it answers as the other one. No program is named here. -/
import Derived.Test.YtohdfkipbgnkoaaGreatDoorKCo
noncomputable section
namespace Go.AI
section
variable {α β:Type}
theorem bm(v:α)(k:α→Option β):(some v).bind k=k v:=rfl
def ob(o:Option α)(k:α→Option β):Option β:=Option.rec none k o
@[simp] theorem ob_eq (o:Option α) (k:α→Option β):ob o k=o.bind k:=by cases o<;>rfl
def Py(b:Bool)(x y:β):β:=Bool.rec y x b
@[simp] theorem ite'_eq (b:Bool) (x y:β):Py b x y=bif b then x else y:=by cases b<;>rfl
def fN(n:Nat)(k:Nat→β):β:=Nat.rec (k 0) (fun m _=>k (Nat.succ m)) n
@[simp] theorem fN_eq (n:Nat) (k:Nat→β):fN n k=k n:=by cases n<;>rfl
def fI(n:Int)(k:Int→β):β:=Int.rec (fun m=>fN m fun m=>k (.ofNat m)) (fun m=>fN m fun m=>k (.negSucc m)) n
@[simp] theorem fI_eq (n:Int) (k:Int→β):fI n k=k n:=by cases n<;>simp[fI]
def Bu(d:β)(f:IntKind→Int→β)(v:Value):β :=
 @Value.rec (fun _=>β) (fun _=>PUnit) (fun _=>PUnit) (fun _=>d) f (fun _ _=>d) (fun _ _ _=>d) (fun _=>d) (fun _=>d) (fun _ _ _=>d) (fun _=>d) (fun _=>d) (fun _ _ _ _ _=>d) d (fun _ _ _=>d) d (fun _ _=>d) (fun _ _=>d) (fun _ _=>⟨⟩) ⟨⟩ (fun _ _ _ _=>⟨⟩) v
def vo(d:β)(f:Bool→β)(v:Value):β :=
 @Value.rec (fun _=>β) (fun _=>PUnit) (fun _=>PUnit) f (fun _ _=>d) (fun _ _=>d) (fun _ _ _=>d) (fun _=>d) (fun _=>d) (fun _ _ _=>d) (fun _=>d) (fun _=>d) (fun _ _ _ _ _=>d) d (fun _ _ _=>d) d (fun _ _=>d) (fun _ _=>d) (fun _ _=>⟨⟩) ⟨⟩ (fun _ _ _ _=>⟨⟩) v
def ut(d:β)(f:Option Addr→β)(v:Value):β :=
 @Value.rec (fun _=>β) (fun _=>PUnit) (fun _=>PUnit) (fun _=>d) (fun _ _=>d) (fun _ _=>d) (fun _ _ _=>d) (fun _=>d) f (fun _ _ _=>d) (fun _=>d) (fun _=>d) (fun _ _ _ _ _=>d) d (fun _ _ _=>d) d (fun _ _=>d) (fun _ _=>d) (fun _ _=>⟨⟩) ⟨⟩ (fun _ _ _ _=>⟨⟩) v
def N9(d:β)(f:Option Addr→Nat→Nat→β)(v:Value):β :=
 @Value.rec (fun _=>β) (fun _=>PUnit) (fun _=>PUnit) (fun _=>d) (fun _ _=>d) (fun _ _=>d) (fun _ _ _=>d) (fun _=>d) (fun _=>d) f (fun _=>d) (fun _=>d) (fun _ _ _ _ _=>d) d (fun _ _ _=>d) d (fun _ _=>d) (fun _ _=>d) (fun _ _=>⟨⟩) ⟨⟩ (fun _ _ _ _=>⟨⟩) v
def LI(d:β)(f:Fn→Array Value→β)(v:Value):β :=
 @Value.rec (fun _=>β) (fun _=>PUnit) (fun _=>PUnit) (fun _=>d) (fun _ _=>d) (fun _ _=>d) (fun _ _ _=>d) (fun _=>d) (fun _=>d) (fun _ _ _=>d) (fun _=>d) (fun _=>d) (fun g _ c _ _=>f g c) d (fun _ _ _=>d) d (fun _ _=>d) (fun _ _=>d) (fun _ _=>⟨⟩) ⟨⟩ (fun _ _ _ _=>⟨⟩) v
def Ok(d:β)(f:Array Value→β)(v:Value):β :=
 @Value.rec (fun _=>β) (fun _=>PUnit) (fun _=>PUnit) (fun _=>d) (fun _ _=>d) (fun _ _=>d) (fun _ _ _=>d) (fun _=>d) (fun _=>d) (fun _ _ _=>d) (fun _=>d) (fun _=>d) (fun _ _ _ _ _=>d) d (fun _ _ _=>d) d (fun c _=>f c) (fun _ _=>d) (fun _ _=>⟨⟩) ⟨⟩ (fun _ _ _ _=>⟨⟩) v
def PT(d:β)(f:Array Value→β)(v:Value):β :=
 @Value.rec (fun _=>β) (fun _=>PUnit) (fun _=>PUnit) (fun _=>d) (fun _ _=>d) (fun _ _=>d) (fun _ _ _=>d) (fun _=>d) (fun _=>d) (fun _ _ _=>d) (fun _=>d) (fun _=>d) (fun _ _ _ _ _=>d) d (fun _ _ _=>d) d (fun _ _=>d) (fun c _=>f c) (fun _ _=>⟨⟩) ⟨⟩ (fun _ _ _ _=>⟨⟩) v
def jz(d:β)(ag:List Value→β)(f:Value→β)(v:Value):β :=
 @Value.rec (fun _=>β) (fun _=>PUnit) (fun _=>PUnit) (fun _=>f v) (fun _ _=>f v) (fun _ _=>f v) (fun _ _ _=>f v) (fun _=>f v) (fun _=>f v) (fun _ _ _=>f v) (fun _=>f v) (fun _=>f v) (fun _ _ _ _ _=>f v) (f v) (fun _ _ _=>f v) (f v) (fun c _=>Array.rec ag c) (fun _ _=>d) (fun _ _=>⟨⟩) ⟨⟩ (fun _ _ _ _=>⟨⟩) v
def fV(v:Value)(k:Value→β):β:=Bu (k v) (fun d n=>fI n fun n=>k (.int d n)) v
@[simp] theorem fV_eq (v:Value) (k:Value→β):fV v k=k v:=by cases v<;>simp[fV,Bu]
def gC(n:Nat)(l:List (Nat×α))(d:β)(k:α→β):β :=
 List.rec d (fun x _ ih=>Prod.rec (fun s v=>Bool.rec ih (k v) (Nat.beq n s)) x) l
theorem gw(n:Nat)(d:β)(k:α→β):∀l,gC n l d k=match aa n l with|some v=>k v|none=>d
 |[]=>rfl
 |(s,v)::r=>by
  have ih:=gw n d k r;show(Bool.rec (gC n r d k) (k v) (Nat.beq n s):β)=match(bif Nat.beq n s then some v else aa n r) with|some v=>k v|none=>d
  cases Nat.beq n s with
  |true=>rfl
  |false=>exact ih
def evK(env:LV)(o:Opd)(k:Value→Option β):Option β:=Opd.rec (fun n=>gC n env none k) k o
@[simp] theorem evK_eq (env:LV) (o:Opd) (k:Value→Option β):evK env o k=(evo env o).bind k:=by
 cases o with
 |t n=>show gC n env none k=(aa n env).bind k;rw[gw];cases aa n env<;>rfl
 |c v=>rfl
def vt(env:LV)(l:List Opd):(List Value→Option β)→Option β :=
 List.rec (fun k=>k []) (fun x _ ih k=>evK env x fun v=>ih fun s=>k (v::s)) l
@[simp] theorem evsK_eq (env:LV):∀(l:List Opd) (k:List Value→Option β),vt env l k=(evs env l).bind k
 |[],k=>rfl
 |x::r,k=>by
  show evK env x (fun v=>vt env r fun s=>k (v::s))=_;rw[evK_eq];unfold evs;cases evo env x with
  |none=>rfl
  |some v =>
   show vt env r _=_;rw[evsK_eq env r];cases evs env r<;>rfl
def kIx(k:IntKind):Nat:=IntKind.rec 0 1 2 3 4 5 6 7 k
def kEq(j k:IntKind):Bool:=Nat.beq (kIx j) (kIx k)
theorem Hn(j k:IntKind):kEq j k=decide (j=k):=by cases j<;>cases k<;>rfl
def Ke(k:IntKind):Nat:=IntKind.rec 128 32768 2147483648 9223372036854775808 128 32768 2147483648 9223372036854775808 k
theorem Gi(k:IntKind):Ke k=jk k:=by cases k<;>rfl
def od(kd:IntKind)(m:Nat)(k:Value→Option β):Option β :=
 Bool.rec (fI (ai kd (.ofNat m)) fun n=>k (.int kd n)) (fN m fun m=>k (.int kd (.ofNat m))) (Nat.ble (Nat.succ m) (Ke kd))
theorem kV(kd:IntKind)(m:Nat)(k:Value→Option β):od kd m k=k (.int kd (ai kd (.ofNat m))):=by
 unfold od;rw[Gi];cases h:Nat.ble (Nat.succ m) (jk kd) with
 |true =>
  have:Nat.blt m (jk kd)=true:=h;simp[ai,this]
 |false=>simp
def jT(v:Option Value)(k:Value→Option β):Option β:=Option.rec none (fun v=>fV v k) v
@[simp] theorem slowK_eq (v:Option Value) (k:Value→Option β):jT v k=v.bind k:=by cases v<;>simp[jT]
def nn(x y:Int)(d:β)(f:Nat→Nat→β):β:=Int.rec (fun a=>Int.rec (fun b=>f a b) (fun _=>d) y) (fun _=>d) x
def P9(ka:IntKind)(x:Int)(kb:IntKind)(y:Int)(k:Value→Option β):Option β :=
 Bool.rec none (nn x y (jT (bF .add ka x kb y) k) fun a b=>od ka (Nat.add a b) k) (kEq ka kb)
def PV(ka:IntKind)(x:Int)(kb:IntKind)(y:Int)(k:Value→Option β):Option β :=
 Bool.rec none (nn x y (jT (bF .sub ka x kb y) k) fun a b=>Bool.rec (jT (bF .sub ka x kb y) k) (od ka (Nat.sub a b) k) (Nat.ble b a)) (kEq ka kb)
def P7(ka:IntKind)(x:Int)(kb:IntKind)(y:Int)(k:Value→Option β):Option β :=
 Bool.rec none (nn x y (jT (bF .mul ka x kb y) k) fun a b=>od ka (Nat.mul a b) k) (kEq ka kb)
def bK(b:Bool)(k:Value→Option β):Option β:=Bool.rec (k (.bool false)) (k (.bool true)) b
def Pu(ka:IntKind)(x:Int)(kb:IntKind)(y:Int)(k:Value→Option β):Option β :=
 Bool.rec none (nn x y (bK (eY x y) k) fun a b=>bK (Nat.ble (Nat.succ a) b) k) (kEq ka kb)
def Pq(ka:IntKind)(x:Int)(kb:IntKind)(y:Int)(k:Value→Option β):Option β :=
 Bool.rec none (nn x y (bK (eY y x) k) fun a b=>bK (Nat.ble (Nat.succ b) a) k) (kEq ka kb)
def PP(ka:IntKind)(x:Int)(kb:IntKind)(y:Int)(k:Value→Option β):Option β :=
 Bool.rec none (nn x y (bK (!eY y x) k) fun a b=>bK (Nat.ble a b) k) (kEq ka kb)
def Pf(ka:IntKind)(x:Int)(kb:IntKind)(y:Int)(k:Value→Option β):Option β :=
 Bool.rec none (nn x y (bK (!eY x y) k) fun a b=>bK (Nat.ble b a) k) (kEq ka kb)
def Pi(ka:IntKind)(x:Int)(kb:IntKind)(y:Int)(k:Value→Option β):Option β :=
 Bool.rec none (nn x y (bK (bz x y) k) fun a b=>bK (Nat.beq a b) k) (kEq ka kb)
def Pp(ka:IntKind)(x:Int)(kb:IntKind)(y:Int)(k:Value→Option β):Option β :=
 Bool.rec none (nn x y (bK (!bz x y) k) fun a b=>Bool.rec (k (.bool true)) (k (.bool false)) (Nat.beq a b)) (kEq ka kb)
def pe(op:BinOp)(ka:IntKind)(x:Int)(kb:IntKind)(y:Int)(k:Value→Option β):Option β:=jT (bF op ka x kb y) k
def OD(op:BinOp):IntKind→Int→IntKind→Int→(Value→Option β)→Option β :=
 BinOp.rec P9 PV P7 (pe .quo) (pe .rem) (pe .and) (pe .or) (pe .xor) (pe .shl) (pe .shr) (pe .andNot) Pi Pp Pu PP Pq Pf op
@[simp] theorem bK_eq (b:Bool) (k:Value→Option β):bK b k=k (.bool b):=by cases b<;>rfl
theorem mP{x y:Int}{d:β}{f:Nat→Nat→β}{r:β}(hd:d=r)(hf:∀a b,x = .ofNat a→y = .ofNat b→f a b=r):nn x y d f=r:=by
 cases x with
 |ofNat a=>cases y with
  |ofNat b=>exact hf a b rfl rfl
  |negSucc b=>exact hd
 |negSucc a=>exact hd
theorem eD{ka kb:IntKind}{x y r:β}(h:ka=kb→x=r)(h':ka≠kb→y=r):(Bool.rec y x (kEq ka kb):β)=r:=by
 rw[Hn];by_cases e:ka=kb
 ·simp only[e,decide_true];exact h e
 ·simp only[e,decide_false];exact h' e
theorem GD(a b:Nat):(!Nat.blt b a)=Nat.ble a b:=by
 show(!Nat.ble (Nat.succ b) a)=Nat.ble a b;cases h:Nat.ble a b with
 |true=>rw[Zk] at h;simp only[Bool.not_eq_true'];rw[← Zl,Zk];omega
 |false=>rw[← Zl,Zk] at h;simp only[Bool.not_eq_false'];rw[Zk];omega
theorem H5(op:BinOp)(ka:IntKind)(x:Int)(kb:IntKind)(y:Int)(k:Value→Option β):OD op ka x kb y k=(bF op ka x kb y).bind k:=by
 have cm:∀{p:Prop} [Decidable p] {v:Value},¬p→(if p then some v else none).bind k=none:=by intro p _ v h;rw[if_neg h];rfl
 have cp:∀{p:Prop} [Decidable p] {v:Value},p→(if p then some v else none).bind k=k v:=by intro p _ v h;rw[if_pos h];rfl
 cases op with
 |quo=>exact slowK_eq _ _
 |rem=>exact slowK_eq _ _
 |and=>exact slowK_eq _ _
 |or=>exact slowK_eq _ _
 |xor=>exact slowK_eq _ _
 |shl=>exact slowK_eq _ _
 |shr=>exact slowK_eq _ _
 |andNot=>exact slowK_eq _ _
 |add =>
  refine eD (fun e=>mP (slowK_eq _ _) fun a b hx hy=>?_) fun e=>(cm e).symm
  subst hx hy;rw[kV];exact(cp e).symm
 |sub =>
  refine eD (fun e=>mP (slowK_eq _ _) fun a b hx hy=>?_) fun e=>(cm e).symm
  subst hx hy;cases h:Nat.ble b a with
  |false=>exact slowK_eq _ _
  |true =>
   rw[Zk] at h;refine(kV _ _ _).trans ?_;refine Eq.trans ?_ (cp e).symm;rw[show(Int.ofNat (Nat.sub a b))=(Int.ofNat a-Int.ofNat b) from Int.ofNat_sub h]
 |mul =>
  refine eD (fun e=>mP (slowK_eq _ _) fun a b hx hy=>?_) fun e=>(cm e).symm
  subst hx hy;rw[kV];exact(cp e).symm
 |eql =>
  refine eD (fun e=>mP ((bK_eq _ _).trans (cp e).symm) fun a b hx hy=>?_) fun e=>(cm e).symm
  subst hx hy;rw[bK_eq];exact(cp e).symm
 |neq =>
  refine eD (fun e=>mP ((bK_eq _ _).trans (cp e).symm) fun a b hx hy=>?_) fun e=>(cm e).symm
  subst hx hy;refine Eq.trans ?_ (cp e).symm;show _=k (.bool (!Nat.beq a b));cases Nat.beq a b<;>rfl
 |lss =>
  refine eD (fun e=>mP ((bK_eq _ _).trans (cp e).symm) fun a b hx hy=>?_) fun e=>(cm e).symm
  subst hx hy;rw[bK_eq];exact(cp e).symm
 |gtr =>
  refine eD (fun e=>mP ((bK_eq _ _).trans (cp e).symm) fun a b hx hy=>?_) fun e=>(cm e).symm
  subst hx hy;rw[bK_eq];exact(cp e).symm
 |leq =>
  refine eD (fun e=>mP ((bK_eq _ _).trans (cp e).symm) fun a b hx hy=>?_) fun e=>(cm e).symm
  subst hx hy;rw[bK_eq,← GD];exact(cp e).symm
 |geq =>
  refine eD (fun e=>mP ((bK_eq _ _).trans (cp e).symm) fun a b hx hy=>?_) fun e=>(cm e).symm
  subst hx hy;rw[bK_eq,← GD];exact(cp e).symm
def O4(op:BinOp)(e:EqK)(a b:Value)(k:Value→Option β):Option β :=
 Bu (jT (bu op e a b) k) (fun ka x=>Bu (jT (bu op e a b) k) (fun kb y=>OD op ka x kb y k) b) a
theorem Ie(op:BinOp)(e:EqK)(a b:Value)(k:Value→Option β):O4 op e a b k=(bu op e a b).bind k:=by
 cases a<;>first|exact slowK_eq _ _|skip
 cases b<;>first|exact slowK_eq _ _|skip
 exact H5 ..
end
end Go.AI
namespace Go.AI
section
variable {β:Type}
theorem nV{γ:Type}(v:Value)(k:List Value→Option γ):jz none k (fun v=>k [v]) v=(cR v).bind k:=by
 cases v<;>try rfl
def zH(cs:List Value):Nat→List Value :=
 List.rec (fun _=>[]) (fun x r ih n=>Bool.rec (ih (Nat.sub n 1)) (x::r) (Nat.beq n 0)) cs
theorem wP:∀(cs:List Value) (n:Nat),zH cs n=cs.drop n
 |[],n=>by simp[zH]
 |x::r,0=>rfl
 |x::r,n+1=>wP r n
def zu(cs:List Value):Nat→(List Value→Option β)→Option β :=
 List.rec (fun n k=>Bool.rec none (k []) (Nat.beq n 0)) (fun x _ ih n k=>Bool.rec (ih (Nat.sub n 1) fun s=>k (x::s)) (k []) (Nat.beq n 0)) cs
theorem wj:∀(cs:List Value) (n:Nat) (k:List Value→Option β),zu cs n k=bif Nat.beq (cs.take n).length n then k (cs.take n) else none
 |[],0,k=>rfl
 |[],n+1,k=>by
  show none=bif Nat.beq 0 (n+1) then _ else _;rfl
 |x::r,0,k=>rfl
 |x::r,n+1,k=>by
  show zu r n (fun s=>k (x::s))=bif Nat.beq ((r.take n).length+1) (n+1) then _ else _;rw[wj r n];rfl
def xT(cs:List Value):Nat→(Value→Option β)→Option β :=
 List.rec (fun _ _=>none) (fun x _ ih n k=>Bool.rec (ih (Nat.sub n 1) k) (k x) (Nat.beq n 0)) cs
theorem ul:∀(cs:List Value) (n:Nat) (k:Value→Option β),xT cs n k=(cs[n]?).bind k
 |[],n,k=>by simp[xT]
 |x::r,0,k=>rfl
 |x::r,n+1,k=>by
  show xT r n k=_;rw[ul r n k];simp
def tf(vs:List Value):List Value→(List Value→Option β)→Option β :=
 List.rec (fun cs k=>k cs) (fun v _ ih cs k=>List.rec none (fun _ cs' _=>ih cs' fun s=>k (v::s)) cs) vs
theorem qj:∀(vs cs:List Value) (k:List Value→Option β),tf vs cs k=bif Nat.ble vs.length cs.length then k (over cs vs) else none
 |[],cs,k=>by
  have:Nat.ble ([]:List Value).length cs.length=true:=by rw[Zk];exact Nat.zero_le _
  rw[this];cases cs<;>rfl
 |v::vs,[],k=>by
  have:Nat.ble (v::vs).length ([]:List Value).length=false:=by rw[← Zl,Zk];simp
  rw[this];rfl
 |v::vs,c::cs,k=>by
  show tf vs cs (fun s=>k (v::s))=_;rw[qj vs cs];rfl
def cW(cs:List Value):Nat→List Value→(List Value→Option β)→Option β :=
 List.rec (fun n vs k=>Bool.rec none (tf vs [] k) (Nat.beq n 0)) (fun c cs' ih n vs k=>Bool.rec (ih (Nat.sub n 1) vs fun s=>k (c::s)) (tf vs (c::cs') k) (Nat.beq n 0)) cs
theorem gT:∀(cs:List Value) (n:Nat) (vs:List Value) (k:List Value→Option β),cW cs n vs k=bif Nat.ble (n+vs.length) cs.length then k (aT cs n vs) else none
 |[],0,vs,k=>by
  show tf vs [] k=_;rw[qj,ZB];rfl
 |[],n+1,vs,k=>by
  have:Nat.ble (n+1+vs.length) ([]:List Value).length=false:=by rw[← Zl,Zk];simp
  rw[this];rfl
 |c::cs,0,vs,k=>by
  show tf vs (c::cs) k=_;rw[qj,ZB];rfl
 |c::cs,n+1,vs,k=>by
  show cW cs n vs (fun s=>k (c::s))=_;rw[gT cs n vs];have:Nat.ble (n+1+vs.length) (c::cs).length=Nat.ble (n+vs.length) cs.length:=by
   rw[show n+1+vs.length=(n+vs.length)+1 by omega];rfl
  rw[this];rfl
def rB(g:Bool)(cs:List Value)(off n:Nat)(k:Value→Option β):Option β :=
 Bool.rec (Bool.rec (ob (bg cs off n) fun r=>ob (dy g r) k) (xT cs off k) (Nat.beq n 1)) (zu (zH cs off) n fun r=>k (.agg ⟨r⟩)) g
theorem lq(g:Bool)(cs:List Value)(off n:Nat)(k:Value→Option β):rB g cs off n k=(bg cs off n).bind fun r=>(dy g r).bind k:=by
 cases g with
 |true =>
  show zu (zH cs off) n _=_;rw[wj,wP];simp only[bg];cases Nat.beq ((cs.drop off).take n).length n<;>rfl
 |false =>
  show(Bool.rec (ob (bg cs off n) fun r=>ob (dy false r) k) (xT cs off k) (Nat.beq n 1):Option β)=_;cases h:Nat.beq n 1 with
  |false=>show ob _ _=_;simp
  |true =>
   rw[Zg] at h;subst h;show xT cs off k=_;rw[ul];unfold bg;rcases ZA off cs.length with hl|hl
   ·rw[Zm hl,List.drop_eq_getElem_cons hl];rfl
   ·rw[ZD hl,List.drop_eq_nil_of_le hl];rfl
def mQ(env:LV)(ps:List (Nat×Nat×Opd)):List Value→(List Value→Option β)→Option β :=
 List.rec (fun cs k=>k cs) (fun p _ ih cs k=>Prod.rec (fun off nx=>Prod.rec (fun n x=>evK env x fun v=>jz none (fun vs=>Bool.rec none (cW cs off vs fun cs'=>ih cs' k) (Nat.beq vs.length n)) (fun v=>Bool.rec none (cW cs off [v] fun cs'=>ih cs' k) (Nat.beq 1 n)) v) nx) p) ps
theorem vV(env:LV):∀(ps:List (Nat×Nat×Opd)) (cs:List Value) (k:List Value→Option β),mQ env ps cs k=(jS env cs ps).bind k
 |[],cs,k=>by cases cs<;>rfl
 |(off,n,x)::r,cs,k=>by
  show evK env x (fun v=>jz none (fun vs=>Bool.rec none (cW cs off vs fun cs'=>mQ env r cs' k) (Nat.beq vs.length n)) (fun v=>Bool.rec none (cW cs off [v] fun cs'=>mQ env r cs' k) (Nat.beq 1 n)) v)=_;rw[evK_eq];have hb:jS env cs ((off,n,x)::r)=match evo env x with
   |some v=>match cR v with
    |some vs=>bif Nat.beq vs.length n&&Nat.ble (off+n) cs.length then jS env (aT cs off vs) r else none
    |none=>none
   |none=>none:=by cases cs<;>rfl
  rw[hb];cases evo env x with
  |none=>rfl
  |some v =>
   show jz none (fun vs=>Bool.rec none (cW cs off vs fun cs'=>mQ env r cs' k) (Nat.beq vs.length n)) (fun v=>Bool.rec none (cW cs off [v] fun cs'=>mQ env r cs' k) (Nat.beq 1 n)) v=_;have:=nV v (fun vs=>(Bool.rec none (cW cs off vs fun cs'=>mQ env r cs' k) (Nat.beq vs.length n):Option β));refine Eq.trans this ?_;simp only;cases cR v with
   |none=>rfl
   |some vs =>
    show(Bool.rec none (cW cs off vs fun cs'=>mQ env r cs' k) (Nat.beq vs.length n):Option β)=(bif Nat.beq vs.length n&&Nat.ble (off+n) cs.length then jS env (aT cs off vs) r else none).bind k;cases h:Nat.beq vs.length n with
    |false=>rfl
    |true =>
     rw[Zg] at h;show cW cs off vs (fun cs'=>mQ env r cs' k)=_;rw[gT,h];cases Nat.ble (off+n) cs.length with
     |false=>rfl
     |true=>exact vV env r _ k
def sel(g:Bool)(n:Nat):Nat:=Bool.rec 1 n g
theorem G8(g:Bool)(n:Nat):sel g n=bif g then n else 1:=by cases g<;>rfl
abbrev PK(β:Type):=LV→(Value→Option β)→Option β
def mO(p:PureOp):PK β:=fun env k=>jT (aw env p) k
def pMv(x:Opd):PK β:=fun env k=>evK env x k
def Nv(c a b:Opd):PK β:=fun env k=>evK env c (vo none (Bool.rec (evK env b k) (evK env a k)))
def Qc(op:BinOp)(e:EqK)(x y:Opd):PK β:=fun env k=>evK env x fun a=>evK env y fun b=>O4 op e a b k
def PM(x:Opd):PK β:=fun env k=>evK env x (vo none (Bool.rec (k (.bool true)) (k (.bool false))))
def OI(kd:IntKind)(x:Opd):PK β:=fun env k=>evK env x (Bu none fun _ n=>Int.rec (fun m=>od kd m k) (fun m=>jT (some (.int kd (ai kd (.negSucc m)))) k) n)
def P6(x:Opd):PK β:=fun env k=>evK env x fun v=>ut none (Option.rec none fun _=>k v) v
def adN(d:β)(f:Nat→Nat→β)(a:Option Addr):β:=Option.rec d (fun a=>Addr.rec (fun b o s=>Option.rec (f b o) (fun _=>d) s) a) a
def Nf(off:Nat)(x:Opd):PK β:=fun env k=>evK env x (ut none (adN none fun b o=>fN (Nat.add o off) fun o=>k (.pointer (some ⟨b,o,none⟩))))
def inN(n:Nat)(f:Nat→Option β)(v:Value):Option β:=Bu none (fun _ i=>Int.rec (fun m=>Bool.rec none (f m) (Nat.ble (Nat.succ m) n)) (fun _=>none) i) v
def Oh(e:Nat)(x i:Opd):PK β:=fun env k=>evK env x (N9 none fun a len _=>Option.rec none (fun a=>Addr.rec (fun b o _=>evK env i (inN len fun m=>fN (Nat.add o (Nat.mul m e)) fun o=>k (.pointer (some ⟨b,o,none⟩)))) a) a)
def NL(n e:Nat)(x i:Opd):PK β:=fun env k=>evK env x (ut none (adN none fun b o=>evK env i (inN n fun m=>fN (Nat.add o (Nat.mul m e)) fun o=>k (.pointer (some ⟨b,o,none⟩)))))
def O5(n e:Nat)(g:Bool)(x i:Opd):PK β:=fun env k=>evK env x (Ok none (Array.rec fun cs=>evK env i (inN n fun m=>rB g cs (Nat.mul m e) (sel g e) k)))
def P0(off n:Nat)(g:Bool)(x:Opd):PK β:=fun env k=>evK env x (Ok none (Array.rec fun cs=>rB g cs off (sel g n) k))
def PR(i:Nat)(x:Opd):PK β:=fun env k=>evK env x (PT none (Array.rec fun cs=>xT cs i k))
def Kw(z:List Value)(ps:List (Nat×Nat×Opd)):PK β:=fun env k=>mQ env ps z fun cs=>k (.agg ⟨cs⟩)
def PJ(x:Opd):PK β:=fun env k=>evK env x (N9 none fun _ n _=>fN n fun n=>k (.int .i64 (.ofNat n)))
def pK(p:PureOp):PK β :=
 PureOp.rec pMv Nv Qc PM (fun x=>mO (.neg x)) (fun x=>mO (.com x)) OI (fun x=>mO (.same x)) (fun x a b=>mO (.slS x a b)) (fun e x a b c=>mO (.slL e x a b c)) (fun n e x a b c=>mO (.slA n e x a b c))
  P6 Nf Oh NL (fun x i=>mO (.idxS x i)) O5 P0 PR (fun f cs=>mO (.mkfn f cs)) Kw PJ (fun x=>mO (.lens x)) (fun n=>mO (.alen n)) (fun x=>mO (.cap x)) (fun xs=>mO (.max xs)) (fun xs=>mO (.min xs)) p
theorem eC(p:PureOp)(env:LV)(k:Value→Option β):mO p env k=(aw env p).bind k:=slowK_eq _ _
theorem xV(n:Nat)(f:Nat→Option β)(v:Value):inN n f v=(cQ v).bind fun m=>bif Nat.blt m n then f m else none:=by
 cases v<;>try rfl
 rename_i i;cases i with
 |negSucc m=>rfl
 |ofNat m =>
  show Bool.rec none (f m) (Nat.ble (Nat.succ m) n)=bif Nat.ble (Nat.succ m) n then f m else none;cases Nat.ble (Nat.succ m) n<;>rfl
theorem Nb(p:PureOp)(env:LV)(k:Value→Option β):pK p env k=(aw env p).bind k:=by
 cases p with
 |mv x=>exact evK_eq ..
 |pick c a b =>
  refine(evK_eq ..).trans ?_;simp only[aw];cases evo env c with
  |none=>rfl
  |some v =>
   cases v<;>try rfl
   rename_i b';cases b'<;>exact evK_eq ..
 |bin op e x y =>
  refine(evK_eq ..).trans ?_;simp only[aw];cases evo env x with
  |none=>rfl
  |some v =>
   refine(evK_eq ..).trans ?_;cases evo env y with
   |none=>rfl
   |some u=>exact Ie ..
 |not x =>
  refine(evK_eq ..).trans ?_;simp only[aw];cases evo env x with
  |none=>rfl
  |some v =>
        cases v<;>try rfl
        rename_i b;cases b<;>rfl
 |neg x=>exact eC _ _ _
 |com x=>exact eC _ _ _
 |conv kd x =>
  refine(evK_eq ..).trans ?_;simp only[aw];cases evo env x with
  |none=>rfl
  |some v =>
        cases v<;>try rfl
        rename_i n;cases n with
        |ofNat m=>exact kV ..
        |negSucc m=>exact slowK_eq (some (.int kd (ai kd (.negSucc m)))) k
 |same x=>exact eC _ _ _
 |slS x a b=>exact eC _ _ _
 |slL e x a b c=>exact eC _ _ _
 |slA n e x a b c=>exact eC _ _ _
 |nilck x =>
  refine(evK_eq ..).trans ?_;simp only[aw];cases evo env x with
  |none=>rfl
  |some v =>
        cases v<;>try rfl
        rename_i a;cases a<;>rfl
 |fadd off x =>
  refine(evK_eq ..).trans ?_;simp only[aw];cases evo env x with
  |none=>rfl
  |some v =>
        cases v<;>try rfl
        rename_i a;rcases a with _|⟨b,o,_|s⟩<;>try rfl
        exact fN_eq (Nat.add o off) fun o=>k (.pointer (some ⟨b,o,none⟩))
 |idxL e x i =>
  refine(evK_eq ..).trans ?_;simp only[aw];cases evo env x with
  |none=>rfl
  |some v =>
        cases v<;>try rfl
        rename_i a len cap;rcases a with _|⟨b,o,s⟩
        ·rfl
        ·refine Eq.trans (evK_eq env i (inN len fun m=>fN (Nat.add o (Nat.mul m e)) fun o=>k (.pointer (some ⟨b,o,none⟩)))) ?_;cases evo env i with
         |none=>rfl
         |some u =>
          refine Eq.trans (xV len (fun m=>fN (Nat.add o (Nat.mul m e)) fun o=>k (.pointer (some ⟨b,o,none⟩))) u) ?_;show((cQ u).bind fun m=>bif Nat.blt m len then fN (Nat.add o (Nat.mul m e)) (fun o=>k (.pointer (some ⟨b,o,none⟩))) else none)=(match cQ u with|some n=>bif Nat.blt n len then some (Value.pointer (some ⟨b,o+n*e,none⟩)) else none|none=>none).bind k;cases cQ u with
          |none=>rfl
          |some m =>
           show(bif Nat.blt m len then fN _ _ else none)=_;simp only;cases Nat.blt m len with
           |false=>rfl
           |true=>exact fN_eq (Nat.add o (Nat.mul m e)) fun o=>k (.pointer (some ⟨b,o,none⟩))
 |idxA n e x i =>
  refine(evK_eq ..).trans ?_;simp only[aw];cases evo env x with
  |none=>rfl
  |some v =>
        cases v<;>try rfl
        rename_i a;rcases a with _|⟨b,o,_|s⟩<;>try rfl
        refine Eq.trans (evK_eq env i (inN n fun m=>fN (Nat.add o (Nat.mul m e)) fun o=>k (.pointer (some ⟨b,o,none⟩)))) ?_;cases evo env i with
        |none=>rfl
        |some u =>
         refine Eq.trans (xV n (fun m=>fN (Nat.add o (Nat.mul m e)) fun o=>k (.pointer (some ⟨b,o,none⟩))) u) ?_;show((cQ u).bind fun m=>bif Nat.blt m n then fN (Nat.add o (Nat.mul m e)) (fun o=>k (.pointer (some ⟨b,o,none⟩))) else none)=(match cQ u with|some m=>bif Nat.blt m n then some (Value.pointer (some ⟨b,o+m*e,none⟩)) else none|none=>none).bind k;cases cQ u with
         |none=>rfl
         |some m =>
          show(bif Nat.blt m n then fN _ _ else none)=_;simp only;cases Nat.blt m n with
          |false=>rfl
          |true=>exact fN_eq (Nat.add o (Nat.mul m e)) fun o=>k (.pointer (some ⟨b,o,none⟩))
 |idxS x i=>exact eC _ _ _
 |idxG n e g x i =>
  refine(evK_eq ..).trans ?_;simp only[aw];cases evo env x with
  |none=>rfl
  |some v =>
        cases v<;>try rfl
        rename_i a;obtain⟨cs⟩:=a;refine Eq.trans (evK_eq env i (inN n fun m=>rB g cs (Nat.mul m e) (sel g e) k)) ?_;cases evo env i with
        |none=>rfl
        |some u =>
         refine Eq.trans (xV n (fun m=>rB g cs (Nat.mul m e) (sel g e) k) u) ?_;show((cQ u).bind fun m=>bif Nat.blt m n then rB g cs (Nat.mul m e) (sel g e) k else none)=(match cQ u with|some m=>bif Nat.blt m n then(match bg cs (m*e) (bif g then e else 1) with|some r=>dy g r|none=>none) else none|none=>none).bind k;cases cQ u with
         |none=>rfl
         |some m =>
          show(bif Nat.blt m n then _ else none)=_;simp only;cases Nat.blt m n with
          |false=>rfl
          |true =>
           refine Eq.trans (lq g cs (Nat.mul m e) (sel g e) k) ?_;show _=(match bg cs (m*e) (bif g then e else 1) with|some r=>dy g r|none=>none).bind k;have:=G8 g e;rw[this];show(bg cs (m*e) (bif g then e else 1)).bind _=_;cases bg cs (m*e) (bif g then e else 1)<;>rfl
 |fld off n g x =>
  refine(evK_eq ..).trans ?_;simp only[aw];cases evo env x with
  |none=>rfl
  |some v =>
        cases v<;>try rfl
        rename_i a;obtain⟨cs⟩:=a;refine Eq.trans (lq g cs off (sel g n) k) ?_;show _=(match bg cs off (bif g then n else 1) with|some r=>dy g r|none=>none).bind k;have:=G8 g n;rw[this];cases bg cs off (bif g then n else 1)<;>rfl
 |ext i x =>
  refine(evK_eq ..).trans ?_;simp only[aw];cases evo env x with
  |none=>rfl
  |some v =>
        cases v<;>try rfl
        rename_i a;obtain⟨cs⟩:=a;refine(ul cs i k).trans ?_;rfl
 |mkfn f cs=>exact eC _ _ _
 |build z ps =>
  refine(vV ..).trans ?_;simp only[aw];cases jS env z ps<;>rfl
 |len x =>
  refine(evK_eq ..).trans ?_;simp only[aw];cases evo env x with
  |none=>rfl
  |some v =>
        cases v<;>try rfl
        rename_i n c;exact fN_eq n fun n=>k (.int .i64 (.ofNat n))
 |lens x=>exact eC _ _ _
 |alen n=>exact eC _ _ _
 |cap x=>exact eC _ _ _
 |max xs=>exact eC _ _ _
 |min xs=>exact eC _ _ _
end
end Go.AI
namespace Go.AI
section
variable {X β:Type}
def MQ(m:Mem X)(i:Nat)(k:AObj X→Option β):Option β:=Mem.rec (fun loc tbl _=>gC i loc (gC i tbl none k) k) m
theorem Hw(m:Mem X)(i:Nat)(k:AObj X→Option β):MQ m i k=(m.get i).bind k:=by
 obtain⟨loc,tbl,nx⟩:=m;show gC i loc (gC i tbl none k) k=(match aa i loc with|some o=>some o|none=>aa i tbl).bind k;rw[gw];cases aa i loc with
 |some o=>rfl
 |none=>show gC i tbl none k=_;rw[gw];cases aa i tbl<;>rfl
def EZ(g:Bool)(off n:Nat)(k:Value→Option β)(o:AObj X):Option β :=
 AObj.rec (fun cs=>rB g cs off n k) (fun _ _ cs=>rB g cs off n k) (fun _ cs=>rB g cs off n k) (fun k0 cs=>Bool.rec none (rB g cs (Nat.sub off k0) n k) (Nat.ble k0 off)) (fun _ _=>none) (fun _=>none) o
theorem CZ(g:Bool)(off n:Nat)(k:Value→Option β)(o:AObj X):EZ g off n k o=(match bH o with|some cs=>bg cs off n|none=>FI o off n).bind fun r=>(dy g r).bind k:=by
 cases o with
 |cells cs=>exact lq ..
 |grown e t cs=>exact lq ..
 |typed t cs=>exact lq ..
 |ro k0 cs =>
  show(Bool.rec none (rB g cs (Nat.sub off k0) n k) (Nat.ble k0 off):Option β)=(bif Nat.ble k0 off then bg cs (Nat.sub off k0) n else none).bind _;cases Nat.ble k0 off with
  |false=>rfl
  |true=>exact lq ..
 |map es c=>rfl
 |ext x=>rfl
def qU(g:Bool)(m:Mem X)(a:Addr)(n:Nat)(k:Value→Option β):Option β :=
 Addr.rec (fun b off s=>Option.rec (MQ m b fun o=>EZ g off n k o) (fun _=>none) s) a
theorem wO(g:Bool)(m:Mem X)(a:Addr)(n:Nat)(k:Value→Option β):qU g m a n k=(m.load a n).bind fun r=>(dy g r).bind k:=by
 obtain⟨b,off,s⟩:=a;cases s with
 |some s=>rfl
 |none =>
  show MQ m b _=(match m.get b with|some o=>(match bH o with|some cs=>bg cs off n|none=>FI o off n)|none=>none).bind _;rw[Hw];cases m.get b with
  |none=>rfl
  |some o=>exact CZ ..
def yy(i:Nat)(f:AObj X→(AObj X→Option β)→Option β)(l:List (Nat×AObj X)):(List (Nat×AObj X)→Option β)→Option β→Option β :=
 List.rec (fun _ d=>d) (fun x r ih kf d=>Prod.rec (fun s o=>Bool.rec (ih (fun r'=>kf ((s,o)::r')) d) (f o fun o'=>kf ((s,o')::r)) (Nat.beq i s)) x) l
theorem um(i:Nat)(g:AObj X→Option (AObj X)):∀(l:List (Nat×AObj X)) (kf:List (Nat×AObj X)→Option β) (d:Option β),yy i (fun o k=>(g o).bind k) l kf d=match aa i l with|some o=>(g o).bind fun o'=>kf (upd i o' l)|none=>d
 |[],kf,d=>rfl
 |(s,o)::r,kf,d=>by
  show(Bool.rec (yy i (fun o k=>(g o).bind k) r (fun r'=>kf ((s,o)::r')) d) ((g o).bind fun o'=>kf ((s,o')::r)) (Nat.beq i s):Option β)=match(bif Nat.beq i s then some o else aa i r) with|some o1=>(g o1).bind fun o'=>kf (upd i o' ((s,o)::r))|none=>d
  cases h:Nat.beq i s with
  |true =>
   show((g o).bind fun o'=>kf ((s,o')::r))=(g o).bind fun o'=>kf (bif Nat.beq i s then(s,o')::r else(s,o)::upd i o' r)
   rw[h];rfl
  |false =>
   show yy i (fun o k=>(g o).bind k) r (fun r'=>kf ((s,o)::r')) d=match aa i r with|some o1=>(g o1).bind fun o'=>kf (bif Nat.beq i s then(s,o')::r else(s,o)::upd i o' r)|none=>d
   rw[h];exact um i g r _ d
def C5(vs:List Value)(off:Nat)(o:AObj X)(k:AObj X→Option β):Option β :=
 AObj.rec (fun cs=>cW cs off vs fun cs=>k (.cells cs)) (fun e t cs=>cW cs off vs fun cs=>k (.grown e t cs)) (fun t cs=>cW cs off vs fun cs=>k (.typed t cs)) (fun _ _=>none) (fun _ _=>none) (fun _=>none) o
def DB(vs:List Value)(off:Nat)(o:AObj X):Option (AObj X) :=
 match bH o with
 |some cs=>bif Nat.ble (off+vs.length) cs.length then nr (aT cs off vs) o else none
 |none=>none
theorem HS(vs:List Value)(off:Nat)(o:AObj X)(k:AObj X→Option β):C5 vs off o k=(DB vs off o).bind k:=by
 cases o with
 |cells cs =>
  show cW cs off vs _=(bif Nat.ble (off+vs.length) cs.length then some (AObj.cells (aT cs off vs)) else none).bind k;rw[gT];cases Nat.ble (off+vs.length) cs.length<;>rfl
 |typed t cs =>
  show cW cs off vs _=(bif Nat.ble (off+vs.length) cs.length then some (AObj.typed t (aT cs off vs)) else none).bind k;rw[gT];cases Nat.ble (off+vs.length) cs.length<;>rfl
 |grown e t cs =>
  show cW cs off vs _=(bif Nat.ble (off+vs.length) cs.length then some (AObj.grown e t (aT cs off vs)) else none).bind k;rw[gT];cases Nat.ble (off+vs.length) cs.length<;>rfl
 |ro k0 cs=>rfl
 |map es c=>rfl
 |ext x=>rfl
def iG(m:Mem X)(a:Addr)(vs:List Value)(k:Mem X→Option β):Option β :=
 Addr.rec (fun b off s=>Option.rec (Mem.rec (fun loc tbl nx=>yy b (C5 vs off) loc (fun loc'=>k ⟨loc',tbl,nx⟩) (yy b (C5 vs off) tbl (fun tbl'=>k ⟨loc,tbl',nx⟩) none)) m) (fun _=>none) s) a
theorem A5(m:Mem X)(a:Addr)(vs:List Value)(k:Mem X→Option β):iG m a vs k=(m.store a vs).bind k:=by
 obtain⟨b,off,s⟩:=a;cases s with
 |some s=>rfl
 |none =>
  obtain⟨loc,tbl,nx⟩:=m;have hp:(C5 vs off:AObj X→(AObj X→Option β)→Option β)=fun o k=>(DB vs off o).bind k:=by funext o k;exact HS ..
  have hst:(⟨loc,tbl,nx⟩:Mem X).store ⟨b,off,none⟩ vs=match(⟨loc,tbl,nx⟩:Mem X).get b with
   |some o=>(DB vs off o).map ((⟨loc,tbl,nx⟩:Mem X).put b)
   |none=>none:=by
   show(match(⟨loc,tbl,nx⟩:Mem X).get b with|some o=>(match bH o with|some cs=>bif Nat.ble (off+vs.length) cs.length then(nr (aT cs off vs) o).map ((⟨loc,tbl,nx⟩:Mem X).put b) else none|none=>none)|none=>none)=_;cases(⟨loc,tbl,nx⟩:Mem X).get b with
   |none=>rfl
   |some o =>
    show(match bH o with|some cs=>bif Nat.ble (off+vs.length) cs.length then(nr (aT cs off vs) o).map ((⟨loc,tbl,nx⟩:Mem X).put b) else none|none=>none)=(match bH o with|some cs=>bif Nat.ble (off+vs.length) cs.length then nr (aT cs off vs) o else none|none=>none).map _;cases bH o with
    |none=>rfl
    |some cs=>simp only;cases Nat.ble (off+vs.length) cs.length<;>rfl
  rw[hst];show yy b (C5 vs off) loc (fun loc'=>k ⟨loc',tbl,nx⟩) (yy b (C5 vs off) tbl (fun tbl'=>k ⟨loc,tbl',nx⟩) none)=_;rw[hp,um,um];have hput:∀o,(⟨loc,tbl,nx⟩:Mem X).put b o=match aa b loc with|some _=>⟨upd b o loc,tbl,nx⟩|none=>⟨loc,upd b o tbl,nx⟩:=fun o=>rfl
  have hget:(⟨loc,tbl,nx⟩:Mem X).get b=match aa b loc with|some o=>some o|none=>aa b tbl:=rfl
  rw[hget];cases hl:aa b loc with
  |some o =>
   dsimp only;cases DB vs off o with
   |none=>rfl
   |some o' =>
    rw[Option.map_some,bm,bm,hput,hl]
  |none =>
   dsimp only;cases aa b tbl with
   |none=>rfl
   |some o =>
    dsimp only;cases DB vs off o with
    |none=>rfl
    |some o'=>rw[Option.map_some,bm,bm,hput,hl]
abbrev Env:=LV
abbrev KM(X β:Type):=Env→Mem X→Option β
abbrev kM(X β:Type):=Nat→List Value→Hp X→(Value→Hp X→Option β)→Option β
abbrev SK(X β:Type):=kM X β→Env→Mem X→KM X β→Option β
def b8(i:IOp):SK X β:=fun _ env m k=>Option.rec none (fun r=>Prod.rec (fun v m'=>fV v fun v=>k (bD i.dst v env) m') r) (bM env m i)
def J0(d:Nat)(p:PureOp):SK X β:=fun _ env m k=>pK p env fun v=>k ((d,v)::env) m
def JZ(d n:Nat)(g:Bool)(a:Opd):SK X β:=fun _ env m k=>evK env a (ut none (Option.rec none fun ad=>qU g m ad n fun v=>k ((d,v)::env) m))
def DG(n:Nat)(a x:Opd):SK X β:=fun _ env m k=>evK env a (ut none (Option.rec none fun ad=>evK env x (jz none (fun vs=>Bool.rec none (iG m ad vs (k env)) (Nat.beq vs.length n)) (fun v=>Bool.rec none (iG m ad [v] (k env)) (Nat.beq 1 n)))))
def yi(d:Nat)(hp:Bool)(cs:List Value):SK X β:=fun _ env m k =>
 Mem.rec (fun loc tbl nx=>fN (Nat.succ nx) fun nx'=>Bool.rec (k ((d,.pointer (some ⟨nx,0,none⟩))::env) ⟨(nx,.cells cs)::loc,tbl,nx'⟩) (k ((d,.pointer (some ⟨nx,0,none⟩))::env) ⟨loc,(nx,.cells cs)::tbl,nx'⟩) hp) m
def Ox(d:Nat)(hp:Bool)(x:Opd):SK X β:=fun c env m k=>evK env x (jz none (fun vs=>yi d hp vs c env m k) (fun v=>yi d hp [v] c env m k))
def fnK(d:β)(f:Nat→β)(g:Fn):β:=Fn.rec f (fun _=>d) (fun _ _=>d) (fun _ _ _ _=>d) (fun _=>d) g
def rW(vs:List Value)(cap:Array Value):List Value:=Array.rec (fun cap=>List.rec vs (fun x r _=>vs++(x::r)) cap) cap
def Nz(d:Option Nat)(f:Opd)(xs:List Opd):SK X β:=fun call env m k =>
 evK env f (LI none fun g cap=>fnK none (fun f=>vt env xs fun vs=>Mem.rec (fun loc tbl nx=>call f (rW vs cap) ⟨tbl,nx⟩ fun v h=>Hp.rec (fun tbl' nx'=>k (bD d v env) ⟨loc,tbl',nx'⟩) h) m) g)
def zY(i:IOp):SK X β :=
 IOp.rec J0 JZ DG yi Ox (fun d n e z ps=>b8 (.bslice d n e z ps)) (fun d e b z l c=>b8 (.mslice d e b z l c)) (fun d t x=>b8 (.s2b d t x)) (fun d x=>b8 (.b2s d x))
  (fun d e b t x y=>b8 (.append d e b t x y)) (fun d e x y=>b8 (.copy d e x y)) (fun d e z x=>b8 (.clear d e z x)) Nz (fun d=>b8 (.mmap d)) (fun d z a o m k=>b8 (.mget d z a o m k)) (fun m k x=>b8 (.mset m k x))
  (fun d z a m k=>b8 (.ment d z a m k)) (fun m s x=>b8 (.ests m s x)) (fun d m=>b8 (.mlen d m)) (fun d m=>b8 (.mclr d m)) (fun d h t cs=>b8 (.newt d h t cs)) (fun d t x=>b8 (.tou d t x)) (fun d t n x=>b8 (.fromu d t n x)) (fun d x=>b8 (.usd d x)) (fun d t x n=>b8 (.ustr d t x n)) i
theorem Hg(vs:List Value)(cap:Array Value):rW vs cap=vs++cap.toList:=by
 obtain⟨l⟩:=cap;cases l with
 |nil=>exact(List.append_nil vs).symm
 |cons x r=>rfl
theorem cb(i:IOp)(call:kM X β)(env:Env)(m:Mem X)(k:KM X β):b8 i call env m k=(bM env m i).bind fun r=>k (bD i.dst r.1 env) r.2:=by
 unfold b8;cases bM env m i with
 |none=>rfl
 |some r=>exact fV_eq r.1 _
def iU(ck:kM X β)(c:aP X):Prop:=∀f vs h k,ck f vs h k=(c f vs h).bind fun r=>k r.1 r.2
theorem wN{ck:kM X β}{c:aP X}(hc:iU ck c)(i:IOp)(env:Env)(m:Mem X)(k:KM X β):zY i ck env m k=(bh c env m i).bind fun r=>k (bD i.dst r.1 env) r.2:=by
 cases i with
 |pure d p =>
  show pK p env (fun v=>k ((d,v)::env) m)=(match aw env p with|some v=>some (v,m)|none=>none).bind _;rw[Nb];cases aw env p<;>rfl
 |load d n g a =>
  show evK env a (ut none (Option.rec none fun ad=>qU g m ad n fun v=>k ((d,v)::env) m))=(bM env m (.load d n g a)).bind _;rw[evK_eq];simp only[bM];cases evo env a with
  |none=>rfl
  |some v =>
   cases v<;>try rfl
   rename_i ad;cases ad with
   |none=>rfl
   |some ad =>
    show qU g m ad n (fun v=>k ((d,v)::env) m)=_;rw[wO];dsimp only;cases m.load ad n with
    |none=>rfl
    |some r =>
     dsimp only;rw[bm];cases dy g r<;>rfl
 |store n a x =>
  show evK env a (ut none (Option.rec none fun ad=>evK env x (jz none (fun vs=>Bool.rec none (iG m ad vs (k env)) (Nat.beq vs.length n)) (fun v=>Bool.rec none (iG m ad [v] (k env)) (Nat.beq 1 n)))))=(bM env m (.store n a x)).bind _;rw[evK_eq];simp only[bM];cases evo env a with
  |none=>rfl
  |some v =>
   cases v<;>try (cases evo env x<;>rfl)
   rename_i ad;cases ad with
   |none=>cases evo env x<;>rfl
   |some ad =>
    show evK env x (jz none (fun vs=>Bool.rec none (iG m ad vs (k env)) (Nat.beq vs.length n)) (fun v=>Bool.rec none (iG m ad [v] (k env)) (Nat.beq 1 n)))=_;rw[evK_eq];cases evo env x with
    |none=>rfl
    |some u =>
     refine(nV u fun vs=>(Bool.rec none (iG m ad vs (k env)) (Nat.beq vs.length n):Option β)).trans ?_;dsimp only;cases cR u with
     |none=>rfl
     |some vs =>
      show(Bool.rec none (iG m ad vs (k env)) (Nat.beq vs.length n):Option β)=(bif Nat.beq vs.length n then(m.store ad vs).map fun m'=>(undef,m') else none).bind _;cases Nat.beq vs.length n with
      |false=>rfl
      |true =>
       show iG m ad vs (k env)=((m.store ad vs).map fun m'=>(undef,m')).bind _;rw[A5];cases m.store ad vs<;>rfl
 |new d hp cs =>
  obtain⟨loc,tbl,nx⟩:=m;cases hp<;>rfl
 |box d hp x =>
  show evK env x (jz none (fun vs=>yi d hp vs ck env m k) (fun v=>yi d hp [v] ck env m k))=(bM env m (.box d hp x)).bind _;rw[evK_eq];simp only[bM,fE];cases evo env x with
  |none=>rfl
  |some u =>
   refine(nV u fun vs=>yi d hp vs ck env m k).trans ?_;dsimp only;cases cR u with
   |none=>rfl
   |some vs=>obtain⟨loc,tbl,nx⟩:=m;cases hp<;>rfl
 |bslice d n e z ps=>exact cb (.bslice d n e z ps) ck env m k
 |mslice d e b z l cc=>exact cb (.mslice d e b z l cc) ck env m k
 |s2b d t x=>exact cb (.s2b d t x) ck env m k
 |b2s d x=>exact cb (.b2s d x) ck env m k
 |append d e b t x y=>exact cb (.append d e b t x y) ck env m k
 |copy d e x y=>exact cb (.copy d e x y) ck env m k
 |clear d e z x=>exact cb (.clear d e z x) ck env m k
 |call d f xs =>
  show evK env f (LI none fun g cap=>fnK none (fun f=>vt env xs fun vs=>Mem.rec (fun loc tbl nx=>ck f (rW vs cap) ⟨tbl,nx⟩ fun v h=>Hp.rec (fun tbl' nx'=>k (bD d v env) ⟨loc,tbl',nx'⟩) h) m) g)=(bh c env m (.call d f xs)).bind _;rw[evK_eq];simp only[bh];cases evo env f with
  |none=>rfl
  |some v =>
   cases v<;>try rfl
   rename_i g fst cap;cases g<;>try rfl
   rename_i fid;show vt env xs (fun vs=>Mem.rec (fun loc tbl nx=>ck fid (rW vs cap) ⟨tbl,nx⟩ fun v h=>Hp.rec (fun tbl' nx'=>k (bD d v env) ⟨loc,tbl',nx'⟩) h) m)=_;rw[evsK_eq];cases evs env xs with
   |none=>rfl
   |some vs =>
    obtain⟨loc,tbl,nx⟩:=m;show ck fid (rW vs cap) ⟨tbl,nx⟩ (fun v h=>Hp.rec (fun tbl' nx'=>k (bD d v env) ⟨loc,tbl',nx'⟩) h)=_;rw[hc,Hg];dsimp only;cases c fid (vs++cap.toList) ⟨tbl,nx⟩ with
    |none=>rfl
    |some r=>rfl
 |mmap d=>exact cb (.mmap d) ck env m k
 |mget d z a o mm kk=>exact cb (.mget d z a o mm kk) ck env m k
 |mset mm kk x=>exact cb (.mset mm kk x) ck env m k
 |ment d z a mm kk=>exact cb (.ment d z a mm kk) ck env m k
 |ests mm s x=>exact cb (.ests mm s x) ck env m k
 |mlen d mm=>exact cb (.mlen d mm) ck env m k
 |mclr d mm=>exact cb (.mclr d mm) ck env m k
 |newt d h t cs=>exact cb (.newt d h t cs) ck env m k
 |tou d t x=>exact cb (.tou d t x) ck env m k
 |fromu d t n x=>exact cb (.fromu d t n x) ck env m k
 |usd d x=>exact cb (.usd d x) ck env m k
 |ustr d t x n=>exact cb (.ustr d t x n) ck env m k
def Ah(env:Env)(g:Option (Nat×Bool))(y n:Option β):Option β :=
 Option.rec y (fun dw=>Option.rec none (fun b=>Bool.rec n y b) (wanted env (some dw))) g
def Gv(i:IOp)(env:Env):Env:=bD i.dst undef env
def Bw(call:kM X β)(l:List (Option (Nat×Bool)×IOp)):Env→Mem X→KM X β→Option β :=
 List.rec (fun env m k=>k env m) (fun gi _ ih env m k=>Prod.rec (fun g i=>Ah env g (zY i call env m fun env' m'=>ih env' m' k) (ih (Gv i env) m k)) gi) l
theorem uf{ck:kM X β}{c:aP X}(hc:iU ck c):∀(l:List (Option (Nat×Bool)×IOp)) (env:Env) (m:Mem X) (k:KM X β),Bw ck l env m k=(aY c l env m).bind fun r=>k r.1 r.2
 |[],env,m,k=>rfl
 |(g,i)::r,env,m,k=>by
  show Ah env g (zY i ck env m fun env' m'=>Bw ck r env' m' k) (Bw ck r (Gv i env) m k)=(match wanted env g with|some true=>(match bh c env m i with|some (v,m')=>aY c r (bD i.dst v env) m'|none=>none)|some false=>aY c r (bD i.dst undef env) m|none=>none).bind _;have hy:(zY i ck env m fun env' m'=>Bw ck r env' m' k)=(match bh c env m i with|some (v,m')=>aY c r (bD i.dst v env) m'|none=>none).bind fun r=>k r.1 r.2:=by
   rw[wN hc];cases bh c env m i with
   |none=>rfl
   |some x=>exact uf hc r _ _ k
  rw[hy,uf hc r];cases g with
  |none=>rfl
  |some dw =>
   show(Option.rec none (fun b=>Bool.rec _ _ b) (wanted env (some dw)):Option β)=_;cases wanted env (some dw) with
   |none=>rfl
   |some b=>cases b<;>rfl
end
section
variable {X β:Type}
abbrev CK(X β:Type):=Env→Mem X→KM X β→(Ex→KM X β)→Option β
def fin(kn:KM X β)(ka:Ex→KM X β)(r:Option (Ex×Env×Mem X)):Option β :=
 match r with
 |none=>none
 |some (.norm,e,m)=>kn e m
 |some (x,e,m)=>ka x e m
def inM(k m:Nat):Bool:=Nat.beq (Nat.land (Nat.shiftRight m k) 1) 1
theorem Lz(k m:Nat):inM k m=m.testBit k:=by
 unfold inM Nat.testBit;show Nat.beq (Nat.land (m >>> k) 1) 1=(1 &&& m >>> k != 0);rw[show(1 &&& m >>> k)=Nat.land (m >>> k) 1 from Nat.and_comm 1 (m >>> k)];have h2:Nat.land (m >>> k) 1=(m >>> k) % 2:=Nat.and_one_is_mod (m >>> k);rw[h2];rcases Nat.mod_two_eq_zero_or_one (m >>> k) with h|h<;>rw[h]<;>rfl
def xn(l:Env):Nat→(Env→β)→β :=
 List.rec (fun _ k=>k []) (fun x _ ih m k=>Prod.rec (fun s _=>Bool.rec (ih (Nat.lor m (Nat.shiftLeft 1 s)) fun r=>k (x::r)) (ih m k) (inM s m)) x) l
theorem rj:∀(l:Env) (seen:List Nat) (m:Nat) (k:Env→β),(∀i,m.testBit i=gU i seen)→xn l m k=k (jZ seen l)
 |[],seen,m,k,h=>rfl
 |(s,v)::r,seen,m,k,h=>by
  show(Bool.rec (xn r (Nat.lor m (Nat.shiftLeft 1 s)) fun r=>k ((s,v)::r)) (xn r m k) (inM s m):β)=k (bif gU s seen then jZ seen r else(s,v)::jZ (s::seen) r);rw[Lz,h s];cases hs:gU s seen with
  |true=>exact rj r seen m k h
  |false =>
   refine rj r (s::seen) _ (fun r=>k ((s,v)::r)) fun i=>?_
   have h1:Nat.lor m (Nat.shiftLeft 1 s)=m ||| 2 ^ s:=by
    show m ||| (1 <<< s)=_;rw[Nat.one_shiftLeft]
   rw[h1,Nat.testBit_or,Nat.testBit_two_pow,h i];simp only[gU];cases hb:Nat.beq i s with
   |true=>rw[Zg] at hb;subst hb;simp
   |false =>
    rw[← Zl,Zg] at hb;have:decide (s=i)=false:=by simp only[decide_eq_false_iff_not];exact fun e=>hb e.symm
    rw[this,Bool.or_false,Bool.false_or]
def sG(n:Nat)(env:Env)(m:Mem X)(k:KM X β):Option β :=
 Bool.rec (k env m) (Mem.rec (fun loc tbl nx=>xn env 0 fun env'=>k env' ⟨cK env' loc,tbl,nx⟩) m) (Nat.beq (Nat.land n 7) 0)
theorem uX(n:Nat)(env:Env)(m:Mem X)(k:KM X β):sG n env m k=k (tidy n env m).1 (tidy n env m).2:=by
 unfold sG tidy;obtain⟨loc,tbl,nx⟩:=m;cases Nat.beq (Nat.land n 7) 0 with
 |false=>rfl
 |true =>
  show xn env 0 (fun env'=>k env' ⟨cK env' loc,tbl,nx⟩)=_;rw[rj env [] 0 _ (fun i=>by rw[Nat.zero_testBit];rfl)];rfl
def Ay(body:CK X β)(fuel:Nat):CK X β :=
 Nat.rec (fun _ _ _ _=>none) (fun n ih env m kn ka=>body env m (fun env' m'=>sG n env' m' fun env' m'=>ih env' m' kn ka) ka) fuel
def ie(call:kM X β)(dr:aP X)(fuel:Nat)(c:ICode):CK X β :=
 ICode.rec (motive:=fun _=>CK X β)
  (fun env m kn _=>kn env m)
  (fun l env m kn _=>Bw call l env m kn)
  (fun l bf env m kn _=>Option.rec none (fun r=>Prod.rec kn r) (eG dr l bf env m))
  (fun _ _ ra rb env m kn ka=>ra env m (fun env' m'=>rb env' m' kn ka) ka)
  (fun c _ _ ra rb env m kn ka=>evK env c (vo none (Bool.rec (rb env m kn ka) (ra env m kn ka))))
  (fun id _ ra env m kn ka=>ra env m kn fun x e m'=>Ex.rec (ka .norm e m') (fun k=>Bool.rec (ka (.exit k) e m') (kn e m') (Nat.beq k id)) (ka .ret e m') x)
  (fun _ ra env m kn ka=>Ay ra fuel env m kn ka)
  (fun id env m _ ka=>ka (.exit id) env m)
  (fun env m _ ka=>ka .ret env m) c
theorem EW{ck:kM X β}{c:aP X}(hc:iU ck c)(fuel:Nat):∀(ic:ICode) (env:Env) (m:Mem X) (kn:KM X β) (ka:Ex→KM X β),ie ck c fuel ic env m kn ka=fin kn ka (bP c fuel ic env m):=by
 intro ic;induction ic with
 |skip=>intro env m kn ka;rfl
 |ops l =>
  intro env m kn ka;show Bw ck l env m kn=fin kn ka (match aY c l env m with|some (env',m')=>some (.norm,env',m')|none=>none);rw[uf hc];cases aY c l env m<;>rfl
 |drawn l bf =>
  intro env m kn ka;show(Option.rec none (fun r=>Prod.rec kn r) (eG c l bf env m):Option β)=fin kn ka (match eG c l bf env m with|some (env',m')=>some (.norm,env',m')|none=>none);cases eG c l bf env m<;>rfl
 |seq a b iha ihb =>
  intro env m kn ka;show ie ck c fuel a env m (fun env' m'=>ie ck c fuel b env' m' kn ka) ka=fin kn ka (match bP c fuel a env m with|some (.norm,env',m')=>bP c fuel b env' m'|r=>r);rw[iha];rcases bP c fuel a env m with _|⟨x,e,m'⟩
  ·rfl
  ·cases x with
   |norm=>exact ihb ..
   |exit k=>rfl
   |ret=>rfl
 |cond cnd a b iha ihb =>
  intro env m kn ka;show evK env cnd (vo none (Bool.rec (ie ck c fuel b env m kn ka) (ie ck c fuel a env m kn ka)))=fin kn ka (match evo env cnd with|some (.bool true)=>bP c fuel a env m|some (.bool false)=>bP c fuel b env m|_=>none);rw[evK_eq,iha,ihb];cases evo env cnd with
  |none=>rfl
  |some v =>
   cases v<;>try rfl
   rename_i b';cases b'<;>rfl
 |block id a iha =>
  intro env m kn ka;show ie ck c fuel a env m kn (fun x e m'=>Ex.rec (ka .norm e m') (fun k=>Bool.rec (ka (.exit k) e m') (kn e m') (Nat.beq k id)) (ka .ret e m') x)=fin kn ka (match bP c fuel a env m with|some (.exit k,env',m')=>(bif Nat.beq k id then some (.norm,env',m') else some (.exit k,env',m'))|r=>r);rw[iha];rcases bP c fuel a env m with _|⟨x,e,m'⟩
  ·rfl
  ·cases x with
   |norm=>rfl
   |ret=>rfl
   |exit k =>
    show(Bool.rec (ka (.exit k) e m') (kn e m') (Nat.beq k id):Option β)=fin kn ka (bif Nat.beq k id then some (.norm,e,m') else some (.exit k,e,m'));cases Nat.beq k id<;>rfl
 |loop a iha =>
  intro env m kn ka;have key:∀n env m,Ay (ie ck c fuel a) n env m kn ka=fin kn ka (ge (bP c fuel a) n env m):=by
   intro n;induction n with
   |zero=>intro env m;rfl
   |succ n ihn =>
    intro env m;show ie ck c fuel a env m (fun env' m'=>sG n env' m' fun env' m'=>Ay (ie ck c fuel a) n env' m' kn ka) ka=fin kn ka (match bP c fuel a env m with|some (.norm,env',m')=>ge (bP c fuel a) n (tidy n env' m').1 (tidy n env' m').2|r=>r);rw[iha];rcases bP c fuel a env m with _|⟨x,e,m'⟩
    ·rfl
    ·cases x with
     |norm=>exact(uX n e m' fun env' m'=>Ay (ie ck c fuel a) n env' m' kn ka).trans (ihn ..)
     |exit k=>rfl
     |ret=>rfl
  exact key fuel env m
 |exit id=>intro env m kn ka;rfl
 |ret=>intro env m kn ka;rfl
def Dp(env:Env)(m:Mem X)(rs:List IRes):(List Value→Option β)→Option β :=
 List.rec (fun k=>k []) (fun x _ ih k=>IRes.rec (fun t=>gC t env none fun v=>ih fun s=>k (v::s)) (fun t n g=>gC t env none (ut none (Option.rec none fun ad=>qU g m ad n fun v=>ih fun s=>k (v::s)))) x) rs
theorem pE(env:Env)(m:Mem X):∀(rs:List IRes) (k:List Value→Option β),Dp env m rs k=(db env m rs).bind k
 |[],k=>rfl
 | .tmp t::r,k=>by
  show gC t env none (fun v=>Dp env m r fun s=>k (v::s))=(match aa t env,db env m r with|some v,some s=>some (v::s)|_,_=>none).bind k;rw[gw];cases aa t env with
  |none=>rfl
  |some v =>
   dsimp only;rw[pE env m r];cases db env m r<;>rfl
 | .cell t n g::r,k=>by
  show gC t env none (ut none (Option.rec none fun ad=>qU g m ad n fun v=>Dp env m r fun s=>k (v::s)))=(db env m (.cell t n g::r)).bind k;rw[gw];simp only[db];cases aa t env with
  |none=>rfl
  |some v =>
   cases v<;>try (cases db env m r<;>rfl)
   rename_i ad;cases ad with
   |none=>cases db env m r<;>rfl
   |some ad =>
    show qU g m ad n (fun v=>Dp env m r fun s=>k (v::s))=_;rw[wO];cases hr:db env m r with
    |none =>
     cases m.load ad n with
     |none=>rfl
     |some cs =>
      dsimp only;rw[bm];cases dy g cs with
      |none=>rfl
      |some v=>rw[bm,pE env m r,hr];rfl
    |some s =>
     dsimp only;cases m.load ad n with
     |none=>rfl
     |some cs =>
      dsimp only;rw[bm];cases dy g cs with
      |none=>rfl
      |some v=>rw[bm,pE env m r,hr];rfl
def qK(n:Nat)(l:List (Nat×AObj X)):(List (Nat×AObj X)→Option β)→Option β :=
 List.rec (fun k=>k []) (fun x _ ih k=>Prod.rec (fun i _=>Bool.rec (ih k) (ih fun s=>k (x::s)) (Nat.ble (Nat.succ i) n)) x) l
theorem nM(n:Nat):∀(l:List (Nat×AObj X)) (k:List (Nat×AObj X)→Option β),qK n l k=k (iu n l)
 |[],k=>rfl
 |(i,o)::r,k=>by
  show(Bool.rec (qK n r k) (qK n r fun s=>k ((i,o)::s)) (Nat.ble (Nat.succ i) n):Option β)=k (List.filter (fun x=>Nat.blt x.1 n) ((i,o)::r));rw[List.filter_cons];show _=k (if Nat.ble (Nat.succ i) n=true then _ else _);cases Nat.ble (Nat.succ i) n with
  |true=>exact nM n r _
  |false=>exact nM n r _
def pm(cl:Bool)(n:Nat)(rs:List IRes)(env:Env)(m:Mem X)(k:Value→Hp X→Option β):Option β :=
 Dp env m rs fun vs=>ob (ja vs) fun v=>Mem.rec (fun _ tbl nx=>Bool.rec (k v ⟨tbl,nx⟩) (qK n tbl fun tbl'=>k v ⟨tbl',nx⟩) cl) m
def oA(ck:kM X (Value×Hp X)):aP X:=fun f vs h=>ck f vs h fun v h=>some (v,h)
theorem Df{ck:kM X (Value×Hp X)}{c:aP X}(hc:iU ck c):oA ck=c:=by
 funext f vs h
 unfold oA;rw[hc];cases c f vs h<;>rfl
def gX(F:Nat→Option IFn)(clean:Nat→Bool)(hook:dS X)(n:Nat):kM X (Value×Hp X) :=
 Nat.rec (fun _ _ _ _=>none) (fun n ih f vs h k=>Option.rec (Option.rec none (fun fn=>IFn.rec (fun code nt res=>Bool.rec none
   (Hp.rec (fun tbl nx=>ie ih (oA ih) n code (aM 0 vs) ⟨[],tbl,nx⟩ (fun env m=>pm (clean f) nx res env m k) (fun x env m=>Ex.rec none (fun _=>none) (pm (clean f) nx res env m k) x)) h)
   (Nat.ble vs.length nt)) fn) (F f)) (fun g=>ob (g vs h) fun r=>Prod.rec k r) (hook f)) n
theorem uo(cl:Bool)(n:Nat)(rs:List IRes)(env:Env)(m:Mem X)(k:Value→Hp X→Option β) :
  pm cl n rs env m k=(match db env m rs with
    |some rs=>(match ja rs with
     |some v=>some (v,(⟨bif cl then iu n m.tbl else m.tbl,m.next⟩:Hp X))
     |none=>none)
    |none=>none).bind fun r=>k r.1 r.2:=by
 obtain⟨loc,tbl,nx⟩:=m;show Dp env ⟨loc,tbl,nx⟩ rs (fun vs=>ob (ja vs) fun v=>Bool.rec (k v ⟨tbl,nx⟩) (qK n tbl fun tbl'=>k v ⟨tbl',nx⟩) cl)=_;rw[pE];cases db env ⟨loc,tbl,nx⟩ rs with
 |none=>rfl
 |some vs =>
  dsimp only;rw[bm,ob_eq];cases ja vs with
  |none=>rfl
  |some v =>
   dsimp only;rw[bm,bm];cases cl with
   |false=>rfl
   |true=>exact nM n tbl fun tbl'=>k v ⟨tbl',nx⟩
theorem AV(F:Nat→Option IFn)(clean:Nat→Bool)(hook:dS X):∀n,iU (β:=Value×Hp X) (gX F clean hook n) (run F clean hook n)
 |0=>fun _ _ _ _=>rfl
 |n+1=>by
  intro f vs h k;have ih:=AV F clean hook n;show(Option.rec (Option.rec none (fun fn=>IFn.rec (fun code nt res=>Bool.rec none
   (Hp.rec (fun tbl nx=>ie (gX F clean hook n) (oA (gX F clean hook n)) n code (aM 0 vs) ⟨[],tbl,nx⟩ (fun env m=>pm (clean f) nx res env m k) (fun x env m=>Ex.rec none (fun _=>none) (pm (clean f) nx res env m k) x)) h)
   (Nat.ble vs.length nt)) fn) (F f)) (fun g=>ob (g vs h) fun r=>Prod.rec k r) (hook f):Option (Value×Hp X))=_
  simp only[run];cases hook f with
  |some g =>
   show ob (g vs h) _=_;rw[ob_eq]
  |none =>
   dsimp only;cases F f with
   |none=>rfl
   |some fn =>
    obtain⟨code,nt,res⟩:=fn;obtain⟨tbl,nx⟩:=h;show(Bool.rec none (ie (gX F clean hook n) (oA (gX F clean hook n)) n code (aM 0 vs) ⟨[],tbl,nx⟩ (fun env m=>pm (clean f) nx res env m k) (fun x env m=>Ex.rec none (fun _=>none) (pm (clean f) nx res env m k) x)) (Nat.ble vs.length nt):Option (Value×Hp X))=_;dsimp only;cases Nat.ble vs.length nt with
    |false=>rfl
    |true =>
     show ie (gX F clean hook n) (oA (gX F clean hook n)) n code (aM 0 vs) ⟨[],tbl,nx⟩ (fun env m=>pm (clean f) nx res env m k) (fun x env m=>Ex.rec none (fun _=>none) (pm (clean f) nx res env m k) x)=_;rw[Df ih,EW ih];rw[cond_true];rcases bP (run F clean hook n) n code (aM 0 vs) ⟨[],tbl,nx⟩ with _|⟨x,env,m⟩
     ·rfl
     ·cases x with
      |norm=>exact uo ..
      |exit id=>rfl
      |ret=>exact uo ..
end
end Go.AI
