/- The evaluator once more, so written that the kernel reckons quickly; it answers as the other one. No program is named here. -/
import Derived.Test.YthoiknijhfnadaaGreatDoorKCo
noncomputable section
namespace Go.AI
section
variable {α β:Type}
theorem bind_some'(v:α)(k:α→Option β):(some v).bind k=k v:=rfl
def ob(o:Option α)(k:α→Option β):Option β:=Option.rec none k o
@[simp] theorem ob_eq (o:Option α) (k:α→Option β):ob o k=o.bind k:=by cases o<;>rfl
def ite'(b:Bool)(x y:β):β:=Bool.rec y x b
@[simp] theorem ite'_eq (b:Bool) (x y:β):ite' b x y=bif b then x else y:=by cases b<;>rfl
def fN(n:Nat)(k:Nat→β):β:=Nat.rec (k 0) (fun m _=>k (Nat.succ m)) n
@[simp] theorem fN_eq (n:Nat) (k:Nat→β):fN n k=k n:=by cases n<;>rfl
def fI(n:Int)(k:Int→β):β:=Int.rec (fun m=>fN m fun m=>k (.ofNat m)) (fun m=>fN m fun m=>k (.negSucc m)) n
@[simp] theorem fI_eq (n:Int) (k:Int→β):fI n k=k n:=by cases n<;>simp[fI]
def vInt(d:β)(f:IntKind→Int→β)(v:Value):β :=
 @Value.rec (fun _=>β) (fun _=>PUnit) (fun _=>PUnit) (fun _=>d) f (fun _ _=>d) (fun _ _ _=>d) (fun _=>d) (fun _=>d) (fun _ _ _=>d) (fun _=>d) (fun _=>d) (fun _ _ _ _ _=>d) d (fun _ _ _=>d) d (fun _ _=>d) (fun _ _=>d) (fun _ _=>⟨⟩) ⟨⟩ (fun _ _ _ _=>⟨⟩) v
def vBool(d:β)(f:Bool→β)(v:Value):β :=
 @Value.rec (fun _=>β) (fun _=>PUnit) (fun _=>PUnit) f (fun _ _=>d) (fun _ _=>d) (fun _ _ _=>d) (fun _=>d) (fun _=>d) (fun _ _ _=>d) (fun _=>d) (fun _=>d) (fun _ _ _ _ _=>d) d (fun _ _ _=>d) d (fun _ _=>d) (fun _ _=>d) (fun _ _=>⟨⟩) ⟨⟩ (fun _ _ _ _=>⟨⟩) v
def vPtr(d:β)(f:Option Addr→β)(v:Value):β :=
 @Value.rec (fun _=>β) (fun _=>PUnit) (fun _=>PUnit) (fun _=>d) (fun _ _=>d) (fun _ _=>d) (fun _ _ _=>d) (fun _=>d) f (fun _ _ _=>d) (fun _=>d) (fun _=>d) (fun _ _ _ _ _=>d) d (fun _ _ _=>d) d (fun _ _=>d) (fun _ _=>d) (fun _ _=>⟨⟩) ⟨⟩ (fun _ _ _ _=>⟨⟩) v
def vSlc(d:β)(f:Option Addr→Nat→Nat→β)(v:Value):β :=
 @Value.rec (fun _=>β) (fun _=>PUnit) (fun _=>PUnit) (fun _=>d) (fun _ _=>d) (fun _ _=>d) (fun _ _ _=>d) (fun _=>d) (fun _=>d) f (fun _=>d) (fun _=>d) (fun _ _ _ _ _=>d) d (fun _ _ _=>d) d (fun _ _=>d) (fun _ _=>d) (fun _ _=>⟨⟩) ⟨⟩ (fun _ _ _ _=>⟨⟩) v
def vFun(d:β)(f:Fn→Array Value→β)(v:Value):β :=
 @Value.rec (fun _=>β) (fun _=>PUnit) (fun _=>PUnit) (fun _=>d) (fun _ _=>d) (fun _ _=>d) (fun _ _ _=>d) (fun _=>d) (fun _=>d) (fun _ _ _=>d) (fun _=>d) (fun _=>d) (fun g _ c _ _=>f g c) d (fun _ _ _=>d) d (fun _ _=>d) (fun _ _=>d) (fun _ _=>⟨⟩) ⟨⟩ (fun _ _ _ _=>⟨⟩) v
def vAgg(d:β)(f:Array Value→β)(v:Value):β :=
 @Value.rec (fun _=>β) (fun _=>PUnit) (fun _=>PUnit) (fun _=>d) (fun _ _=>d) (fun _ _=>d) (fun _ _ _=>d) (fun _=>d) (fun _=>d) (fun _ _ _=>d) (fun _=>d) (fun _=>d) (fun _ _ _ _ _=>d) d (fun _ _ _=>d) d (fun c _=>f c) (fun _ _=>d) (fun _ _=>⟨⟩) ⟨⟩ (fun _ _ _ _=>⟨⟩) v
def vTup(d:β)(f:Array Value→β)(v:Value):β :=
 @Value.rec (fun _=>β) (fun _=>PUnit) (fun _=>PUnit) (fun _=>d) (fun _ _=>d) (fun _ _=>d) (fun _ _ _=>d) (fun _=>d) (fun _=>d) (fun _ _ _=>d) (fun _=>d) (fun _=>d) (fun _ _ _ _ _=>d) d (fun _ _ _=>d) d (fun _ _=>d) (fun c _=>f c) (fun _ _=>⟨⟩) ⟨⟩ (fun _ _ _ _=>⟨⟩) v
def vCells(d:β)(ag:List Value→β)(f:Value→β)(v:Value):β :=
 @Value.rec (fun _=>β) (fun _=>PUnit) (fun _=>PUnit) (fun _=>f v) (fun _ _=>f v) (fun _ _=>f v) (fun _ _ _=>f v) (fun _=>f v) (fun _=>f v) (fun _ _ _=>f v) (fun _=>f v) (fun _=>f v) (fun _ _ _ _ _=>f v) (f v) (fun _ _ _=>f v) (f v) (fun c _=>Array.rec ag c) (fun _ _=>d) (fun _ _=>⟨⟩) ⟨⟩ (fun _ _ _ _=>⟨⟩) v
def fV(v:Value)(k:Value→β):β:=vInt (k v) (fun d n=>fI n fun n=>k (.int d n)) v
@[simp] theorem fV_eq (v:Value) (k:Value→β):fV v k=k v:=by cases v<;>simp[fV,vInt]
def lookK(n:Nat)(l:List (Nat×α))(d:β)(k:α→β):β :=
 List.rec d (fun x _ ih=>Prod.rec (fun s v=>Bool.rec ih (k v) (Nat.beq n s)) x) l
theorem lookK_eq(n:Nat)(d:β)(k:α→β):∀l,lookK n l d k=match look n l with|some v=>k v|none=>d
 |[]=>rfl
 |(s,v)::r=>by
  have ih:=lookK_eq n d k r
  show(Bool.rec (lookK n r d k) (k v) (Nat.beq n s):β)=match(bif Nat.beq n s then some v else look n r) with|some v=>k v|none=>d
  cases Nat.beq n s with
  |true=>rfl
  |false=>exact ih
def evK(env:List (Nat×Value))(o:Opd)(k:Value→Option β):Option β:=Opd.rec (fun n=>lookK n env none k) k o
@[simp] theorem evK_eq (env:List (Nat×Value)) (o:Opd) (k:Value→Option β):evK env o k=(evo env o).bind k:=by
 cases o with
 |t n=>show lookK n env none k=(look n env).bind k;rw[lookK_eq];cases look n env<;>rfl
 |c v=>rfl
def evsK(env:List (Nat×Value))(l:List Opd):(List Value→Option β)→Option β :=
 List.rec (fun k=>k []) (fun x _ ih k=>evK env x fun v=>ih fun s=>k (v::s)) l
@[simp] theorem evsK_eq (env:List (Nat×Value)):∀(l:List Opd) (k:List Value→Option β),evsK env l k=(evs env l).bind k
 |[],k=>rfl
 |x::r,k=>by
  show evK env x (fun v=>evsK env r fun s=>k (v::s))=_
  rw[evK_eq]
  unfold evs
  cases evo env x with
  |none=>rfl
  |some v =>
   show evsK env r _=_
   rw[evsK_eq env r]
   cases evs env r<;>rfl
def kIx(k:IntKind):Nat:=IntKind.rec 0 1 2 3 4 5 6 7 k
def kEq(j k:IntKind):Bool:=Nat.beq (kIx j) (kIx k)
theorem kEq_iff(j k:IntKind):kEq j k=decide (j=k):=by cases j<;>cases k<;>rfl
def halfF(k:IntKind):Nat:=IntKind.rec 128 32768 2147483648 9223372036854775808 128 32768 2147483648 9223372036854775808 k
theorem halfF_eq(k:IntKind):halfF k=half k:=by cases k<;>rfl
def wrapNK(kd:IntKind)(m:Nat)(k:Value→Option β):Option β :=
 Bool.rec (fI (wrapF kd (.ofNat m)) fun n=>k (.int kd n)) (fN m fun m=>k (.int kd (.ofNat m))) (Nat.ble (Nat.succ m) (halfF kd))
theorem wrapNK_eq(kd:IntKind)(m:Nat)(k:Value→Option β):wrapNK kd m k=k (.int kd (wrapF kd (.ofNat m))):=by
 unfold wrapNK
 rw[halfF_eq]
 cases h:Nat.ble (Nat.succ m) (half kd) with
 |true =>
  have:Nat.blt m (half kd)=true:=h
  simp[wrapF,this]
 |false=>simp
def slowK(v:Option Value)(k:Value→Option β):Option β:=Option.rec none (fun v=>fV v k) v
@[simp] theorem slowK_eq (v:Option Value) (k:Value→Option β):slowK v k=v.bind k:=by cases v<;>simp[slowK]
def nn(x y:Int)(d:β)(f:Nat→Nat→β):β:=Int.rec (fun a=>Int.rec (fun b=>f a b) (fun _=>d) y) (fun _=>d) x
def kAdd(ka:IntKind)(x:Int)(kb:IntKind)(y:Int)(k:Value→Option β):Option β :=
 Bool.rec none (nn x y (slowK (intBin .add ka x kb y) k) fun a b=>wrapNK ka (Nat.add a b) k) (kEq ka kb)
def kSub(ka:IntKind)(x:Int)(kb:IntKind)(y:Int)(k:Value→Option β):Option β :=
 Bool.rec none (nn x y (slowK (intBin .sub ka x kb y) k) fun a b=>Bool.rec (slowK (intBin .sub ka x kb y) k) (wrapNK ka (Nat.sub a b) k) (Nat.ble b a)) (kEq ka kb)
def kMul(ka:IntKind)(x:Int)(kb:IntKind)(y:Int)(k:Value→Option β):Option β :=
 Bool.rec none (nn x y (slowK (intBin .mul ka x kb y) k) fun a b=>wrapNK ka (Nat.mul a b) k) (kEq ka kb)
def bK(b:Bool)(k:Value→Option β):Option β:=Bool.rec (k (.bool false)) (k (.bool true)) b
def kLss(ka:IntKind)(x:Int)(kb:IntKind)(y:Int)(k:Value→Option β):Option β :=
 Bool.rec none (nn x y (bK (iltF x y) k) fun a b=>bK (Nat.ble (Nat.succ a) b) k) (kEq ka kb)
def kGtr(ka:IntKind)(x:Int)(kb:IntKind)(y:Int)(k:Value→Option β):Option β :=
 Bool.rec none (nn x y (bK (iltF y x) k) fun a b=>bK (Nat.ble (Nat.succ b) a) k) (kEq ka kb)
def kLeq(ka:IntKind)(x:Int)(kb:IntKind)(y:Int)(k:Value→Option β):Option β :=
 Bool.rec none (nn x y (bK (!iltF y x) k) fun a b=>bK (Nat.ble a b) k) (kEq ka kb)
def kGeq(ka:IntKind)(x:Int)(kb:IntKind)(y:Int)(k:Value→Option β):Option β :=
 Bool.rec none (nn x y (bK (!iltF x y) k) fun a b=>bK (Nat.ble b a) k) (kEq ka kb)
def kEql(ka:IntKind)(x:Int)(kb:IntKind)(y:Int)(k:Value→Option β):Option β :=
 Bool.rec none (nn x y (bK (ieqF x y) k) fun a b=>bK (Nat.beq a b) k) (kEq ka kb)
def kNeq(ka:IntKind)(x:Int)(kb:IntKind)(y:Int)(k:Value→Option β):Option β :=
 Bool.rec none (nn x y (bK (!ieqF x y) k) fun a b=>Bool.rec (k (.bool true)) (k (.bool false)) (Nat.beq a b)) (kEq ka kb)
def kSlow(op:BinOp)(ka:IntKind)(x:Int)(kb:IntKind)(y:Int)(k:Value→Option β):Option β:=slowK (intBin op ka x kb y) k
def intK(op:BinOp):IntKind→Int→IntKind→Int→(Value→Option β)→Option β :=
 BinOp.rec kAdd kSub kMul (kSlow .quo) (kSlow .rem) (kSlow .and) (kSlow .or) (kSlow .xor) (kSlow .shl) (kSlow .shr) (kSlow .andNot) kEql kNeq kLss kLeq kGtr kGeq op
@[simp] theorem bK_eq (b:Bool) (k:Value→Option β):bK b k=k (.bool b):=by cases b<;>rfl
theorem nn_eq{x y:Int}{d:β}{f:Nat→Nat→β}{r:β}(hd:d=r)(hf:∀a b,x = .ofNat a→y = .ofNat b→f a b=r):nn x y d f=r:=by
 cases x with
 |ofNat a=>cases y with
  |ofNat b=>exact hf a b rfl rfl
  |negSucc b=>exact hd
 |negSucc a=>exact hd
theorem keq_split{ka kb:IntKind}{x y r:β}(h:ka=kb→x=r)(h':ka≠kb→y=r):(Bool.rec y x (kEq ka kb):β)=r:=by
 rw[kEq_iff]
 by_cases e:ka=kb
 ·simp only[e,decide_true];exact h e
 ·simp only[e,decide_false];exact h' e
theorem blt_le(a b:Nat):(!Nat.blt b a)=Nat.ble a b:=by
 show(!Nat.ble (Nat.succ b) a)=Nat.ble a b
 cases h:Nat.ble a b with
 |true=>rw[Nat.ble_eq] at h;simp only[Bool.not_eq_true'];rw[← Bool.not_eq_true,Nat.ble_eq];omega
 |false=>rw[← Bool.not_eq_true,Nat.ble_eq] at h;simp only[Bool.not_eq_false'];rw[Nat.ble_eq];omega
theorem intK_eq(op:BinOp)(ka:IntKind)(x:Int)(kb:IntKind)(y:Int)(k:Value→Option β):intK op ka x kb y k=(intBin op ka x kb y).bind k:=by
 have cm:∀{p:Prop} [Decidable p] {v:Value},¬p→(if p then some v else none).bind k=none:=by intro p _ v h;rw[if_neg h];rfl
 have cp:∀{p:Prop} [Decidable p] {v:Value},p→(if p then some v else none).bind k=k v:=by intro p _ v h;rw[if_pos h];rfl
 cases op with
 |quo=>exact slowK_eq _ _
 |rem=>exact slowK_eq _ _
 |and=>exact slowK_eq _ _
 |or=>exact slowK_eq _ _
 |xor=>exact slowK_eq _ _
 |shl=>exact slowK_eq _ _
 |shr=>exact slowK_eq _ _
 |andNot=>exact slowK_eq _ _
 |add =>
  refine keq_split (fun e=>nn_eq (slowK_eq _ _) fun a b hx hy=>?_) fun e=>(cm e).symm
  subst hx hy;rw[wrapNK_eq];exact(cp e).symm
 |sub =>
  refine keq_split (fun e=>nn_eq (slowK_eq _ _) fun a b hx hy=>?_) fun e=>(cm e).symm
  subst hx hy
  cases h:Nat.ble b a with
  |false=>exact slowK_eq _ _
  |true =>
   rw[Nat.ble_eq] at h
   refine(wrapNK_eq _ _ _).trans ?_
   refine Eq.trans ?_ (cp e).symm
   rw[show(Int.ofNat (Nat.sub a b))=(Int.ofNat a-Int.ofNat b) from Int.ofNat_sub h]
 |mul =>
  refine keq_split (fun e=>nn_eq (slowK_eq _ _) fun a b hx hy=>?_) fun e=>(cm e).symm
  subst hx hy;rw[wrapNK_eq];exact(cp e).symm
 |eql =>
  refine keq_split (fun e=>nn_eq ((bK_eq _ _).trans (cp e).symm) fun a b hx hy=>?_) fun e=>(cm e).symm
  subst hx hy;rw[bK_eq];exact(cp e).symm
 |neq =>
  refine keq_split (fun e=>nn_eq ((bK_eq _ _).trans (cp e).symm) fun a b hx hy=>?_) fun e=>(cm e).symm
  subst hx hy;refine Eq.trans ?_ (cp e).symm
  show _=k (.bool (!Nat.beq a b))
  cases Nat.beq a b<;>rfl
 |lss =>
  refine keq_split (fun e=>nn_eq ((bK_eq _ _).trans (cp e).symm) fun a b hx hy=>?_) fun e=>(cm e).symm
  subst hx hy;rw[bK_eq];exact(cp e).symm
 |gtr =>
  refine keq_split (fun e=>nn_eq ((bK_eq _ _).trans (cp e).symm) fun a b hx hy=>?_) fun e=>(cm e).symm
  subst hx hy;rw[bK_eq];exact(cp e).symm
 |leq =>
  refine keq_split (fun e=>nn_eq ((bK_eq _ _).trans (cp e).symm) fun a b hx hy=>?_) fun e=>(cm e).symm
  subst hx hy;rw[bK_eq,← blt_le];exact(cp e).symm
 |geq =>
  refine keq_split (fun e=>nn_eq ((bK_eq _ _).trans (cp e).symm) fun a b hx hy=>?_) fun e=>(cm e).symm
  subst hx hy;rw[bK_eq,← blt_le];exact(cp e).symm
def binK(op:BinOp)(e:EqK)(a b:Value)(k:Value→Option β):Option β :=
 vInt (slowK (binVal op e a b) k) (fun ka x=>vInt (slowK (binVal op e a b) k) (fun kb y=>intK op ka x kb y k) b) a
theorem binK_eq(op:BinOp)(e:EqK)(a b:Value)(k:Value→Option β):binK op e a b k=(binVal op e a b).bind k:=by
 cases a<;>first|exact slowK_eq _ _|skip
 cases b<;>first|exact slowK_eq _ _|skip
 exact intK_eq ..
end
end Go.AI
/- The quick evaluator: pure operations and memory. No program is named here. -/
namespace Go.AI
section
variable {β:Type}
theorem vCells_eq{γ:Type}(v:Value)(k:List Value→Option γ):vCells none k (fun v=>k [v]) v=(cellsV v).bind k:=by
 cases v<;>try rfl
def dropK(cs:List Value):Nat→List Value :=
 List.rec (fun _=>[]) (fun x r ih n=>Bool.rec (ih (Nat.sub n 1)) (x::r) (Nat.beq n 0)) cs
theorem dropK_eq:∀(cs:List Value) (n:Nat),dropK cs n=cs.drop n
 |[],n=>by simp[dropK]
 |x::r,0=>rfl
 |x::r,n+1=>dropK_eq r n
def takeK(cs:List Value):Nat→(List Value→Option β)→Option β :=
 List.rec (fun n k=>Bool.rec none (k []) (Nat.beq n 0)) (fun x _ ih n k=>Bool.rec (ih (Nat.sub n 1) fun s=>k (x::s)) (k []) (Nat.beq n 0)) cs
theorem takeK_eq:∀(cs:List Value) (n:Nat) (k:List Value→Option β),takeK cs n k=bif Nat.beq (cs.take n).length n then k (cs.take n) else none
 |[],0,k=>rfl
 |[],n+1,k=>by
  show none=bif Nat.beq 0 (n+1) then _ else _
  rfl
 |x::r,0,k=>rfl
 |x::r,n+1,k=>by
  show takeK r n (fun s=>k (x::s))=bif Nat.beq ((r.take n).length+1) (n+1) then _ else _
  rw[takeK_eq r n]
  rfl
def nthK(cs:List Value):Nat→(Value→Option β)→Option β :=
 List.rec (fun _ _=>none) (fun x _ ih n k=>Bool.rec (ih (Nat.sub n 1) k) (k x) (Nat.beq n 0)) cs
theorem nthK_eq:∀(cs:List Value) (n:Nat) (k:Value→Option β),nthK cs n k=(cs[n]?).bind k
 |[],n,k=>by simp[nthK]
 |x::r,0,k=>rfl
 |x::r,n+1,k=>by
  show nthK r n k=_
  rw[nthK_eq r n k];simp
def overK(vs:List Value):List Value→(List Value→Option β)→Option β :=
 List.rec (fun cs k=>k cs) (fun v _ ih cs k=>List.rec none (fun _ cs' _=>ih cs' fun s=>k (v::s)) cs) vs
theorem overK_eq:∀(vs cs:List Value) (k:List Value→Option β),overK vs cs k=bif Nat.ble vs.length cs.length then k (over cs vs) else none
 |[],cs,k=>by
  have:Nat.ble ([]:List Value).length cs.length=true:=by rw[Nat.ble_eq];exact Nat.zero_le _
  rw[this];cases cs<;>rfl
 |v::vs,[],k=>by
  have:Nat.ble (v::vs).length ([]:List Value).length=false:=by rw[← Bool.not_eq_true,Nat.ble_eq];simp
  rw[this];rfl
 |v::vs,c::cs,k=>by
  show overK vs cs (fun s=>k (v::s))=_
  rw[overK_eq vs cs]
  rfl
def spliceK(cs:List Value):Nat→List Value→(List Value→Option β)→Option β :=
 List.rec (fun n vs k=>Bool.rec none (overK vs [] k) (Nat.beq n 0)) (fun c cs' ih n vs k=>Bool.rec (ih (Nat.sub n 1) vs fun s=>k (c::s)) (overK vs (c::cs') k) (Nat.beq n 0)) cs
theorem spliceK_eq:∀(cs:List Value) (n:Nat) (vs:List Value) (k:List Value→Option β),spliceK cs n vs k=bif Nat.ble (n+vs.length) cs.length then k (splice cs n vs) else none
 |[],0,vs,k=>by
  show overK vs [] k=_
  rw[overK_eq,Nat.zero_add];rfl
 |[],n+1,vs,k=>by
  have:Nat.ble (n+1+vs.length) ([]:List Value).length=false:=by rw[← Bool.not_eq_true,Nat.ble_eq];simp
  rw[this];rfl
 |c::cs,0,vs,k=>by
  show overK vs (c::cs) k=_
  rw[overK_eq,Nat.zero_add];rfl
 |c::cs,n+1,vs,k=>by
  show spliceK cs n vs (fun s=>k (c::s))=_
  rw[spliceK_eq cs n vs]
  have:Nat.ble (n+1+vs.length) (c::cs).length=Nat.ble (n+vs.length) cs.length:=by
   rw[show n+1+vs.length=(n+vs.length)+1 by omega];rfl
  rw[this];rfl
def oneK(g:Bool)(cs:List Value)(off n:Nat)(k:Value→Option β):Option β :=
 Bool.rec (Bool.rec (ob (takeN cs off n) fun r=>ob (oneOf g r) k) (nthK cs off k) (Nat.beq n 1)) (takeK (dropK cs off) n fun r=>k (.agg ⟨r⟩)) g
theorem oneK_eq(g:Bool)(cs:List Value)(off n:Nat)(k:Value→Option β):oneK g cs off n k=(takeN cs off n).bind fun r=>(oneOf g r).bind k:=by
 cases g with
 |true =>
  show takeK (dropK cs off) n _=_
  rw[takeK_eq,dropK_eq]
  simp only[takeN]
  cases Nat.beq ((cs.drop off).take n).length n<;>rfl
 |false =>
  show(Bool.rec (ob (takeN cs off n) fun r=>ob (oneOf false r) k) (nthK cs off k) (Nat.beq n 1):Option β)=_
  cases h:Nat.beq n 1 with
  |false=>show ob _ _=_;simp
  |true =>
   rw[Nat.beq_eq] at h;subst h
   show nthK cs off k=_
   rw[nthK_eq]
   unfold takeN
   rcases Nat.lt_or_ge off cs.length with hl|hl
   ·rw[List.getElem?_eq_getElem hl,List.drop_eq_getElem_cons hl]
    rfl
   ·rw[List.getElem?_eq_none hl,List.drop_eq_nil_of_le hl]
    rfl
def fillK(env:List (Nat×Value))(ps:List (Nat×Nat×Opd)):List Value→(List Value→Option β)→Option β :=
 List.rec (fun cs k=>k cs) (fun p _ ih cs k=>Prod.rec (fun off nx=>Prod.rec (fun n x=>evK env x fun v=>vCells none (fun vs=>Bool.rec none (spliceK cs off vs fun cs'=>ih cs' k) (Nat.beq vs.length n)) (fun v=>Bool.rec none (spliceK cs off [v] fun cs'=>ih cs' k) (Nat.beq 1 n)) v) nx) p) ps
theorem fillK_eq(env:List (Nat×Value)):∀(ps:List (Nat×Nat×Opd)) (cs:List Value) (k:List Value→Option β),fillK env ps cs k=(fillp env cs ps).bind k
 |[],cs,k=>by cases cs<;>rfl
 |(off,n,x)::r,cs,k=>by
  show evK env x (fun v=>vCells none (fun vs=>Bool.rec none (spliceK cs off vs fun cs'=>fillK env r cs' k) (Nat.beq vs.length n)) (fun v=>Bool.rec none (spliceK cs off [v] fun cs'=>fillK env r cs' k) (Nat.beq 1 n)) v)=_
  rw[evK_eq]
  have hb:fillp env cs ((off,n,x)::r)=match evo env x with
   |some v=>match cellsV v with
    |some vs=>bif Nat.beq vs.length n&&Nat.ble (off+n) cs.length then fillp env (splice cs off vs) r else none
    |none=>none
   |none=>none:=by cases cs<;>rfl
  rw[hb]
  cases evo env x with
  |none=>rfl
  |some v =>
   show vCells none (fun vs=>Bool.rec none (spliceK cs off vs fun cs'=>fillK env r cs' k) (Nat.beq vs.length n)) (fun v=>Bool.rec none (spliceK cs off [v] fun cs'=>fillK env r cs' k) (Nat.beq 1 n)) v=_
   have:=vCells_eq v (fun vs=>(Bool.rec none (spliceK cs off vs fun cs'=>fillK env r cs' k) (Nat.beq vs.length n):Option β))
   refine Eq.trans this ?_
   simp only
   cases cellsV v with
   |none=>rfl
   |some vs =>
    show(Bool.rec none (spliceK cs off vs fun cs'=>fillK env r cs' k) (Nat.beq vs.length n):Option β)=(bif Nat.beq vs.length n&&Nat.ble (off+n) cs.length then fillp env (splice cs off vs) r else none).bind k
    cases h:Nat.beq vs.length n with
    |false=>rfl
    |true =>
     rw[Nat.beq_eq] at h
     show spliceK cs off vs (fun cs'=>fillK env r cs' k)=_
     rw[spliceK_eq,h]
     cases Nat.ble (off+n) cs.length with
     |false=>rfl
     |true=>exact fillK_eq env r _ k
def sel(g:Bool)(n:Nat):Nat:=Bool.rec 1 n g
theorem sel_eq(g:Bool)(n:Nat):sel g n=bif g then n else 1:=by cases g<;>rfl
abbrev PK(β:Type):=List (Nat×Value)→(Value→Option β)→Option β
def cold(p:PureOp):PK β:=fun env k=>slowK (peval env p) k
def pMv(x:Opd):PK β:=fun env k=>evK env x k
def pPick(c a b:Opd):PK β:=fun env k=>evK env c (vBool none (Bool.rec (evK env b k) (evK env a k)))
def pBin(op:BinOp)(e:EqK)(x y:Opd):PK β:=fun env k=>evK env x fun a=>evK env y fun b=>binK op e a b k
def pNot(x:Opd):PK β:=fun env k=>evK env x (vBool none (Bool.rec (k (.bool true)) (k (.bool false))))
def pConv(kd:IntKind)(x:Opd):PK β:=fun env k=>evK env x (vInt none fun _ n=>Int.rec (fun m=>wrapNK kd m k) (fun m=>slowK (some (.int kd (wrapF kd (.negSucc m)))) k) n)
def pNil(x:Opd):PK β:=fun env k=>evK env x fun v=>vPtr none (Option.rec none fun _=>k v) v
def adN(d:β)(f:Nat→Nat→β)(a:Option Addr):β:=Option.rec d (fun a=>Addr.rec (fun b o s=>Option.rec (f b o) (fun _=>d) s) a) a
def pFadd(off:Nat)(x:Opd):PK β:=fun env k=>evK env x (vPtr none (adN none fun b o=>fN (Nat.add o off) fun o=>k (.pointer (some ⟨b,o,none⟩))))
def inN(n:Nat)(f:Nat→Option β)(v:Value):Option β:=vInt none (fun _ i=>Int.rec (fun m=>Bool.rec none (f m) (Nat.ble (Nat.succ m) n)) (fun _=>none) i) v
def pIdxL(e:Nat)(x i:Opd):PK β:=fun env k=>evK env x (vSlc none fun a len _=>Option.rec none (fun a=>Addr.rec (fun b o _=>evK env i (inN len fun m=>fN (Nat.add o (Nat.mul m e)) fun o=>k (.pointer (some ⟨b,o,none⟩)))) a) a)
def pIdxA(n e:Nat)(x i:Opd):PK β:=fun env k=>evK env x (vPtr none (adN none fun b o=>evK env i (inN n fun m=>fN (Nat.add o (Nat.mul m e)) fun o=>k (.pointer (some ⟨b,o,none⟩)))))
def pIdxG(n e:Nat)(g:Bool)(x i:Opd):PK β:=fun env k=>evK env x (vAgg none (Array.rec fun cs=>evK env i (inN n fun m=>oneK g cs (Nat.mul m e) (sel g e) k)))
def pFld(off n:Nat)(g:Bool)(x:Opd):PK β:=fun env k=>evK env x (vAgg none (Array.rec fun cs=>oneK g cs off (sel g n) k))
def pExt(i:Nat)(x:Opd):PK β:=fun env k=>evK env x (vTup none (Array.rec fun cs=>nthK cs i k))
def pBuild(z:List Value)(ps:List (Nat×Nat×Opd)):PK β:=fun env k=>fillK env ps z fun cs=>k (.agg ⟨cs⟩)
def pLen(x:Opd):PK β:=fun env k=>evK env x (vSlc none fun _ n _=>fN n fun n=>k (.int .i64 (.ofNat n)))
def pK(p:PureOp):PK β :=
 PureOp.rec pMv pPick pBin pNot (fun x=>cold (.neg x)) (fun x=>cold (.com x)) pConv (fun x=>cold (.same x)) (fun x a b=>cold (.slS x a b)) (fun e x a b c=>cold (.slL e x a b c)) (fun n e x a b c=>cold (.slA n e x a b c))
  pNil pFadd pIdxL pIdxA (fun x i=>cold (.idxS x i)) pIdxG pFld pExt (fun f cs=>cold (.mkfn f cs)) pBuild pLen (fun x=>cold (.lens x)) (fun n=>cold (.alen n)) (fun x=>cold (.cap x)) (fun xs=>cold (.max xs)) (fun xs=>cold (.min xs)) p
theorem cold_eq(p:PureOp)(env:List (Nat×Value))(k:Value→Option β):cold p env k=(peval env p).bind k:=slowK_eq _ _
theorem inN_eq(n:Nat)(f:Nat→Option β)(v:Value):inN n f v=(natOf v).bind fun m=>bif Nat.blt m n then f m else none:=by
 cases v<;>try rfl
 rename_i i
 cases i with
 |negSucc m=>rfl
 |ofNat m =>
  show Bool.rec none (f m) (Nat.ble (Nat.succ m) n)=bif Nat.ble (Nat.succ m) n then f m else none
  cases Nat.ble (Nat.succ m) n<;>rfl
theorem pK_eq(p:PureOp)(env:List (Nat×Value))(k:Value→Option β):pK p env k=(peval env p).bind k:=by
 cases p with
 |mv x=>exact evK_eq ..
 |pick c a b =>
  refine(evK_eq ..).trans ?_
  simp only[peval]
  cases evo env c with
  |none=>rfl
  |some v =>
   cases v<;>try rfl
   rename_i b'
   cases b'<;>exact evK_eq ..
 |bin op e x y =>
  refine(evK_eq ..).trans ?_
  simp only[peval]
  cases evo env x with
  |none=>rfl
  |some v =>
   refine(evK_eq ..).trans ?_
   cases evo env y with
   |none=>rfl
   |some u=>exact binK_eq ..
 |not x =>
  refine(evK_eq ..).trans ?_
  simp only[peval]
  cases evo env x with
  |none=>rfl
  |some v =>
        cases v<;>try rfl
        rename_i b;cases b<;>rfl
 |neg x=>exact cold_eq _ _ _
 |com x=>exact cold_eq _ _ _
 |conv kd x =>
  refine(evK_eq ..).trans ?_
  simp only[peval]
  cases evo env x with
  |none=>rfl
  |some v =>
        cases v<;>try rfl
        rename_i n;cases n with
        |ofNat m=>exact wrapNK_eq ..
        |negSucc m=>exact slowK_eq (some (.int kd (wrapF kd (.negSucc m)))) k
 |same x=>exact cold_eq _ _ _
 |slS x a b=>exact cold_eq _ _ _
 |slL e x a b c=>exact cold_eq _ _ _
 |slA n e x a b c=>exact cold_eq _ _ _
 |nilck x =>
  refine(evK_eq ..).trans ?_
  simp only[peval]
  cases evo env x with
  |none=>rfl
  |some v =>
        cases v<;>try rfl
        rename_i a;cases a<;>rfl
 |fadd off x =>
  refine(evK_eq ..).trans ?_
  simp only[peval]
  cases evo env x with
  |none=>rfl
  |some v =>
        cases v<;>try rfl
        rename_i a
        rcases a with _|⟨b,o,_|s⟩<;>try rfl
        exact fN_eq (Nat.add o off) fun o=>k (.pointer (some ⟨b,o,none⟩))
 |idxL e x i =>
  refine(evK_eq ..).trans ?_
  simp only[peval]
  cases evo env x with
  |none=>rfl
  |some v =>
        cases v<;>try rfl
        rename_i a len cap
        rcases a with _|⟨b,o,s⟩
        ·rfl
        ·refine Eq.trans (evK_eq env i (inN len fun m=>fN (Nat.add o (Nat.mul m e)) fun o=>k (.pointer (some ⟨b,o,none⟩)))) ?_
         cases evo env i with
         |none=>rfl
         |some u =>
          refine Eq.trans (inN_eq len (fun m=>fN (Nat.add o (Nat.mul m e)) fun o=>k (.pointer (some ⟨b,o,none⟩))) u) ?_
          show((natOf u).bind fun m=>bif Nat.blt m len then fN (Nat.add o (Nat.mul m e)) (fun o=>k (.pointer (some ⟨b,o,none⟩))) else none)=(match natOf u with|some n=>bif Nat.blt n len then some (Value.pointer (some ⟨b,o+n*e,none⟩)) else none|none=>none).bind k
          cases natOf u with
          |none=>rfl
          |some m =>
           show(bif Nat.blt m len then fN _ _ else none)=_
           simp only
           cases Nat.blt m len with
           |false=>rfl
           |true=>exact fN_eq (Nat.add o (Nat.mul m e)) fun o=>k (.pointer (some ⟨b,o,none⟩))
 |idxA n e x i =>
  refine(evK_eq ..).trans ?_
  simp only[peval]
  cases evo env x with
  |none=>rfl
  |some v =>
        cases v<;>try rfl
        rename_i a
        rcases a with _|⟨b,o,_|s⟩<;>try rfl
        refine Eq.trans (evK_eq env i (inN n fun m=>fN (Nat.add o (Nat.mul m e)) fun o=>k (.pointer (some ⟨b,o,none⟩)))) ?_
        cases evo env i with
        |none=>rfl
        |some u =>
         refine Eq.trans (inN_eq n (fun m=>fN (Nat.add o (Nat.mul m e)) fun o=>k (.pointer (some ⟨b,o,none⟩))) u) ?_
         show((natOf u).bind fun m=>bif Nat.blt m n then fN (Nat.add o (Nat.mul m e)) (fun o=>k (.pointer (some ⟨b,o,none⟩))) else none)=(match natOf u with|some m=>bif Nat.blt m n then some (Value.pointer (some ⟨b,o+m*e,none⟩)) else none|none=>none).bind k
         cases natOf u with
         |none=>rfl
         |some m =>
          show(bif Nat.blt m n then fN _ _ else none)=_
          simp only
          cases Nat.blt m n with
          |false=>rfl
          |true=>exact fN_eq (Nat.add o (Nat.mul m e)) fun o=>k (.pointer (some ⟨b,o,none⟩))
 |idxS x i=>exact cold_eq _ _ _
 |idxG n e g x i =>
  refine(evK_eq ..).trans ?_
  simp only[peval]
  cases evo env x with
  |none=>rfl
  |some v =>
        cases v<;>try rfl
        rename_i a
        obtain⟨cs⟩:=a
        refine Eq.trans (evK_eq env i (inN n fun m=>oneK g cs (Nat.mul m e) (sel g e) k)) ?_
        cases evo env i with
        |none=>rfl
        |some u =>
         refine Eq.trans (inN_eq n (fun m=>oneK g cs (Nat.mul m e) (sel g e) k) u) ?_
         show((natOf u).bind fun m=>bif Nat.blt m n then oneK g cs (Nat.mul m e) (sel g e) k else none)=(match natOf u with|some m=>bif Nat.blt m n then(match takeN cs (m*e) (bif g then e else 1) with|some r=>oneOf g r|none=>none) else none|none=>none).bind k
         cases natOf u with
         |none=>rfl
         |some m =>
          show(bif Nat.blt m n then _ else none)=_
          simp only
          cases Nat.blt m n with
          |false=>rfl
          |true =>
           refine Eq.trans (oneK_eq g cs (Nat.mul m e) (sel g e) k) ?_
           show _=(match takeN cs (m*e) (bif g then e else 1) with|some r=>oneOf g r|none=>none).bind k
           have:=sel_eq g e
           rw[this]
           show(takeN cs (m*e) (bif g then e else 1)).bind _=_
           cases takeN cs (m*e) (bif g then e else 1)<;>rfl
 |fld off n g x =>
  refine(evK_eq ..).trans ?_
  simp only[peval]
  cases evo env x with
  |none=>rfl
  |some v =>
        cases v<;>try rfl
        rename_i a
        obtain⟨cs⟩:=a
        refine Eq.trans (oneK_eq g cs off (sel g n) k) ?_
        show _=(match takeN cs off (bif g then n else 1) with|some r=>oneOf g r|none=>none).bind k
        have:=sel_eq g n
        rw[this]
        cases takeN cs off (bif g then n else 1)<;>rfl
 |ext i x =>
  refine(evK_eq ..).trans ?_
  simp only[peval]
  cases evo env x with
  |none=>rfl
  |some v =>
        cases v<;>try rfl
        rename_i a
        obtain⟨cs⟩:=a
        refine(nthK_eq cs i k).trans ?_
        rfl
 |mkfn f cs=>exact cold_eq _ _ _
 |build z ps =>
  refine(fillK_eq ..).trans ?_
  simp only[peval]
  cases fillp env z ps<;>rfl
 |len x =>
  refine(evK_eq ..).trans ?_
  simp only[peval]
  cases evo env x with
  |none=>rfl
  |some v =>
        cases v<;>try rfl
        rename_i n c
        exact fN_eq n fun n=>k (.int .i64 (.ofNat n))
 |lens x=>exact cold_eq _ _ _
 |alen n=>exact cold_eq _ _ _
 |cap x=>exact cold_eq _ _ _
 |max xs=>exact cold_eq _ _ _
 |min xs=>exact cold_eq _ _ _
end
end Go.AI
/- The quick evaluator: memory operations, regions, code, functions. It answers as the plain one. No program is named here. -/
namespace Go.AI
section
variable {X β:Type}
def getK(m:Mem X)(i:Nat)(k:AObj X→Option β):Option β:=Mem.rec (fun loc tbl _=>lookK i loc (lookK i tbl none k) k) m
theorem getK_eq(m:Mem X)(i:Nat)(k:AObj X→Option β):getK m i k=(m.get i).bind k:=by
 obtain⟨loc,tbl,nx⟩:=m
 show lookK i loc (lookK i tbl none k) k=(match look i loc with|some o=>some o|none=>look i tbl).bind k
 rw[lookK_eq]
 cases look i loc with
 |some o=>rfl
 |none=>show lookK i tbl none k=_;rw[lookK_eq];cases look i tbl<;>rfl
def loadOK(g:Bool)(off n:Nat)(k:Value→Option β)(o:AObj X):Option β :=
 AObj.rec (fun cs=>oneK g cs off n k) (fun _ _ cs=>oneK g cs off n k) (fun _ cs=>oneK g cs off n k) (fun k0 cs=>Bool.rec none (oneK g cs (Nat.sub off k0) n k) (Nat.ble k0 off)) (fun _ _=>none) (fun _=>none) o
theorem loadOK_eq(g:Bool)(off n:Nat)(k:Value→Option β)(o:AObj X):loadOK g off n k o=(match cellsO o with|some cs=>takeN cs off n|none=>winO o off n).bind fun r=>(oneOf g r).bind k:=by
 cases o with
 |cells cs=>exact oneK_eq ..
 |grown e t cs=>exact oneK_eq ..
 |typed t cs=>exact oneK_eq ..
 |ro k0 cs =>
  show(Bool.rec none (oneK g cs (Nat.sub off k0) n k) (Nat.ble k0 off):Option β)=(bif Nat.ble k0 off then takeN cs (Nat.sub off k0) n else none).bind _
  cases Nat.ble k0 off with
  |false=>rfl
  |true=>exact oneK_eq ..
 |map es c=>rfl
 |ext x=>rfl
def loadK(g:Bool)(m:Mem X)(a:Addr)(n:Nat)(k:Value→Option β):Option β :=
 Addr.rec (fun b off s=>Option.rec (getK m b fun o=>loadOK g off n k o) (fun _=>none) s) a
theorem loadK_eq(g:Bool)(m:Mem X)(a:Addr)(n:Nat)(k:Value→Option β):loadK g m a n k=(m.load a n).bind fun r=>(oneOf g r).bind k:=by
 obtain⟨b,off,s⟩:=a
 cases s with
 |some s=>rfl
 |none =>
  show getK m b _=(match m.get b with|some o=>(match cellsO o with|some cs=>takeN cs off n|none=>winO o off n)|none=>none).bind _
  rw[getK_eq]
  cases m.get b with
  |none=>rfl
  |some o=>exact loadOK_eq ..
def updK(i:Nat)(f:AObj X→(AObj X→Option β)→Option β)(l:List (Nat×AObj X)):(List (Nat×AObj X)→Option β)→Option β→Option β :=
 List.rec (fun _ d=>d) (fun x r ih kf d=>Prod.rec (fun s o=>Bool.rec (ih (fun r'=>kf ((s,o)::r')) d) (f o fun o'=>kf ((s,o')::r)) (Nat.beq i s)) x) l
theorem updK_eq(i:Nat)(g:AObj X→Option (AObj X)):∀(l:List (Nat×AObj X)) (kf:List (Nat×AObj X)→Option β) (d:Option β),updK i (fun o k=>(g o).bind k) l kf d=match look i l with|some o=>(g o).bind fun o'=>kf (upd i o' l)|none=>d
 |[],kf,d=>rfl
 |(s,o)::r,kf,d=>by
  show(Bool.rec (updK i (fun o k=>(g o).bind k) r (fun r'=>kf ((s,o)::r')) d) ((g o).bind fun o'=>kf ((s,o')::r)) (Nat.beq i s):Option β)=match(bif Nat.beq i s then some o else look i r) with|some o1=>(g o1).bind fun o'=>kf (upd i o' ((s,o)::r))|none=>d
  cases h:Nat.beq i s with
  |true =>
   show((g o).bind fun o'=>kf ((s,o')::r))=(g o).bind fun o'=>kf (bif Nat.beq i s then(s,o')::r else(s,o)::upd i o' r)
   rw[h];rfl
  |false =>
   show updK i (fun o k=>(g o).bind k) r (fun r'=>kf ((s,o)::r')) d=match look i r with|some o1=>(g o1).bind fun o'=>kf (bif Nat.beq i s then(s,o')::r else(s,o)::upd i o' r)|none=>d
   rw[h]
   exact updK_eq i g r _ d
def putK(vs:List Value)(off:Nat)(o:AObj X)(k:AObj X→Option β):Option β :=
 AObj.rec (fun cs=>spliceK cs off vs fun cs=>k (.cells cs)) (fun e t cs=>spliceK cs off vs fun cs=>k (.grown e t cs)) (fun t cs=>spliceK cs off vs fun cs=>k (.typed t cs)) (fun _ _=>none) (fun _ _=>none) (fun _=>none) o
def putG(vs:List Value)(off:Nat)(o:AObj X):Option (AObj X) :=
 match cellsO o with
 |some cs=>bif Nat.ble (off+vs.length) cs.length then putO (splice cs off vs) o else none
 |none=>none
theorem putK_eq(vs:List Value)(off:Nat)(o:AObj X)(k:AObj X→Option β):putK vs off o k=(putG vs off o).bind k:=by
 cases o with
 |cells cs =>
  show spliceK cs off vs _=(bif Nat.ble (off+vs.length) cs.length then some (AObj.cells (splice cs off vs)) else none).bind k
  rw[spliceK_eq]
  cases Nat.ble (off+vs.length) cs.length<;>rfl
 |typed t cs =>
  show spliceK cs off vs _=(bif Nat.ble (off+vs.length) cs.length then some (AObj.typed t (splice cs off vs)) else none).bind k
  rw[spliceK_eq]
  cases Nat.ble (off+vs.length) cs.length<;>rfl
 |grown e t cs =>
  show spliceK cs off vs _=(bif Nat.ble (off+vs.length) cs.length then some (AObj.grown e t (splice cs off vs)) else none).bind k
  rw[spliceK_eq]
  cases Nat.ble (off+vs.length) cs.length<;>rfl
 |ro k0 cs=>rfl
 |map es c=>rfl
 |ext x=>rfl
def storeK(m:Mem X)(a:Addr)(vs:List Value)(k:Mem X→Option β):Option β :=
 Addr.rec (fun b off s=>Option.rec (Mem.rec (fun loc tbl nx=>updK b (putK vs off) loc (fun loc'=>k ⟨loc',tbl,nx⟩) (updK b (putK vs off) tbl (fun tbl'=>k ⟨loc,tbl',nx⟩) none)) m) (fun _=>none) s) a
theorem storeK_eq(m:Mem X)(a:Addr)(vs:List Value)(k:Mem X→Option β):storeK m a vs k=(m.store a vs).bind k:=by
 obtain⟨b,off,s⟩:=a
 cases s with
 |some s=>rfl
 |none =>
  obtain⟨loc,tbl,nx⟩:=m
  have hp:(putK vs off:AObj X→(AObj X→Option β)→Option β)=fun o k=>(putG vs off o).bind k:=by funext o k;exact putK_eq ..
  have hst:(⟨loc,tbl,nx⟩:Mem X).store ⟨b,off,none⟩ vs=match(⟨loc,tbl,nx⟩:Mem X).get b with
   |some o=>(putG vs off o).map ((⟨loc,tbl,nx⟩:Mem X).put b)
   |none=>none:=by
   show(match(⟨loc,tbl,nx⟩:Mem X).get b with|some o=>(match cellsO o with|some cs=>bif Nat.ble (off+vs.length) cs.length then(putO (splice cs off vs) o).map ((⟨loc,tbl,nx⟩:Mem X).put b) else none|none=>none)|none=>none)=_
   cases(⟨loc,tbl,nx⟩:Mem X).get b with
   |none=>rfl
   |some o =>
    show(match cellsO o with|some cs=>bif Nat.ble (off+vs.length) cs.length then(putO (splice cs off vs) o).map ((⟨loc,tbl,nx⟩:Mem X).put b) else none|none=>none)=(match cellsO o with|some cs=>bif Nat.ble (off+vs.length) cs.length then putO (splice cs off vs) o else none|none=>none).map _
    cases cellsO o with
    |none=>rfl
    |some cs=>simp only;cases Nat.ble (off+vs.length) cs.length<;>rfl
  rw[hst]
  show updK b (putK vs off) loc (fun loc'=>k ⟨loc',tbl,nx⟩) (updK b (putK vs off) tbl (fun tbl'=>k ⟨loc,tbl',nx⟩) none)=_
  rw[hp,updK_eq,updK_eq]
  have hput:∀o,(⟨loc,tbl,nx⟩:Mem X).put b o=match look b loc with|some _=>⟨upd b o loc,tbl,nx⟩|none=>⟨loc,upd b o tbl,nx⟩:=fun o=>rfl
  have hget:(⟨loc,tbl,nx⟩:Mem X).get b=match look b loc with|some o=>some o|none=>look b tbl:=rfl
  rw[hget]
  cases hl:look b loc with
  |some o =>
   dsimp only
   cases putG vs off o with
   |none=>rfl
   |some o' =>
    rw[Option.map_some,bind_some',bind_some',hput,hl]
  |none =>
   dsimp only
   cases look b tbl with
   |none=>rfl
   |some o =>
    dsimp only
    cases putG vs off o with
    |none=>rfl
    |some o'=>rw[Option.map_some,bind_some',bind_some',hput,hl]
abbrev Env:=List (Nat×Value)
abbrev KM(X β:Type):=Env→Mem X→Option β
abbrev CallK(X β:Type):=Nat→List Value→Hp X→(Value→Hp X→Option β)→Option β
abbrev SK(X β:Type):=CallK X β→Env→Mem X→KM X β→Option β
def coldM(i:IOp):SK X β:=fun _ env m k=>Option.rec none (fun r=>Prod.rec (fun v m'=>fV v fun v=>k (putEnv i.dst v env) m') r) (mstep env m i)
def sPure(d:Nat)(p:PureOp):SK X β:=fun _ env m k=>pK p env fun v=>k ((d,v)::env) m
def sLoad(d n:Nat)(g:Bool)(a:Opd):SK X β:=fun _ env m k=>evK env a (vPtr none (Option.rec none fun ad=>loadK g m ad n fun v=>k ((d,v)::env) m))
def sStore(n:Nat)(a x:Opd):SK X β:=fun _ env m k=>evK env a (vPtr none (Option.rec none fun ad=>evK env x (vCells none (fun vs=>Bool.rec none (storeK m ad vs (k env)) (Nat.beq vs.length n)) (fun v=>Bool.rec none (storeK m ad [v] (k env)) (Nat.beq 1 n)))))
def newK(d:Nat)(hp:Bool)(cs:List Value):SK X β:=fun _ env m k =>
 Mem.rec (fun loc tbl nx=>fN (Nat.succ nx) fun nx'=>Bool.rec (k ((d,.pointer (some ⟨nx,0,none⟩))::env) ⟨(nx,.cells cs)::loc,tbl,nx'⟩) (k ((d,.pointer (some ⟨nx,0,none⟩))::env) ⟨loc,(nx,.cells cs)::tbl,nx'⟩) hp) m
def sBox(d:Nat)(hp:Bool)(x:Opd):SK X β:=fun c env m k=>evK env x (vCells none (fun vs=>newK d hp vs c env m k) (fun v=>newK d hp [v] c env m k))
def fnK(d:β)(f:Nat→β)(g:Fn):β:=Fn.rec f (fun _=>d) (fun _ _=>d) (fun _ _ _ _=>d) (fun _=>d) g
def capK(vs:List Value)(cap:Array Value):List Value:=Array.rec (fun cap=>List.rec vs (fun x r _=>vs++(x::r)) cap) cap
def sCall(d:Option Nat)(f:Opd)(xs:List Opd):SK X β:=fun call env m k =>
 evK env f (vFun none fun g cap=>fnK none (fun f=>evsK env xs fun vs=>Mem.rec (fun loc tbl nx=>call f (capK vs cap) ⟨tbl,nx⟩ fun v h=>Hp.rec (fun tbl' nx'=>k (putEnv d v env) ⟨loc,tbl',nx'⟩) h) m) g)
def stepK(i:IOp):SK X β :=
 IOp.rec sPure sLoad sStore newK sBox (fun d n e z ps=>coldM (.bslice d n e z ps)) (fun d e b z l c=>coldM (.mslice d e b z l c)) (fun d t x=>coldM (.s2b d t x)) (fun d x=>coldM (.b2s d x))
  (fun d e b t x y=>coldM (.append d e b t x y)) (fun d e x y=>coldM (.copy d e x y)) (fun d e z x=>coldM (.clear d e z x)) sCall (fun d=>coldM (.mmap d)) (fun d z a o m k=>coldM (.mget d z a o m k)) (fun m k x=>coldM (.mset m k x))
  (fun d z a m k=>coldM (.ment d z a m k)) (fun m s x=>coldM (.ests m s x)) (fun d m=>coldM (.mlen d m)) (fun d m=>coldM (.mclr d m)) (fun d h t cs=>coldM (.newt d h t cs)) (fun d t x=>coldM (.tou d t x)) (fun d t n x=>coldM (.fromu d t n x)) (fun d x=>coldM (.usd d x)) (fun d t x n=>coldM (.ustr d t x n)) (fun d e b t z x n=>coldM (.appz d e b t z x n)) i
theorem capK_eq(vs:List Value)(cap:Array Value):capK vs cap=vs++cap.toList:=by
 obtain⟨l⟩:=cap
 cases l with
 |nil=>exact(List.append_nil vs).symm
 |cons x r=>rfl
theorem coldM_eq(i:IOp)(call:CallK X β)(env:Env)(m:Mem X)(k:KM X β):coldM i call env m k=(mstep env m i).bind fun r=>k (putEnv i.dst r.1 env) r.2:=by
 unfold coldM
 cases mstep env m i with
 |none=>rfl
 |some r=>exact fV_eq r.1 _
def SameCall(ck:CallK X β)(c:CallFn X):Prop:=∀f vs h k,ck f vs h k=(c f vs h).bind fun r=>k r.1 r.2
theorem stepK_eq{ck:CallK X β}{c:CallFn X}(hc:SameCall ck c)(i:IOp)(env:Env)(m:Mem X)(k:KM X β):stepK i ck env m k=(estep c env m i).bind fun r=>k (putEnv i.dst r.1 env) r.2:=by
 cases i with
 |pure d p =>
  show pK p env (fun v=>k ((d,v)::env) m)=(match peval env p with|some v=>some (v,m)|none=>none).bind _
  rw[pK_eq]
  cases peval env p<;>rfl
 |load d n g a =>
  show evK env a (vPtr none (Option.rec none fun ad=>loadK g m ad n fun v=>k ((d,v)::env) m))=(mstep env m (.load d n g a)).bind _
  rw[evK_eq]
  simp only[mstep]
  cases evo env a with
  |none=>rfl
  |some v =>
   cases v<;>try rfl
   rename_i ad
   cases ad with
   |none=>rfl
   |some ad =>
    show loadK g m ad n (fun v=>k ((d,v)::env) m)=_
    rw[loadK_eq]
    dsimp only
    cases m.load ad n with
    |none=>rfl
    |some r =>
     dsimp only
     rw[bind_some']
     cases oneOf g r<;>rfl
 |store n a x =>
  show evK env a (vPtr none (Option.rec none fun ad=>evK env x (vCells none (fun vs=>Bool.rec none (storeK m ad vs (k env)) (Nat.beq vs.length n)) (fun v=>Bool.rec none (storeK m ad [v] (k env)) (Nat.beq 1 n)))))=(mstep env m (.store n a x)).bind _
  rw[evK_eq]
  simp only[mstep]
  cases evo env a with
  |none=>rfl
  |some v =>
   cases v<;>try (cases evo env x<;>rfl)
   rename_i ad
   cases ad with
   |none=>cases evo env x<;>rfl
   |some ad =>
    show evK env x (vCells none (fun vs=>Bool.rec none (storeK m ad vs (k env)) (Nat.beq vs.length n)) (fun v=>Bool.rec none (storeK m ad [v] (k env)) (Nat.beq 1 n)))=_
    rw[evK_eq]
    cases evo env x with
    |none=>rfl
    |some u =>
     refine(vCells_eq u fun vs=>(Bool.rec none (storeK m ad vs (k env)) (Nat.beq vs.length n):Option β)).trans ?_
     dsimp only
     cases cellsV u with
     |none=>rfl
     |some vs =>
      show(Bool.rec none (storeK m ad vs (k env)) (Nat.beq vs.length n):Option β)=(bif Nat.beq vs.length n then(m.store ad vs).map fun m'=>(undef,m') else none).bind _
      cases Nat.beq vs.length n with
      |false=>rfl
      |true =>
       show storeK m ad vs (k env)=((m.store ad vs).map fun m'=>(undef,m')).bind _
       rw[storeK_eq]
       cases m.store ad vs<;>rfl
 |new d hp cs =>
  obtain⟨loc,tbl,nx⟩:=m
  cases hp<;>rfl
 |box d hp x =>
  show evK env x (vCells none (fun vs=>newK d hp vs ck env m k) (fun v=>newK d hp [v] ck env m k))=(mstep env m (.box d hp x)).bind _
  rw[evK_eq]
  simp only[mstep,allocI]
  cases evo env x with
  |none=>rfl
  |some u =>
   refine(vCells_eq u fun vs=>newK d hp vs ck env m k).trans ?_
   dsimp only
   cases cellsV u with
   |none=>rfl
   |some vs=>obtain⟨loc,tbl,nx⟩:=m;cases hp<;>rfl
 |bslice d n e z ps=>exact coldM_eq (.bslice d n e z ps) ck env m k
 |mslice d e b z l cc=>exact coldM_eq (.mslice d e b z l cc) ck env m k
 |s2b d t x=>exact coldM_eq (.s2b d t x) ck env m k
 |b2s d x=>exact coldM_eq (.b2s d x) ck env m k
 |append d e b t x y=>exact coldM_eq (.append d e b t x y) ck env m k
 |copy d e x y=>exact coldM_eq (.copy d e x y) ck env m k
 |clear d e z x=>exact coldM_eq (.clear d e z x) ck env m k
 |call d f xs =>
  show evK env f (vFun none fun g cap=>fnK none (fun f=>evsK env xs fun vs=>Mem.rec (fun loc tbl nx=>ck f (capK vs cap) ⟨tbl,nx⟩ fun v h=>Hp.rec (fun tbl' nx'=>k (putEnv d v env) ⟨loc,tbl',nx'⟩) h) m) g)=(estep c env m (.call d f xs)).bind _
  rw[evK_eq]
  simp only[estep]
  cases evo env f with
  |none=>rfl
  |some v =>
   cases v<;>try rfl
   rename_i g fst cap
   cases g<;>try rfl
   rename_i fid
   show evsK env xs (fun vs=>Mem.rec (fun loc tbl nx=>ck fid (capK vs cap) ⟨tbl,nx⟩ fun v h=>Hp.rec (fun tbl' nx'=>k (putEnv d v env) ⟨loc,tbl',nx'⟩) h) m)=_
   rw[evsK_eq]
   cases evs env xs with
   |none=>rfl
   |some vs =>
    obtain⟨loc,tbl,nx⟩:=m
    show ck fid (capK vs cap) ⟨tbl,nx⟩ (fun v h=>Hp.rec (fun tbl' nx'=>k (putEnv d v env) ⟨loc,tbl',nx'⟩) h)=_
    rw[hc,capK_eq]
    dsimp only
    cases c fid (vs++cap.toList) ⟨tbl,nx⟩ with
    |none=>rfl
    |some r=>rfl
 |mmap d=>exact coldM_eq (.mmap d) ck env m k
 |mget d z a o mm kk=>exact coldM_eq (.mget d z a o mm kk) ck env m k
 |mset mm kk x=>exact coldM_eq (.mset mm kk x) ck env m k
 |ment d z a mm kk=>exact coldM_eq (.ment d z a mm kk) ck env m k
 |ests mm s x=>exact coldM_eq (.ests mm s x) ck env m k
 |mlen d mm=>exact coldM_eq (.mlen d mm) ck env m k
 |mclr d mm=>exact coldM_eq (.mclr d mm) ck env m k
 |newt d h t cs=>exact coldM_eq (.newt d h t cs) ck env m k
 |tou d t x=>exact coldM_eq (.tou d t x) ck env m k
 |fromu d t n x=>exact coldM_eq (.fromu d t n x) ck env m k
 |usd d x=>exact coldM_eq (.usd d x) ck env m k
 |ustr d t x n=>exact coldM_eq (.ustr d t x n) ck env m k
 |appz d e b t z x n=>exact coldM_eq (.appz d e b t z x n) ck env m k
def wantK(env:Env)(g:Option (Nat×Bool))(y n:Option β):Option β :=
 Option.rec y (fun dw=>Option.rec none (fun b=>Bool.rec n y b) (wanted env (some dw))) g
def dstK(i:IOp)(env:Env):Env:=putEnv i.dst undef env
def opsK(call:CallK X β)(l:List (Option (Nat×Bool)×IOp)):Env→Mem X→KM X β→Option β :=
 List.rec (fun env m k=>k env m) (fun gi _ ih env m k=>Prod.rec (fun g i=>wantK env g (stepK i call env m fun env' m'=>ih env' m' k) (ih (dstK i env) m k)) gi) l
theorem opsK_eq{ck:CallK X β}{c:CallFn X}(hc:SameCall ck c):∀(l:List (Option (Nat×Bool)×IOp)) (env:Env) (m:Mem X) (k:KM X β),opsK ck l env m k=(runOps c l env m).bind fun r=>k r.1 r.2
 |[],env,m,k=>rfl
 |(g,i)::r,env,m,k=>by
  show wantK env g (stepK i ck env m fun env' m'=>opsK ck r env' m' k) (opsK ck r (dstK i env) m k)=(match wanted env g with|some true=>(match estep c env m i with|some (v,m')=>runOps c r (putEnv i.dst v env) m'|none=>none)|some false=>runOps c r (putEnv i.dst undef env) m|none=>none).bind _
  have hy:(stepK i ck env m fun env' m'=>opsK ck r env' m' k)=(match estep c env m i with|some (v,m')=>runOps c r (putEnv i.dst v env) m'|none=>none).bind fun r=>k r.1 r.2:=by
   rw[stepK_eq hc]
   cases estep c env m i with
   |none=>rfl
   |some x=>exact opsK_eq hc r _ _ k
  rw[hy,opsK_eq hc r]
  cases g with
  |none=>rfl
  |some dw =>
   show(Option.rec none (fun b=>Bool.rec _ _ b) (wanted env (some dw)):Option β)=_
   cases wanted env (some dw) with
   |none=>rfl
   |some b=>cases b<;>rfl
end
section
variable {X β:Type}
abbrev CK(X β:Type):=Env→Mem X→KM X β→(Ex→KM X β)→Option β
def fin(kn:KM X β)(ka:Ex→KM X β)(r:Option (Ex×Env×Mem X)):Option β :=
 match r with
 |none=>none
 |some (.norm,e,m)=>kn e m
 |some (x,e,m)=>ka x e m
def inM(k m:Nat):Bool:=Nat.beq (Nat.land (Nat.shiftRight m k) 1) 1
theorem inM_eq(k m:Nat):inM k m=m.testBit k:=by
 unfold inM Nat.testBit
 show Nat.beq (Nat.land (m >>> k) 1) 1=(1 &&& m >>> k != 0)
 rw[show(1 &&& m >>> k)=Nat.land (m >>> k) 1 from Nat.and_comm 1 (m >>> k)]
 have h2:Nat.land (m >>> k) 1=(m >>> k) % 2:=Nat.and_one_is_mod (m >>> k)
 rw[h2]
 rcases Nat.mod_two_eq_zero_or_one (m >>> k) with h|h<;>rw[h]<;>rfl
def uniqK(l:Env):Nat→(Env→β)→β :=
 List.rec (fun _ k=>k []) (fun x _ ih m k=>Prod.rec (fun s _=>Bool.rec (ih (Nat.lor m (Nat.shiftLeft 1 s)) fun r=>k (x::r)) (ih m k) (inM s m)) x) l
theorem uniqK_eq:∀(l:Env) (seen:List Nat) (m:Nat) (k:Env→β),(∀i,m.testBit i=memB i seen)→uniqK l m k=k (uniq seen l)
 |[],seen,m,k,h=>rfl
 |(s,v)::r,seen,m,k,h=>by
  show(Bool.rec (uniqK r (Nat.lor m (Nat.shiftLeft 1 s)) fun r=>k ((s,v)::r)) (uniqK r m k) (inM s m):β)=k (bif memB s seen then uniq seen r else(s,v)::uniq (s::seen) r)
  rw[inM_eq,h s]
  cases hs:memB s seen with
  |true=>exact uniqK_eq r seen m k h
  |false =>
   refine uniqK_eq r (s::seen) _ (fun r=>k ((s,v)::r)) fun i=>?_
   have h1:Nat.lor m (Nat.shiftLeft 1 s)=m ||| 2 ^ s:=by
    show m ||| (1 <<< s)=_
    rw[Nat.one_shiftLeft]
   rw[h1,Nat.testBit_or,Nat.testBit_two_pow,h i]
   simp only[memB]
   cases hb:Nat.beq i s with
   |true=>rw[Nat.beq_eq] at hb;subst hb;simp
   |false =>
    rw[← Bool.not_eq_true,Nat.beq_eq] at hb
    have:decide (s=i)=false:=by simp only[decide_eq_false_iff_not];exact fun e=>hb e.symm
    rw[this,Bool.or_false,Bool.false_or]
def tidyK(n:Nat)(env:Env)(m:Mem X)(k:KM X β):Option β :=
 Bool.rec (k env m) (Mem.rec (fun loc tbl nx=>uniqK env 0 fun env'=>k env' ⟨pruneLoc env' loc,tbl,nx⟩) m) (Nat.beq (Nat.land n 7) 0)
theorem tidyK_eq(n:Nat)(env:Env)(m:Mem X)(k:KM X β):tidyK n env m k=k (tidy n env m).1 (tidy n env m).2:=by
 unfold tidyK tidy
 obtain⟨loc,tbl,nx⟩:=m
 cases Nat.beq (Nat.land n 7) 0 with
 |false=>rfl
 |true =>
  show uniqK env 0 (fun env'=>k env' ⟨pruneLoc env' loc,tbl,nx⟩)=_
  rw[uniqK_eq env [] 0 _ (fun i=>by rw[Nat.zero_testBit];rfl)]
  rfl
def loopK(body:CK X β)(fuel:Nat):CK X β :=
 Nat.rec (fun _ _ _ _=>none) (fun n ih env m kn ka=>body env m (fun env' m'=>tidyK n env' m' fun env' m'=>ih env' m' kn ka) ka) fuel
def codeK(call:CallK X β)(dr:CallFn X)(fuel:Nat)(c:ICode):CK X β :=
 ICode.rec (motive:=fun _=>CK X β)
  (fun env m kn _=>kn env m)
  (fun l env m kn _=>opsK call l env m kn)
  (fun l bf env m kn _=>Option.rec none (fun r=>Prod.rec kn r) (drawnRun dr l bf env m))
  (fun _ _ ra rb env m kn ka=>ra env m (fun env' m'=>rb env' m' kn ka) ka)
  (fun c _ _ ra rb env m kn ka=>evK env c (vBool none (Bool.rec (rb env m kn ka) (ra env m kn ka))))
  (fun id _ ra env m kn ka=>ra env m kn fun x e m'=>Ex.rec (ka .norm e m') (fun k=>Bool.rec (ka (.exit k) e m') (kn e m') (Nat.beq k id)) (ka .ret e m') x)
  (fun _ ra env m kn ka=>loopK ra fuel env m kn ka)
  (fun id env m _ ka=>ka (.exit id) env m)
  (fun env m _ ka=>ka .ret env m) c
theorem codeK_eq{ck:CallK X β}{c:CallFn X}(hc:SameCall ck c)(fuel:Nat):∀(ic:ICode) (env:Env) (m:Mem X) (kn:KM X β) (ka:Ex→KM X β),codeK ck c fuel ic env m kn ka=fin kn ka (runC c fuel ic env m):=by
 intro ic
 induction ic with
 |skip=>intro env m kn ka;rfl
 |ops l =>
  intro env m kn ka
  show opsK ck l env m kn=fin kn ka (match runOps c l env m with|some (env',m')=>some (.norm,env',m')|none=>none)
  rw[opsK_eq hc]
  cases runOps c l env m<;>rfl
 |drawn l bf =>
  intro env m kn ka
  show(Option.rec none (fun r=>Prod.rec kn r) (drawnRun c l bf env m):Option β)=fin kn ka (match drawnRun c l bf env m with|some (env',m')=>some (.norm,env',m')|none=>none)
  cases drawnRun c l bf env m<;>rfl
 |seq a b iha ihb =>
  intro env m kn ka
  show codeK ck c fuel a env m (fun env' m'=>codeK ck c fuel b env' m' kn ka) ka=fin kn ka (match runC c fuel a env m with|some (.norm,env',m')=>runC c fuel b env' m'|r=>r)
  rw[iha]
  rcases runC c fuel a env m with _|⟨x,e,m'⟩
  ·rfl
  ·cases x with
   |norm=>exact ihb ..
   |exit k=>rfl
   |ret=>rfl
 |cond cnd a b iha ihb =>
  intro env m kn ka
  show evK env cnd (vBool none (Bool.rec (codeK ck c fuel b env m kn ka) (codeK ck c fuel a env m kn ka)))=fin kn ka (match evo env cnd with|some (.bool true)=>runC c fuel a env m|some (.bool false)=>runC c fuel b env m|_=>none)
  rw[evK_eq,iha,ihb]
  cases evo env cnd with
  |none=>rfl
  |some v =>
   cases v<;>try rfl
   rename_i b';cases b'<;>rfl
 |block id a iha =>
  intro env m kn ka
  show codeK ck c fuel a env m kn (fun x e m'=>Ex.rec (ka .norm e m') (fun k=>Bool.rec (ka (.exit k) e m') (kn e m') (Nat.beq k id)) (ka .ret e m') x)=fin kn ka (match runC c fuel a env m with|some (.exit k,env',m')=>(bif Nat.beq k id then some (.norm,env',m') else some (.exit k,env',m'))|r=>r)
  rw[iha]
  rcases runC c fuel a env m with _|⟨x,e,m'⟩
  ·rfl
  ·cases x with
   |norm=>rfl
   |ret=>rfl
   |exit k =>
    show(Bool.rec (ka (.exit k) e m') (kn e m') (Nat.beq k id):Option β)=fin kn ka (bif Nat.beq k id then some (.norm,e,m') else some (.exit k,e,m'))
    cases Nat.beq k id<;>rfl
 |loop a iha =>
  intro env m kn ka
  have key:∀n env m,loopK (codeK ck c fuel a) n env m kn ka=fin kn ka (loopN (runC c fuel a) n env m):=by
   intro n
   induction n with
   |zero=>intro env m;rfl
   |succ n ihn =>
    intro env m
    show codeK ck c fuel a env m (fun env' m'=>tidyK n env' m' fun env' m'=>loopK (codeK ck c fuel a) n env' m' kn ka) ka=fin kn ka (match runC c fuel a env m with|some (.norm,env',m')=>loopN (runC c fuel a) n (tidy n env' m').1 (tidy n env' m').2|r=>r)
    rw[iha]
    rcases runC c fuel a env m with _|⟨x,e,m'⟩
    ·rfl
    ·cases x with
     |norm=>exact(tidyK_eq n e m' fun env' m'=>loopK (codeK ck c fuel a) n env' m' kn ka).trans (ihn ..)
     |exit k=>rfl
     |ret=>rfl
  exact key fuel env m
 |exit id=>intro env m kn ka;rfl
 |ret=>intro env m kn ka;rfl
def resK(env:Env)(m:Mem X)(rs:List IRes):(List Value→Option β)→Option β :=
 List.rec (fun k=>k []) (fun x _ ih k=>IRes.rec (fun t=>lookK t env none fun v=>ih fun s=>k (v::s)) (fun t n g=>lookK t env none (vPtr none (Option.rec none fun ad=>loadK g m ad n fun v=>ih fun s=>k (v::s)))) x) rs
theorem resK_eq(env:Env)(m:Mem X):∀(rs:List IRes) (k:List Value→Option β),resK env m rs k=(resV env m rs).bind k
 |[],k=>rfl
 | .tmp t::r,k=>by
  show lookK t env none (fun v=>resK env m r fun s=>k (v::s))=(match look t env,resV env m r with|some v,some s=>some (v::s)|_,_=>none).bind k
  rw[lookK_eq]
  cases look t env with
  |none=>rfl
  |some v =>
   dsimp only
   rw[resK_eq env m r]
   cases resV env m r<;>rfl
 | .cell t n g::r,k=>by
  show lookK t env none (vPtr none (Option.rec none fun ad=>loadK g m ad n fun v=>resK env m r fun s=>k (v::s)))=(resV env m (.cell t n g::r)).bind k
  rw[lookK_eq]
  simp only[resV]
  cases look t env with
  |none=>rfl
  |some v =>
   cases v<;>try (cases resV env m r<;>rfl)
   rename_i ad
   cases ad with
   |none=>cases resV env m r<;>rfl
   |some ad =>
    show loadK g m ad n (fun v=>resK env m r fun s=>k (v::s))=_
    rw[loadK_eq]
    cases hr:resV env m r with
    |none =>
     cases m.load ad n with
     |none=>rfl
     |some cs =>
      dsimp only
      rw[bind_some']
      cases oneOf g cs with
      |none=>rfl
      |some v=>rw[bind_some',resK_eq env m r,hr];rfl
    |some s =>
     dsimp only
     cases m.load ad n with
     |none=>rfl
     |some cs =>
      dsimp only
      rw[bind_some']
      cases oneOf g cs with
      |none=>rfl
      |some v=>rw[bind_some',resK_eq env m r,hr];rfl
def dropK'(n:Nat)(l:List (Nat×AObj X)):(List (Nat×AObj X)→Option β)→Option β :=
 List.rec (fun k=>k []) (fun x _ ih k=>Prod.rec (fun i _=>Bool.rec (ih k) (ih fun s=>k (x::s)) (Nat.ble (Nat.succ i) n)) x) l
theorem dropK'_eq(n:Nat):∀(l:List (Nat×AObj X)) (k:List (Nat×AObj X)→Option β),dropK' n l k=k (dropNew n l)
 |[],k=>rfl
 |(i,o)::r,k=>by
  show(Bool.rec (dropK' n r k) (dropK' n r fun s=>k ((i,o)::s)) (Nat.ble (Nat.succ i) n):Option β)=k (List.filter (fun x=>Nat.blt x.1 n) ((i,o)::r))
  rw[List.filter_cons]
  show _=k (if Nat.ble (Nat.succ i) n=true then _ else _)
  cases Nat.ble (Nat.succ i) n with
  |true=>exact dropK'_eq n r _
  |false=>exact dropK'_eq n r _
def endK(cl:Bool)(n:Nat)(rs:List IRes)(env:Env)(m:Mem X)(k:Value→Hp X→Option β):Option β :=
 resK env m rs fun vs=>ob (packV vs) fun v=>Mem.rec (fun _ tbl nx=>Bool.rec (k v ⟨tbl,nx⟩) (dropK' n tbl fun tbl'=>k v ⟨tbl',nx⟩) cl) m
def plainK(ck:CallK X (Value×Hp X)):CallFn X:=fun f vs h=>ck f vs h fun v h=>some (v,h)
theorem plainK_eq{ck:CallK X (Value×Hp X)}{c:CallFn X}(hc:SameCall ck c):plainK ck=c:=by
 funext f vs h
 unfold plainK
 rw[hc]
 cases c f vs h<;>rfl
def runK(F:Nat→Option IFn)(clean:Nat→Bool)(hook:Hook X)(n:Nat):CallK X (Value×Hp X) :=
 Nat.rec (fun _ _ _ _=>none) (fun n ih f vs h k=>Option.rec (Option.rec none (fun fn=>IFn.rec (fun code nt res=>Bool.rec none
   (Hp.rec (fun tbl nx=>codeK ih (plainK ih) n code (argsE 0 vs) ⟨[],tbl,nx⟩ (fun env m=>endK (clean f) nx res env m k) (fun x env m=>Ex.rec none (fun _=>none) (endK (clean f) nx res env m k) x)) h)
   (Nat.ble vs.length nt)) fn) (F f)) (fun g=>ob (g vs h) fun r=>Prod.rec k r) (hook f)) n
theorem endK_eq(cl:Bool)(n:Nat)(rs:List IRes)(env:Env)(m:Mem X)(k:Value→Hp X→Option β) :
  endK cl n rs env m k=(match resV env m rs with
    |some rs=>(match packV rs with
     |some v=>some (v,(⟨bif cl then dropNew n m.tbl else m.tbl,m.next⟩:Hp X))
     |none=>none)
    |none=>none).bind fun r=>k r.1 r.2:=by
 obtain⟨loc,tbl,nx⟩:=m
 show resK env ⟨loc,tbl,nx⟩ rs (fun vs=>ob (packV vs) fun v=>Bool.rec (k v ⟨tbl,nx⟩) (dropK' n tbl fun tbl'=>k v ⟨tbl',nx⟩) cl)=_
 rw[resK_eq]
 cases resV env ⟨loc,tbl,nx⟩ rs with
 |none=>rfl
 |some vs =>
  dsimp only
  rw[bind_some',ob_eq]
  cases packV vs with
  |none=>rfl
  |some v =>
   dsimp only
   rw[bind_some',bind_some']
   cases cl with
   |false=>rfl
   |true=>exact dropK'_eq n tbl fun tbl'=>k v ⟨tbl',nx⟩
theorem runK_eq(F:Nat→Option IFn)(clean:Nat→Bool)(hook:Hook X):∀n,SameCall (β:=Value×Hp X) (runK F clean hook n) (run F clean hook n)
 |0=>fun _ _ _ _=>rfl
 |n+1=>by
  intro f vs h k
  have ih:=runK_eq F clean hook n
  show(Option.rec (Option.rec none (fun fn=>IFn.rec (fun code nt res=>Bool.rec none
   (Hp.rec (fun tbl nx=>codeK (runK F clean hook n) (plainK (runK F clean hook n)) n code (argsE 0 vs) ⟨[],tbl,nx⟩ (fun env m=>endK (clean f) nx res env m k) (fun x env m=>Ex.rec none (fun _=>none) (endK (clean f) nx res env m k) x)) h)
   (Nat.ble vs.length nt)) fn) (F f)) (fun g=>ob (g vs h) fun r=>Prod.rec k r) (hook f):Option (Value×Hp X))=_
  simp only[run]
  cases hook f with
  |some g =>
   show ob (g vs h) _=_
   rw[ob_eq]
  |none =>
   dsimp only
   cases F f with
   |none=>rfl
   |some fn =>
    obtain⟨code,nt,res⟩:=fn
    obtain⟨tbl,nx⟩:=h
    show(Bool.rec none (codeK (runK F clean hook n) (plainK (runK F clean hook n)) n code (argsE 0 vs) ⟨[],tbl,nx⟩ (fun env m=>endK (clean f) nx res env m k) (fun x env m=>Ex.rec none (fun _=>none) (endK (clean f) nx res env m k) x)) (Nat.ble vs.length nt):Option (Value×Hp X))=_
    dsimp only
    cases Nat.ble vs.length nt with
    |false=>rfl
    |true =>
     show codeK (runK F clean hook n) (plainK (runK F clean hook n)) n code (argsE 0 vs) ⟨[],tbl,nx⟩ (fun env m=>endK (clean f) nx res env m k) (fun x env m=>Ex.rec none (fun _=>none) (endK (clean f) nx res env m k) x)=_
     rw[plainK_eq ih,codeK_eq ih]
     rw[cond_true]
     rcases runC (run F clean hook n) n code (argsE 0 vs) ⟨[],tbl,nx⟩ with _|⟨x,env,m⟩
     ·rfl
     ·cases x with
      |norm=>exact endK_eq ..
      |exit id=>rfl
      |ret=>exact endK_eq ..
end
end Go.AI
