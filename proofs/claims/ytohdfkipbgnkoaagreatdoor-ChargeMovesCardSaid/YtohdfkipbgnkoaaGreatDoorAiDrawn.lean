/- The evaluator upon a region whose order is drawn: one walk, with the loads held against every place where they may come. No program is named here. -/
import Derived.Test.YtohdfkipbgnkoaaGreatDoorAiRun
namespace Go.AI
section
variable {X:Type}
def gU(i:Nat):List Nat→Bool
 |[]=>false
 |x::r=>Nat.beq i x||gU i r
def bC(bf:List (List Nat))(i j:Nat):Bool:=gU i (bf.getD j [])
inductive Rq where
 |ld (ad:Addr) (n:Nat)
 |mp (b:Nat) (j:IntKind) (n:Int) (z:List Value)
def Mem.mrd(m:Mem X)(b:Nat)(j:IntKind)(n:Int)(z:List Value):Option (List Value) :=
 match m.get b with
 |some (.map es _)=>match ij j n es 0 with
  |some (some (_,v,_))=>some [v]
  |some none=>some z
  |none=>none
 |_=>none
def Rq.rd(m:Mem X):Rq→Option (List Value)
 | .ld ad n=>m.load ad n
 | .mp b j n z=>m.mrd b j n z
structure DS(X:Type) where
 vals:List (Nat×Option Nat×Value)
 snaps:List (Mem X)
 chain:List Nat
 fls:List (Nat×Bool×AObj X)
 lds:List (Nat×Rq×List Value)
def dh:List (Nat×Option Nat×Value)→LV
 |[]=>[]
 |(_,some d,v)::r=>(d,v)::dh r
 |(_,none,_)::r=>dh r
def loose(bf:List (List Nat))(k:Nat):List (Nat×Option Nat)→List Nat
 |[]=>[]
 |(i,some d)::r=>bif Nat.beq i k||bC bf i k||bC bf k i then loose bf k r else d::loose bf k r
 |(_,none)::r=>loose bf k r
def bq(bf:List (List Nat))(ds:List (Nat×Option Nat))(env0:LV)(vals:List (Nat×Option Nat×Value))(k:Nat):LV :=
 dh (vals.filter fun x=>bC bf x.1 k)++env0.filter fun p=>!gU p.1 (loose bf k ds)
def g9(bf:List (List Nat))(chain:List Nat)(fls:List (Nat×Bool×AObj X))(k:Nat):List (Nat×Bool×AObj X) :=
 fls.filter fun f=>bC bf f.1 k&&chain.all fun c=>!bC bf f.1 c
def bT(base:Nat):List (Nat×Bool×AObj X)→Mem X→Mem X
 |[],m=>m
 |(k,hp,o)::r,m=>bT base r (bif hp then⟨m.loc,(base+k,o)::m.tbl,m.next⟩ else⟨(base+k,o)::m.loc,m.tbl,m.next⟩)
inductive Kind where
 |pure (p:PureOp)
 |load (n:Nat) (g:Bool) (a:Opd)
 |mget (z:List Value) (g o:Bool) (x y:Opd)
 |alloc
 |chain
def ce:IOp→Kind
 | .pure _ p=>.pure p
 | .load _ n g a=>.load n g a
 | .mget _ z g o x y=>.mget z g o x y
 | .new _ _ _ | .box _ _ _ | .bslice _ _ _ _ _=>.alloc
 |_=>.chain
def only(bf:List (List Nat))(i k:Nat):Bool:=(List.range bf.length).all fun j=>!bC bf i j||(Nat.beq j k||bC bf k j)
def vm(env:LV)(bf:List (List Nat))(base k:Nat)(fls:List (Nat×Bool×AObj X)):IOp→Option Value
 | .b2s _ x=>match evo env x with
  |some (.slice (some ad) n _)=>match fls.find? (fun f=>Nat.beq ad.block (base+f.1)&&(bC bf f.1 k&&only bf f.1 k)) with
   |some f=>match(⟨[],[(base+f.1,f.2.2)],0⟩:Mem X).loads (some ad) n with
    |some cs=>(dp cs).map fun l=>.string ⟨⟨l⟩⟩
    |none=>none
   |none=>none
  |_=>none
 |_=>none
def dD(call:aP X)(bf:List (List Nat))(base:Nat)(ds:List (Nat×Option Nat))(env0:LV)(k:Nat)(g:Option (Nat×Bool))(i:IOp)(Z:DS X):Option (DS X) :=
 match wanted (bq bf ds env0 Z.vals k) g with
 |some false=>some { Z with vals:=(k,i.dst,undef)::Z.vals }
 |some true=>match ce i with
  | .pure p=>match aw (bq bf ds env0 Z.vals k) p with
   |some v=>some { Z with vals:=(k,i.dst,v)::Z.vals }
   |none=>none
  | .load n g a=>match evo (bq bf ds env0 Z.vals k) a,Z.snaps with
   |some (.pointer (some ad)),m::_=>match m.load ad n with
    |some r=>match dy g r with
     |some v=>some { Z with vals:=(k,i.dst,v)::Z.vals,lds:=(k,.ld ad n,r)::Z.lds }
     |none=>none
    |none=>none
   |_,_=>none
  | .mget z g o x y=>match g||o,evo (bq bf ds env0 Z.vals k) x,evo (bq bf ds env0 Z.vals k) y,Z.snaps with
   |false,some (.map (some b)),some (.int j n),m::_=>match m.mrd b j n z with
    |some [v]=>some { Z with vals:=(k,i.dst,v)::Z.vals,lds:=(k,.mp b j n z,[v])::Z.lds }
    |_=>none
   |_,_,_,_=>none
  | .alloc=>match fE (bq bf ds env0 Z.vals k) i with
   |some r=>some { Z with vals:=(k,i.dst,iQ (base+k) r.2.2)::Z.vals,fls:=(k,r.1,.cells r.2.1)::Z.fls }
   |none=>none
  | .chain=>match vm (bq bf ds env0 Z.vals k) bf base k Z.fls i with
   |some v=>bif Z.chain.all (fun c=>!Nat.beq c k) then some { Z with vals:=(k,i.dst,v)::Z.vals } else none
   |none=>bif Z.chain.all (fun c=>bC bf c k) then(match Z.snaps with
   |m::ms=>match bh call (bq bf ds env0 Z.vals k) (bT base (g9 bf Z.chain Z.fls k) m) i with
    |some (v,m')=>some { Z with vals:=(k,i.dst,v)::Z.vals,snaps:=m'::m::ms,chain:=k::Z.chain }
    |none=>none
   |[]=>none) else none
 |none=>none
def d8(call:aP X)(bf:List (List Nat))(base:Nat)(ds:List (Nat×Option Nat))(env0:LV):Nat→List (Option (Nat×Bool)×IOp)→DS X→Option (DS X)
 |_,[],Z=>some Z
 |k,(g,i)::r,Z=>match dD call bf base ds env0 k g i Z with
  |some Z'=>d8 call bf base ds env0 (Nat.succ k) r Z'
  |none=>none
def ceq:Value→Value→Bool
 | .bool a,.bool b=>a == b
 | .int j a,.int k b=>if j=k then bz a b else false
 | .string a,.string b=>eL a.data.toList b.data.toList
 | .pointer none,.pointer none=>true
 | .pointer (some a),.pointer (some b)=>Nat.beq a.block b.block&&Nat.beq a.off b.off&&a.spot.isNone&&b.spot.isNone
 | .slice none l c,.slice none l' c'=>Nat.beq l l'&&Nat.beq c c'
 | .slice (some a) l c,.slice (some b) l' c'=>Nat.beq a.block b.block&&Nat.beq a.off b.off&&(a.spot == b.spot)&&Nat.beq l l'&&Nat.beq c c'
 | .map none,.map none=>true
 | .map (some a),.map (some b)=>Nat.beq a b
 | .nilFunc,.nilFunc=>true
 | .nilIface,.nilIface=>true
 |_,_=>false
def dC:List Value→List Value→Bool
 |[],[]=>true
 |a::x,b::y=>ceq a b&&dC x y
 |_,_=>false
def dG(f:Nat→Bool):List Nat→Nat
 |[]=>0
 |x::r=>bif f x then Nat.succ (dG f r) else dG f r
def bn:Rq→List Value→Nat→Nat→List (Mem X)→Bool
 |_,_,_,_,[]=>true
 | .ld ad n,r,lo,hi,m::ms=>(bif Nat.ble lo ms.length&&Nat.ble ms.length hi then(match m.load ad n with|some s=>dC r s|none=>false) else true)&&bn (.ld ad n) r lo hi ms
 | .mp b j n z,r,lo,hi,m::ms=>(bif Nat.ble lo ms.length&&Nat.ble ms.length hi then(match m.mrd b j n z with|some s=>dC r s|none=>false) else true)&&bn (.mp b j n z) r lo hi ms
def bi(bf:List (List Nat))(Z:DS X):List (Nat×Rq×List Value)→Bool
 |[]=>true
 |(k,q,r)::t=>bn q r (dG (fun c=>bC bf c k) Z.chain) (dG (fun c=>!bC bf k c) Z.chain) Z.snaps&&bi bf Z t
def aH:Nat→List (Option (Nat×Bool)×IOp)→List (Nat×Option Nat)
 |_,[]=>[]
 |k,(_,i)::r=>(k,i.dst)::aH (Nat.succ k) r
def eG(call:aP X)(il:List (Option (Nat×Bool)×IOp))(bf:List (List Nat))(env0:LV)(m:Mem X):Option (LV×Mem X) :=
 match d8 call bf m.next (aH 0 il) env0 0 il ⟨[],[⟨m.loc,m.tbl,m.next+il.length⟩],[],[],[]⟩ with
 |some Z=>bif bi bf Z Z.lds then(match Z.snaps with
  |mu::_=>some (dh Z.vals++env0,bT m.next (Z.fls.filter fun f=>Z.chain.all fun c=>!bC bf f.1 c) mu)
  |[]=>none) else none
 |none=>none
end
theorem pM{i:Nat}:∀{l:List Nat},gU i l=true↔i∈l
 |[]=>by simp[gU]
 |x::r=>by simp only[gU,Bool.or_eq_true,Zg,ZL,pM]
theorem ord_iff{bf:List (List Nat)}{i j:Nat}:bC bf i j=true↔i∈bf.getD j []:=pM
theorem LA{x y:Value}(h:ceq x y=true):x=y:=by
 unfold ceq at h;split at h
 ·simp only[beq_iff_eq] at h;rw[h]
 ·split at h
  ·rename_i hjk;subst hjk;rw[d7,beq_iff_eq] at h;rw[h]
  ·cases h
 ·rename_i a b;rw[jh,beq_iff_eq] at h;congr 1;cases a with|mk a=>cases b with|mk b=>cases a;cases b;simp only at h;rw[h]
 ·rfl
 ·rename_i a b;simp only[Zi,Zg,Option.isNone_iff_eq_none] at h;obtain⟨⟨⟨h1,h2⟩,h3⟩,h4⟩:=h;cases a;cases b;simp only at h1 h2 h3 h4;rw[h1,h2,h3,h4]
 ·simp only[Zi,Zg] at h;rw[h.1,h.2]
 ·rename_i a l c b l' c';simp only[Zi,Zg,beq_iff_eq] at h;obtain⟨⟨⟨⟨h1,h2⟩,h3⟩,h4⟩,h5⟩:=h;cases a;cases b;simp only at h1 h2 h3;rw[h1,h2,h3,h4,h5]
 ·rfl
 ·rw[Zg] at h;rw[h]
 ·rfl
 ·rfl
 ·cases h
theorem y8:∀{x y:List Value},dC x y=true→x=y
 |[],[],_=>rfl
 |[],_::_,h=>by simp[dC] at h
 |_::_,[],h=>by simp[dC] at h
 |a::x,b::y,h=>by
  simp only[dC,Zi] at h;rw[LA h.1,y8 h.2]
theorem mem_slots{d:Nat}{v:Value}:∀{l:List (Nat×Option Nat×Value)},(d,v)∈dh l↔∃k,(k,some d,v)∈l
 |[]=>by simp[dh]
 |(k,some d',v')::r=>by
  simp only[dh,ZL,mem_slots,Zf,zI];constructor
  ·rintro(⟨rfl,rfl⟩|⟨j,h⟩)
   ·exact⟨k,.inl ⟨rfl,rfl,rfl⟩⟩
   ·exact⟨j,.inr h⟩
  ·rintro⟨j,⟨_,h1,h2⟩|h⟩
   ·exact .inl ⟨h1,h2⟩
   ·exact .inr ⟨j,h⟩
 |(k,none,v')::r=>by
  simp only[dh,ZL,mem_slots,Zf];constructor
  ·rintro⟨j,h⟩;exact⟨j,.inr h⟩
  ·rintro⟨j,⟨_,h1,_⟩|h⟩
   ·cases h1
   ·exact⟨j,h⟩
theorem pS{α:Type}{s:Nat}{v:α}:∀{l:List (Nat×α)},aa s l=some v→(s,v)∈l
 |[],h=>by simp[aa] at h
 |x::r,h=>by
  rw[zC] at h;split at h
  ·rename_i e;injection h with h;subst e;subst h;exact Zr ..
  ·exact Zu _ (pS h)
theorem nO{α:Type}{s:Nat}:∀{l:List (Nat×α)},aa s l=none→∀v,(s,v)∉l
 |[],_,v=>by simp
 |x::r,h,v=>by
  rw[zC] at h;split at h
  ·cases h
  ·rename_i hne;intro hm;rcases List.mem_cons.1 hm with e|hm
   ·exact hne (by rw[← e])
   ·exact nO h v hm
theorem kH{α:Type}(s:Nat):∀(l r:List (Nat×α)),aa s (l++r)=(aa s l).or (aa s r)
 |[],r=>rfl
 |x::l,r=>by
  rw[List.cons_append,zC,zC,kH s l r];split<;>rfl
theorem hY{α:Type}{f:Nat→Bool}{s:Nat}{v:α}:∀{l:List (Nat×α)},aa s (l.filter fun p=>f p.1)=some v→aa s l=some v∧f s=true
 |[],h=>by simp[aa] at h
 |x::r,h=>by
  rw[List.filter_cons] at h;split at h
  ·rename_i hx;rw[zC] at h ⊢;split at h
   ·rename_i e;subst e;simp only[if_true];exact⟨h,hx⟩
   ·rename_i e;simp only[e,if_false];exact hY h
  ·rename_i hx;obtain⟨h1,h2⟩:=hY h;rw[zC];split
   ·rename_i e;subst e;exact(hx h2).elim
   ·exact⟨h1,h2⟩
theorem k8{bf:List (List Nat)}{k i d:Nat}:∀{ds:List (Nat×Option Nat)},(i,some d)∈ds→i≠k→bC bf i k=false→bC bf k i=false→d∈loose bf k ds
 |[],h,_,_,_=>by simp at h
 |(j,some e)::r,h,h1,h2,h3=>by
  simp only[loose];rcases List.mem_cons.1 h with e1|h
  ·injection e1 with e1 e2;injection e2 with e2;subst e1;subst e2;have:(Nat.beq i k||bC bf i k||bC bf k i)=false:=by
    rw[h2,h3,Bool.or_false,Bool.or_false,← Zl,Zg];exact h1
   rw[this];exact Zr ..
  ·cases(Nat.beq j k||bC bf j k||bC bf k j) with
   |true=>exact k8 h h1 h2 h3
   |false=>exact Zu _ (k8 h h1 h2 h3)
 |(j,none)::r,h,h1,h2,h3=>by
  simp only[loose];rcases List.mem_cons.1 h with e1|h
  ·injection e1 with _ e2;cases e2
  ·exact k8 h h1 h2 h3
theorem uF{X:Type}{q:Rq}{lo hi:Nat}{r:List Value}{m:Mem X}{ms:List (Mem X)}:bn q r lo hi (m::ms)=((bif Nat.ble lo ms.length&&Nat.ble ms.length hi then(match q.rd m with|some s=>dC r s|none=>false) else true)&&bn q r lo hi ms):=by
 cases q<;>rfl
theorem oR{X:Type}{q:Rq}{lo hi:Nat}{r:List Value}:∀{ms:List (Mem X)} {j:Nat} {m:Mem X},bn q r lo hi ms=true→lo≤j→j≤hi→ms.reverse[j]? = some m→q.rd m=some r
 |[],j,m,_,_,_,h=>by simp at h
 |m0::ms,j,m,h,h1,h2,hj=>by
  rw[uF,Zi] at h;rw[List.reverse_cons,List.getElem?_append] at hj;split at hj
  ·exact oR h.2 h1 h2 hj
  ·rename_i hlt;rw[List.length_reverse] at hlt hj;have hj0:j=ms.length:=by
    rcases Nat.eq_or_lt_of_le (Nat.le_of_not_lt hlt) with e|e
    ·exact e.symm
    ·rw[ZD (by simp;omega)] at hj;cases hj
   subst hj0;simp at hj;subst hj;have hc:(Nat.ble lo ms.length&&Nat.ble ms.length hi)=true:=by simp[Zk,h1,h2]
   rw[hc,cond_true] at h;obtain⟨h3,_⟩:=h;split at h3
   ·rename_i s hs;rw[y8 h3];exact hs
   ·cases h3
end Go.AI
