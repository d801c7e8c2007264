/- The evaluator upon a region whose order is drawn: one walk, with the loads held against every place where they may come. No program is named here. -/
import Derived.Test.YthoiknijhfnadaaGreatDoorAiRun
namespace Go.AI
section
variable {X:Type}
def memB(i:Nat):List Nat→Bool
 |[]=>false
 |x::r=>Nat.beq i x||memB i r
def ordB(bf:List (List Nat))(i j:Nat):Bool:=memB i (bf.getD j [])
inductive Rq where
 |ld (ad:Addr) (n:Nat)
 |mp (b:Nat) (j:IntKind) (n:Int) (z:List Value)
def Mem.mrd(m:Mem X)(b:Nat)(j:IntKind)(n:Int)(z:List Value):Option (List Value) :=
 match m.get b with
 |some (.map es _)=>match keyAt j n es 0 with
  |some (some (_,v,_))=>some [v]
  |some none=>some z
  |none=>none
 |_=>none
def Rq.rd(m:Mem X):Rq→Option (List Value)
 | .ld ad n=>m.load ad n
 | .mp b j n z=>m.mrd b j n z
structure DS(X:Type) where
 vals:List (Nat×Option Nat×Value)
 snaps:List (Mem X)
 chain:List Nat
 fls:List (Nat×Bool×AObj X)
 lds:List (Nat×Rq×List Value)
def slotsOf:List (Nat×Option Nat×Value)→List (Nat×Value)
 |[]=>[]
 |(_,some d,v)::r=>(d,v)::slotsOf r
 |(_,none,_)::r=>slotsOf r
def loose(bf:List (List Nat))(k:Nat):List (Nat×Option Nat)→List Nat
 |[]=>[]
 |(i,some d)::r=>bif Nat.beq i k||ordB bf i k||ordB bf k i then loose bf k r else d::loose bf k r
 |(_,none)::r=>loose bf k r
def envAt(bf:List (List Nat))(ds:List (Nat×Option Nat))(env0:List (Nat×Value))(vals:List (Nat×Option Nat×Value))(k:Nat):List (Nat×Value) :=
 slotsOf (vals.filter fun x=>ordB bf x.1 k)++env0.filter fun p=>!memB p.1 (loose bf k ds)
def pubs(bf:List (List Nat))(chain:List Nat)(fls:List (Nat×Bool×AObj X))(k:Nat):List (Nat×Bool×AObj X) :=
 fls.filter fun f=>ordB bf f.1 k&&chain.all fun c=>!ordB bf f.1 c
def layAll(base:Nat):List (Nat×Bool×AObj X)→Mem X→Mem X
 |[],m=>m
 |(k,hp,o)::r,m=>layAll base r (bif hp then⟨m.loc,(base+k,o)::m.tbl,m.next⟩ else⟨(base+k,o)::m.loc,m.tbl,m.next⟩)
inductive Kind where
 |pure (p:PureOp)
 |load (n:Nat) (g:Bool) (a:Opd)
 |mget (z:List Value) (g o:Bool) (x y:Opd)
 |alloc
 |chain
def kindOf:IOp→Kind
 | .pure _ p=>.pure p
 | .load _ n g a=>.load n g a
 | .mget _ z g o x y=>.mget z g o x y
 | .new _ _ _ | .box _ _ _ | .bslice _ _ _ _ _=>.alloc
 |_=>.chain
def only(bf:List (List Nat))(i k:Nat):Bool:=(List.range bf.length).all fun j=>!ordB bf i j||(Nat.beq j k||ordB bf k j)
def peekV(env:List (Nat×Value))(bf:List (List Nat))(base k:Nat)(fls:List (Nat×Bool×AObj X)):IOp→Option Value
 | .b2s _ x=>match evo env x with
  |some (.slice (some ad) n _)=>match fls.find? (fun f=>Nat.beq ad.block (base+f.1)&&(ordB bf f.1 k&&only bf f.1 k)) with
   |some f=>match(⟨[],[(base+f.1,f.2.2)],0⟩:Mem X).loads (some ad) n with
    |some cs=>(cellBytes cs).map fun l=>.string ⟨⟨l⟩⟩
    |none=>none
   |none=>none
  |_=>none
 |_=>none
def dstep(call:CallFn X)(bf:List (List Nat))(base:Nat)(ds:List (Nat×Option Nat))(env0:List (Nat×Value))(k:Nat)(g:Option (Nat×Bool))(i:IOp)(Z:DS X):Option (DS X) :=
 match wanted (envAt bf ds env0 Z.vals k) g with
 |some false=>some { Z with vals:=(k,i.dst,undef)::Z.vals }
 |some true=>match kindOf i with
  | .pure p=>match peval (envAt bf ds env0 Z.vals k) p with
   |some v=>some { Z with vals:=(k,i.dst,v)::Z.vals }
   |none=>none
  | .load n g a=>match evo (envAt bf ds env0 Z.vals k) a,Z.snaps with
   |some (.pointer (some ad)),m::_=>match m.load ad n with
    |some r=>match oneOf g r with
     |some v=>some { Z with vals:=(k,i.dst,v)::Z.vals,lds:=(k,.ld ad n,r)::Z.lds }
     |none=>none
    |none=>none
   |_,_=>none
  | .mget z g o x y=>match g||o,evo (envAt bf ds env0 Z.vals k) x,evo (envAt bf ds env0 Z.vals k) y,Z.snaps with
   |false,some (.map (some b)),some (.int j n),m::_=>match m.mrd b j n z with
    |some [v]=>some { Z with vals:=(k,i.dst,v)::Z.vals,lds:=(k,.mp b j n z,[v])::Z.lds }
    |_=>none
   |_,_,_,_=>none
  | .alloc=>match allocI (envAt bf ds env0 Z.vals k) i with
   |some r=>some { Z with vals:=(k,i.dst,refTo (base+k) r.2.2)::Z.vals,fls:=(k,r.1,.cells r.2.1)::Z.fls }
   |none=>none
  | .chain=>match peekV (envAt bf ds env0 Z.vals k) bf base k Z.fls i with
   |some v=>bif Z.chain.all (fun c=>!Nat.beq c k) then some { Z with vals:=(k,i.dst,v)::Z.vals } else none
   |none=>bif Z.chain.all (fun c=>ordB bf c k) then(match Z.snaps with
   |m::ms=>match estep call (envAt bf ds env0 Z.vals k) (layAll base (pubs bf Z.chain Z.fls k) m) i with
    |some (v,m')=>some { Z with vals:=(k,i.dst,v)::Z.vals,snaps:=m'::m::ms,chain:=k::Z.chain }
    |none=>none
   |[]=>none) else none
 |none=>none
def drun(call:CallFn X)(bf:List (List Nat))(base:Nat)(ds:List (Nat×Option Nat))(env0:List (Nat×Value)):Nat→List (Option (Nat×Bool)×IOp)→DS X→Option (DS X)
 |_,[],Z=>some Z
 |k,(g,i)::r,Z=>match dstep call bf base ds env0 k g i Z with
  |some Z'=>drun call bf base ds env0 (Nat.succ k) r Z'
  |none=>none
def ceq:Value→Value→Bool
 | .bool a,.bool b=>a == b
 | .int j a,.int k b=>if j=k then ieqF a b else false
 | .string a,.string b=>bytesEq a.data.toList b.data.toList
 | .pointer none,.pointer none=>true
 | .pointer (some a),.pointer (some b)=>Nat.beq a.block b.block&&Nat.beq a.off b.off&&a.spot.isNone&&b.spot.isNone
 | .slice none l c,.slice none l' c'=>Nat.beq l l'&&Nat.beq c c'
 | .slice (some a) l c,.slice (some b) l' c'=>Nat.beq a.block b.block&&Nat.beq a.off b.off&&(a.spot == b.spot)&&Nat.beq l l'&&Nat.beq c c'
 | .map none,.map none=>true
 | .map (some a),.map (some b)=>Nat.beq a b
 | .nilFunc,.nilFunc=>true
 | .nilIface,.nilIface=>true
 |_,_=>false
def ceqs:List Value→List Value→Bool
 |[],[]=>true
 |a::x,b::y=>ceq a b&&ceqs x y
 |_,_=>false
def countB(f:Nat→Bool):List Nat→Nat
 |[]=>0
 |x::r=>bif f x then Nat.succ (countB f r) else countB f r
def loadsIn:Rq→List Value→Nat→Nat→List (Mem X)→Bool
 |_,_,_,_,[]=>true
 | .ld ad n,r,lo,hi,m::ms=>(bif Nat.ble lo ms.length&&Nat.ble ms.length hi then(match m.load ad n with|some s=>ceqs r s|none=>false) else true)&&loadsIn (.ld ad n) r lo hi ms
 | .mp b j n z,r,lo,hi,m::ms=>(bif Nat.ble lo ms.length&&Nat.ble ms.length hi then(match m.mrd b j n z with|some s=>ceqs r s|none=>false) else true)&&loadsIn (.mp b j n z) r lo hi ms
def heldAll(bf:List (List Nat))(Z:DS X):List (Nat×Rq×List Value)→Bool
 |[]=>true
 |(k,q,r)::t=>loadsIn q r (countB (fun c=>ordB bf c k) Z.chain) (countB (fun c=>!ordB bf k c) Z.chain) Z.snaps&&heldAll bf Z t
def numbered:Nat→List (Option (Nat×Bool)×IOp)→List (Nat×Option Nat)
 |_,[]=>[]
 |k,(_,i)::r=>(k,i.dst)::numbered (Nat.succ k) r
def drawnRun(call:CallFn X)(il:List (Option (Nat×Bool)×IOp))(bf:List (List Nat))(env0:List (Nat×Value))(m:Mem X):Option (List (Nat×Value)×Mem X) :=
 match drun call bf m.next (numbered 0 il) env0 0 il ⟨[],[⟨m.loc,m.tbl,m.next+il.length⟩],[],[],[]⟩ with
 |some Z=>bif heldAll bf Z Z.lds then(match Z.snaps with
  |mu::_=>some (slotsOf Z.vals++env0,layAll m.next (Z.fls.filter fun f=>Z.chain.all fun c=>!ordB bf f.1 c) mu)
  |[]=>none) else none
 |none=>none
end
theorem memB_iff{i:Nat}:∀{l:List Nat},memB i l=true↔i∈l
 |[]=>by simp[memB]
 |x::r=>by simp only[memB,Bool.or_eq_true,Nat.beq_eq,List.mem_cons,memB_iff]
theorem ord_iff{bf:List (List Nat)}{i j:Nat}:ordB bf i j=true↔i∈bf.getD j []:=memB_iff
theorem ceq_eq{x y:Value}(h:ceq x y=true):x=y:=by
 unfold ceq at h
 split at h
 ·simp only[beq_iff_eq] at h;rw[h]
 ·split at h
  ·rename_i hjk;subst hjk;rw[ieqF_eq,beq_iff_eq] at h;rw[h]
  ·cases h
 ·rename_i a b
  rw[bytesEq_eq,beq_iff_eq] at h
  congr 1
  cases a with|mk a=>cases b with|mk b=>cases a;cases b;simp only at h;rw[h]
 ·rfl
 ·rename_i a b
  simp only[Bool.and_eq_true,Nat.beq_eq,Option.isNone_iff_eq_none] at h
  obtain⟨⟨⟨h1,h2⟩,h3⟩,h4⟩:=h
  cases a;cases b;simp only at h1 h2 h3 h4;rw[h1,h2,h3,h4]
 ·simp only[Bool.and_eq_true,Nat.beq_eq] at h;rw[h.1,h.2]
 ·rename_i a l c b l' c'
  simp only[Bool.and_eq_true,Nat.beq_eq,beq_iff_eq] at h
  obtain⟨⟨⟨⟨h1,h2⟩,h3⟩,h4⟩,h5⟩:=h
  cases a;cases b;simp only at h1 h2 h3;rw[h1,h2,h3,h4,h5]
 ·rfl
 ·rw[Nat.beq_eq] at h;rw[h]
 ·rfl
 ·rfl
 ·cases h
theorem ceqs_eq:∀{x y:List Value},ceqs x y=true→x=y
 |[],[],_=>rfl
 |[],_::_,h=>by simp[ceqs] at h
 |_::_,[],h=>by simp[ceqs] at h
 |a::x,b::y,h=>by
  simp only[ceqs,Bool.and_eq_true] at h
  rw[ceq_eq h.1,ceqs_eq h.2]
theorem mem_slots{d:Nat}{v:Value}:∀{l:List (Nat×Option Nat×Value)},(d,v)∈slotsOf l↔∃k,(k,some d,v)∈l
 |[]=>by simp[slotsOf]
 |(k,some d',v')::r=>by
  simp only[slotsOf,List.mem_cons,mem_slots,Prod.mk.injEq,zI]
  constructor
  ·rintro(⟨rfl,rfl⟩|⟨j,h⟩)
   ·exact⟨k,.inl ⟨rfl,rfl,rfl⟩⟩
   ·exact⟨j,.inr h⟩
  ·rintro⟨j,⟨_,h1,h2⟩|h⟩
   ·exact .inl ⟨h1,h2⟩
   ·exact .inr ⟨j,h⟩
 |(k,none,v')::r=>by
  simp only[slotsOf,List.mem_cons,mem_slots,Prod.mk.injEq]
  constructor
  ·rintro⟨j,h⟩;exact⟨j,.inr h⟩
  ·rintro⟨j,⟨_,h1,_⟩|h⟩
   ·cases h1
   ·exact⟨j,h⟩
theorem look_mem{α:Type}{s:Nat}{v:α}:∀{l:List (Nat×α)},look s l=some v→(s,v)∈l
 |[],h=>by simp[look] at h
 |x::r,h=>by
  rw[zC] at h
  split at h
  ·rename_i e
   injection h with h
   subst e;subst h
   exact List.mem_cons_self ..
  ·exact List.mem_cons_of_mem _ (look_mem h)
theorem look_none{α:Type}{s:Nat}:∀{l:List (Nat×α)},look s l=none→∀v,(s,v)∉l
 |[],_,v=>by simp
 |x::r,h,v=>by
  rw[zC] at h
  split at h
  ·cases h
  ·rename_i hne
   intro hm
   rcases List.mem_cons.1 hm with e|hm
   ·exact hne (by rw[← e])
   ·exact look_none h v hm
theorem look_append{α:Type}(s:Nat):∀(l r:List (Nat×α)),look s (l++r)=(look s l).or (look s r)
 |[],r=>rfl
 |x::l,r=>by
  rw[List.cons_append,zC,zC,look_append s l r]
  split<;>rfl
theorem look_filter{α:Type}{f:Nat→Bool}{s:Nat}{v:α}:∀{l:List (Nat×α)},look s (l.filter fun p=>f p.1)=some v→look s l=some v∧f s=true
 |[],h=>by simp[look] at h
 |x::r,h=>by
  rw[List.filter_cons] at h
  split at h
  ·rename_i hx
   rw[zC] at h ⊢
   split at h
   ·rename_i e;subst e;simp only[if_true];exact⟨h,hx⟩
   ·rename_i e;simp only[e,if_false];exact look_filter h
  ·rename_i hx
   obtain⟨h1,h2⟩:=look_filter h
   rw[zC]
   split
   ·rename_i e;subst e;exact(hx h2).elim
   ·exact⟨h1,h2⟩
theorem loose_mem{bf:List (List Nat)}{k i d:Nat}:∀{ds:List (Nat×Option Nat)},(i,some d)∈ds→i≠k→ordB bf i k=false→ordB bf k i=false→d∈loose bf k ds
 |[],h,_,_,_=>by simp at h
 |(j,some e)::r,h,h1,h2,h3=>by
  simp only[loose]
  rcases List.mem_cons.1 h with e1|h
  ·injection e1 with e1 e2
   injection e2 with e2
   subst e1;subst e2
   have:(Nat.beq i k||ordB bf i k||ordB bf k i)=false:=by
    rw[h2,h3,Bool.or_false,Bool.or_false,← Bool.not_eq_true,Nat.beq_eq];exact h1
   rw[this]
   exact List.mem_cons_self ..
  ·cases(Nat.beq j k||ordB bf j k||ordB bf k j) with
   |true=>exact loose_mem h h1 h2 h3
   |false=>exact List.mem_cons_of_mem _ (loose_mem h h1 h2 h3)
 |(j,none)::r,h,h1,h2,h3=>by
  simp only[loose]
  rcases List.mem_cons.1 h with e1|h
  ·injection e1 with _ e2;cases e2
  ·exact loose_mem h h1 h2 h3
theorem loadsIn_cons{X:Type}{q:Rq}{lo hi:Nat}{r:List Value}{m:Mem X}{ms:List (Mem X)}:loadsIn q r lo hi (m::ms)=((bif Nat.ble lo ms.length&&Nat.ble ms.length hi then(match q.rd m with|some s=>ceqs r s|none=>false) else true)&&loadsIn q r lo hi ms):=by
 cases q<;>rfl
theorem loadsIn_get{X:Type}{q:Rq}{lo hi:Nat}{r:List Value}:∀{ms:List (Mem X)} {j:Nat} {m:Mem X},loadsIn q r lo hi ms=true→lo≤j→j≤hi→ms.reverse[j]? = some m→q.rd m=some r
 |[],j,m,_,_,_,h=>by simp at h
 |m0::ms,j,m,h,h1,h2,hj=>by
  rw[loadsIn_cons,Bool.and_eq_true] at h
  rw[List.reverse_cons,List.getElem?_append] at hj
  split at hj
  ·exact loadsIn_get h.2 h1 h2 hj
  ·rename_i hlt
   rw[List.length_reverse] at hlt hj
   have hj0:j=ms.length:=by
    rcases Nat.eq_or_lt_of_le (Nat.le_of_not_lt hlt) with e|e
    ·exact e.symm
    ·rw[List.getElem?_eq_none (by simp;omega)] at hj;cases hj
   subst hj0
   simp at hj
   subst hj
   have hc:(Nat.ble lo ms.length&&Nat.ble ms.length hi)=true:=by simp[Nat.ble_eq,h1,h2]
   rw[hc,cond_true] at h
   obtain⟨h3,_⟩:=h
   split at h3
   ·rename_i s hs;rw[ceqs_eq h3];exact hs
   ·cases h3
end Go.AI
