/- A function whose arguments show one arena alone, told by what it does with the arena: walked from the smallest heap, it is told of any heap. No program is named here. -/
import Derived.Test.YthoiknijhfnadaaGreatDoorKArC
import Derived.Test.YthoiknijhfnadaaGreatDoorAiReloc
import Derived.Test.YthoiknijhfnadaaGreatDoorAiMach
import Derived.Test.YthoiknijhfnadaaGreatDoorKWp
set_option maxRecDepth 100000
noncomputable section
namespace Go.AI
variable {P:Program}{W0:World}{Cls:Nat→Int→Prop}
def canF(i:Nat):Value→Option Value
 | .pointer (some ⟨b,0,none⟩)=>bif Nat.beq b i then some (.pointer (some ⟨0,0,none⟩)) else none
 | .pointer none=>some (.pointer none)
 | .bool b=>some (.bool b)
 | .int k n=>some (.int k n)
 | .string s=>some (.string s)
 |_=>none
def canFs(i:Nat):List Value→Option (List Value)
 |[]=>some []
 |v::r=>match canF i v with
  |some w=>match canFs i r with
   |some s=>some (w::s)
   |none=>none
  |none=>none
def canV(i:Nat):Value→Option Value
 | .agg ⟨l⟩=>match canFs i l with
  |some s=>some (.agg ⟨s⟩)
  |none=>none
 |v=>canF i v
def canL(i:Nat):List Value→Option (List Value)
 |[]=>some []
 |v::r=>match canV i v with
  |some w=>match canL i r with
   |some s=>some (w::s)
   |none=>none
  |none=>none
def backF(i:Nat):Value→Option Value
 | .pointer (some ⟨0,0,none⟩)=>some (.pointer (some ⟨i,0,none⟩))
 | .pointer none=>some (.pointer none)
 | .bool b=>some (.bool b)
 | .int k n=>some (.int k n)
 | .string s=>some (.string s)
 |_=>none
def backFs(i:Nat):List Value→Option (List Value)
 |[]=>some []
 |v::r=>match backF i v with
  |some w=>match backFs i r with
   |some s=>some (w::s)
   |none=>none
  |none=>none
def backX(i:Nat):Value→Option Value
 | .agg ⟨l⟩=>match backFs i l with
  |some s=>some (.agg ⟨s⟩)
  |none=>none
 |v=>backF i v
def backXs(i:Nat):List Value→Option (List Value)
 |[]=>some []
 |v::r=>match backX i v with
  |some w=>match backXs i r with
   |some s=>some (w::s)
   |none=>none
  |none=>none
def backV(i:Nat):Value→Option Value
 | .tuple ⟨l⟩=>match backXs i l with
  |some s=>some (.tuple ⟨s⟩)
  |none=>none
 |v=>backX i v
def firstF:List Value→Option Nat
 |[]=>none
 | .pointer (some a)::_=>some a.block
 |_::r=>firstF r
def firstV:List Value→Option Nat
 |[]=>none
 | .agg ⟨l⟩::r=>match firstF l with
  |some i=>some i
  |none=>firstV r
 | .pointer (some a)::_=>some a.block
 |_::r=>firstV r
section
variable {R:Rl}{i:Nat}
theorem canF_rf(h:R 0 i){v w:Value}(q:canF i v=some w):RF R w v:=by
 unfold canF at q
 split at q
 ·rename_i b
  cases hb:Nat.beq b i with
  |false=>rw[hb] at q;cases q
  |true =>
   rw[hb,cond_true] at q
   rw[Nat.beq_eq] at hb
   subst hb
   injection q with q;subst q
   exact .ptr h
 ·injection q with q;subst q;exact .nilp
 ·injection q with q;subst q;exact .bool _
 ·injection q with q;subst q;exact .int _ _
 ·injection q with q;subst q;exact .str _
 ·cases q
theorem canFs_rf(h:R 0 i):∀{v w:List Value},canFs i v=some w→All2 (RF R) w v
 |[],w,q=>by
  simp only[canFs,zI] at q
  subst q;exact .nil
 |a::r,w,q=>by
  simp only[canFs] at q
  split at q
  ·rename_i x hx
   split at q
   ·rename_i s hs
    injection q with q;subst q
    exact .cons (canF_rf h hx) (canFs_rf h hs)
   ·cases q
  ·cases q
theorem canV_rv(h:R 0 i){v w:Value}(q:canV i v=some w):RV R w v:=by
 unfold canV at q
 split at q
 ·split at q
  ·rename_i s hs
   injection q with q;subst q
   exact .x (.agg (canFs_rf h hs))
  ·cases q
 ·exact .of_flat (canF_rf h q)
theorem canL_rv(h:R 0 i):∀{v w:List Value},canL i v=some w→All2 (RV R) w v
 |[],w,q=>by
  simp only[canL,zI] at q
  subst q;exact .nil
 |a::r,w,q=>by
  simp only[canL] at q
  split at q
  ·rename_i x hx
   split at q
   ·rename_i s hs
    injection q with q;subst q
    exact .cons (canV_rv h hx) (canL_rv h hs)
   ·cases q
  ·cases q
theorem backF_rf(h:R 0 i){v w:Value}(q:backF i v=some w):RF R v w:=by
 unfold backF at q
 split at q
 ·injection q with q;subst q;exact .ptr h
 ·injection q with q;subst q;exact .nilp
 ·injection q with q;subst q;exact .bool _
 ·injection q with q;subst q;exact .int _ _
 ·injection q with q;subst q;exact .str _
 ·cases q
theorem backFs_rf(h:R 0 i):∀{v w:List Value},backFs i v=some w→All2 (RF R) v w
 |[],w,q=>by
  simp only[backFs,zI] at q
  subst q;exact .nil
 |a::r,w,q=>by
  simp only[backFs] at q
  split at q
  ·rename_i x hx
   split at q
   ·rename_i s hs
    injection q with q;subst q
    exact .cons (backF_rf h hx) (backFs_rf h hs)
   ·cases q
  ·cases q
theorem backX_rx(h:R 0 i){v w:Value}(q:backX i v=some w):RX R v w:=by
 unfold backX at q
 split at q
 ·split at q
  ·rename_i s hs
   injection q with q;subst q
   exact .agg (backFs_rf h hs)
  ·cases q
 ·exact .flat (backF_rf h q)
theorem backXs_rx(h:R 0 i):∀{v w:List Value},backXs i v=some w→All2 (RX R) v w
 |[],w,q=>by
  simp only[backXs,zI] at q
  subst q;exact .nil
 |a::r,w,q=>by
  simp only[backXs] at q
  split at q
  ·rename_i x hx
   split at q
   ·rename_i s hs
    injection q with q;subst q
    exact .cons (backX_rx h hx) (backXs_rx h hs)
   ·cases q
  ·cases q
theorem backV_rv(h:R 0 i){v w:Value}(q:backV i v=some w):RV R v w:=by
 unfold backV at q
 split at q
 ·split at q
  ·rename_i s hs
   injection q with q;subst q
   exact .tup (backXs_rx h hs)
  ·cases q
 ·exact .x (backX_rx h q)
end
def quietF:Value→Bool
 | .bool _ | .int _ _ | .string _ | .pointer none=>true
 |_=>false
def quietX:Value→Bool
 | .agg ⟨l⟩=>l.all quietF
 |v=>quietF v
def quietV:Value→Bool
 | .tuple ⟨l⟩=>l.all quietX
 |v=>quietX v
theorem quietF_rf{R:Rl}{v:Value}(h:quietF v=true):RF R v v:=by
 unfold quietF at h
 split at h
 ·exact .bool _
 ·exact .int _ _
 ·exact .str _
 ·exact .nilp
 ·cases h
theorem quietFs_rf{R:Rl}:∀{vs:List Value},vs.all quietF=true→All2 (RF R) vs vs
 |[],_=>.nil
 |v::r,h=>by
  simp only[List.all_cons,Bool.and_eq_true] at h
  exact .cons (quietF_rf h.1) (quietFs_rf h.2)
theorem quietX_rx{R:Rl}{v:Value}(h:quietX v=true):RX R v v:=by
 unfold quietX at h
 split at h
 ·exact .agg (quietFs_rf h)
 ·exact .flat (quietF_rf h)
theorem quietXs_rx{R:Rl}:∀{vs:List Value},vs.all quietX=true→All2 (RX R) vs vs
 |[],_=>.nil
 |v::r,h=>by
  simp only[List.all_cons,Bool.and_eq_true] at h
  exact .cons (quietX_rx h.1) (quietXs_rx h.2)
theorem quietV_rv{R:Rl}{v:Value}(h:quietV v=true):RV R v v:=by
 unfold quietV at h
 split at h
 ·exact .tup (quietXs_rx h)
 ·exact .x (quietX_rx h)
theorem quietVs_rv{R:Rl}:∀{vs:List Value},vs.all quietV=true→All2 (RV R) vs vs
 |[],_=>.nil
 |v::r,h=>by
  simp only[List.all_cons,Bool.and_eq_true] at h
  exact .cons (quietV_rv h.1) (quietVs_rv h.2)
abbrev Spec:=Ar→List Value→Option (Value×Ar)
def liftH(spec:Spec)(spec0:List Value→Option Value):List Value→Hp Ar→Option (Value×Hp Ar):=fun vs h =>
 match firstV vs with
 |none=>bif vs.all quietV then(match spec0 vs with
  |some v=>bif quietV v then some (v,h) else none
  |none=>none) else none
 |some i=>match look i h.tbl with
  |some (.ext x)=>bif Nat.blt x.refuse 9223372036854775808 then(match canL i vs with
   |some vs0=>match spec x vs0 with
    |some (v0,x')=>match backV i v0 with
     |some v=>some (v,⟨upd i (.ext x') h.tbl,h.next⟩)
     |none=>none
    |none=>none
   |none=>none) else none
  |_=>none
theorem same2_id{E:Ext}:Same2 (E0:=E) (E:=E) id:=fun _ _ _ _ _=>Iff.rfl
theorem lift_ok{call:CallFn Ar}(hC:CallsOk (Ext1 Cls) P W0 call){k:Nat}{spec:Spec}{spec0:List Value→Option Value}
  (h1:∀x vs v x',x.refuse<9223372036854775808→spec x vs=some (v,x')→∃t n,call k vs ⟨[(0,.ext x)],1⟩=some (v,⟨t,n⟩)∧look 0 t=some (.ext x'))
  (h0:∀vs v,vs.all quietV=true→spec0 vs=some v→∃h',call k vs ⟨[],0⟩=some (v,h')) :
  HookOk (Ext1 Cls) P W0 k (liftH spec spec0):=by
 intro vs h v h2 hr ρ φ w hG vs' hvs
 unfold liftH at hr
 split at hr
 ·cases hq:vs.all quietV with
  |false=>rw[hq] at hr;cases hr
  |true =>
   rw[hq,cond_true] at hr
   split at hr
   ·rename_i v1 hs
    cases hq1:quietV v1 with
    |false=>rw[hq1] at hr;cases hr
    |true =>
     rw[hq1,cond_true] at hr
     injection hr with hr
     injection hr with hr1 hr2
     subst hr1;subst hr2
     obtain⟨h',hrun⟩:=h0 vs v1 hq hs
     refine reloc (g:=id) same2_id hC hrun (h:=h) (h':=h) (σ:=fun _=>0) (τ:=fun t=>t) (m:=0) (fun _ hi=>absurd hi (Nat.not_lt_zero _)) (fun a b ha _ _=>absurd ha (Nat.not_lt_zero _)) (quietVs_rv hq) ?_ (fun t ht=>absurd ht (by omega)) (fun t u ht=>absurd ht (by omega)) (quietV_rv hq1) rfl ?_ hG hvs
     ·intro j o hj
      simp[look] at hj
     ·intro k o hk
      exact .inr ⟨hk,fun _ hi=>absurd hi (Nat.not_lt_zero _)⟩
   ·cases hr
 ·rename_i i hi
  split at hr
  ·rename_i x hx
   cases hf:Nat.blt x.refuse 9223372036854775808 with
   |false=>rw[hf] at hr;cases hr
   |true =>
    rw[hf,cond_true] at hr
    rw[blt_iff,decide_eq_true_eq] at hf
    split at hr
    ·rename_i vs0 hvs0
     split at hr
     ·rename_i v0 x' hs
      split at hr
      ·rename_i v1 hv1
       injection hr with hr
       injection hr with hr1 hr2
       subst hr1;subst hr2
       obtain⟨t,n,hrun,hlk⟩:=h1 x vs0 v0 x' hf hs
       have hlt:i<h.next:=hG.lt hx
       refine reloc (g:=id) same2_id hC hrun (h:=h) (h':=⟨upd i (.ext x') h.tbl,h.next⟩) (σ:=fun _=>i) (τ:=fun t=>t+1) (m:=0) (fun _ _=>hlt) (fun a b ha hb _=>?_) ?_ ?_ (fun t ht=>absurd ht (by omega)) (fun t u ht=>absurd ht (by omega)) ?_ rfl ?_ hG hvs
       ·have ha:a<1:=ha
        have hb:b<1:=hb
        omega
       ·exact canL_rv ⟨by show 0<1;omega,rfl⟩ hvs0
       ·intro j o hj
        change look j [(0,AObj.ext x)]=some o at hj
        rw[zC] at hj
        split at hj
        ·rename_i e
         injection hj with hj
         subst hj
         have e:j=0:=e
         subst e
         exact⟨by show 0<1;omega,_,hx,RO.ext (E0:=Ext1 Cls) (E:=Ext1 Cls) (f:=id) x⟩
        ·simp[look] at hj
       ·exact backV_rv (.inl ⟨by show 0<1;omega,rfl⟩) hv1
       ·intro k o hk
        change look k (upd i (.ext x') h.tbl)=some o at hk
        rw[look_upd] at hk
        split at hk
        ·rename_i e
         subst e
         rw[hx] at hk
         injection hk with hk
         subst hk
         exact .inl ⟨0,_,.inl ⟨by show 0<1;omega,rfl⟩,hlk,RO.ext (E0:=Ext1 Cls) (E:=Ext1 Cls) (f:=id) x'⟩
        ·rename_i e
         exact .inr ⟨hk,fun _ _ e2=>e e2.symm⟩
      ·cases hr
     ·cases hr
    ·cases hr
  ·cases hr
end Go.AI
/- A function whose arguments show a recycler, whose buddy, and whose arena: told by what it does with the arena;walked from the smallest such heap. No program is named here. -/
namespace Go.AI
variable {P:Program}{W0:World}{Cls:Nat→Int→Prop}
structure B3 where
 i:Nat
 b:Nat
 r:Nat
def can3F(q:B3):Value→Option Value
 | .pointer (some ⟨k,0,none⟩)=>bif Nat.beq k q.i then some (.pointer (some ⟨0,0,none⟩)) else bif Nat.beq k q.b then some (.pointer (some ⟨1,0,none⟩)) else bif Nat.beq k q.r then some (.pointer (some ⟨2,0,none⟩)) else none
 | .pointer none=>some (.pointer none)
 | .bool b=>some (.bool b)
 | .int k n=>some (.int k n)
 | .string s=>some (.string s)
 |_=>none
def can3Fs(q:B3):List Value→Option (List Value)
 |[]=>some []
 |v::r=>match can3F q v with
  |some w=>match can3Fs q r with
   |some s=>some (w::s)
   |none=>none
  |none=>none
def can3V(q:B3):Value→Option Value
 | .agg ⟨l⟩=>match can3Fs q l with
  |some s=>some (.agg ⟨s⟩)
  |none=>none
 |v=>can3F q v
def can3L(q:B3):List Value→Option (List Value)
 |[]=>some []
 |v::r=>match can3V q v with
  |some w=>match can3L q r with
   |some s=>some (w::s)
   |none=>none
  |none=>none
def back3F(q:B3):Value→Option Value
 | .pointer (some ⟨0,0,none⟩)=>some (.pointer (some ⟨q.i,0,none⟩))
 | .pointer (some ⟨1,0,none⟩)=>some (.pointer (some ⟨q.b,0,none⟩))
 | .pointer (some ⟨2,0,none⟩)=>some (.pointer (some ⟨q.r,0,none⟩))
 | .pointer none=>some (.pointer none)
 | .bool b=>some (.bool b)
 | .int k n=>some (.int k n)
 | .string s=>some (.string s)
 |_=>none
def back3Fs(q:B3):List Value→Option (List Value)
 |[]=>some []
 |v::r=>match back3F q v with
  |some w=>match back3Fs q r with
   |some s=>some (w::s)
   |none=>none
  |none=>none
def back3X(q:B3):Value→Option Value
 | .agg ⟨l⟩=>match back3Fs q l with
  |some s=>some (.agg ⟨s⟩)
  |none=>none
 |v=>back3F q v
def back3Xs(q:B3):List Value→Option (List Value)
 |[]=>some []
 |v::r=>match back3X q v with
  |some w=>match back3Xs q r with
   |some s=>some (w::s)
   |none=>none
  |none=>none
def back3V(q:B3):Value→Option Value
 | .tuple ⟨l⟩=>match back3Xs q l with
  |some s=>some (.tuple ⟨s⟩)
  |none=>none
 |v=>back3X q v
section
variable {R:Rl}{q:B3}
end
abbrev pA:Value:=.pointer (some ⟨0,0,none⟩)
def find3(vs:List Value)(tbl:List (Nat×AObj Ar)):Option (B3×Ar×List Value×List Value) :=
 match firstV vs with
 |some r=>match look r tbl with
  |some (.cells (.pointer (some ⟨b,0,none⟩)::rr))=>match look b tbl with
   |some (.cells (.pointer (some ⟨i,0,none⟩)::rb))=>match look i tbl with
    |some (.ext x)=>bif Nat.beq r b then none else some (⟨i,b,r⟩,x,rr,rb)
    |_=>none
   |_=>none
  |_=>none
 |none=>none
def liftR(spec:Spec)(spec0:List Value→Option Value):List Value→Hp Ar→Option (Value×Hp Ar):=fun vs h =>
 match firstV vs with
 |none=>bif vs.all quietV then(match spec0 vs with
  |some v=>bif quietV v then some (v,h) else none
  |none=>none) else none
 |some _=>match find3 vs h.tbl with
  |some (q,x,rr,rb)=>bif Nat.blt x.refuse 9223372036854775808 then(match can3L q vs,can3Fs q rr,can3Fs q rb with
   |some vs0,some _,some _=>match spec x vs0 with
    |some (v0,x')=>match back3V q v0 with
     |some v=>some (v,⟨upd q.i (.ext x') h.tbl,h.next⟩)
     |none=>none
    |none=>none
   |_,_,_=>none) else none
  |none=>none
end Go.AI
/- The machine, told what is open: it runs by itself as long as all is known;the answers of what is told of an arena, and the outcomes of comparisons, are fed;what they ask for is written down. No program is named here. -/
namespace Go.AI
abbrev vI(n:Nat):Value:=.int .i64 (.ofNat n)
abbrev vU(n:Nat):Value:=.int .u64 (.ofNat n)
abbrev vT(l:List Value):Value:=.tuple ⟨l⟩
abbrev vA(l:List Value):Value:=.agg ⟨l⟩
abbrev vD(v:Value):Value×Value:=(v,v)
inductive Act where
 |run (n:Nat)
 |call (v:Value) (x:Ar)
 |callR (v:Value) (x:Ar)
 |val (v:Value)
 |len (n:Nat)
 |cvt (v:Value)
 |fin
def cvVal(k:IntKind):Value→Option Value
 | .int _ n=>some (.int k (wrapF k n))
 |_=>none
inductive Ob where
 |call (kf:Nat) (x:Ar) (vs:List Value) (v:Value) (x':Ar)
 |callR (kf:Nat) (x:Ar) (rr rb vs:List Value) (v:Value) (x':Ar)
 |bin (op:BinOp) (e:EqK) (u w v:Value)
 |len (s:ByteArray) (n:Nat)
 |cv (k:IntKind) (u v:Value)
 |same (l:List (Value×Value))
def sameP:List (Value×Value)→Prop
 |[]=>True
 |p::r=>p.1=p.2∧sameP r
def Ob.holds(hook:Hook Ar):Ob→Prop
 | .call kf x vs v x'=>x.refuse<9223372036854775808∧∃spec spec0,hook kf=some (liftH spec spec0)∧spec x vs=some (v,x')
 | .callR kf x rr rb vs v x'=>x.refuse<9223372036854775808∧can3Fs ⟨0,1,2⟩ rr=some rr∧can3Fs ⟨0,1,2⟩ rb=some rb∧∃spec spec0,hook kf=some (liftR spec spec0)∧spec x vs=some (v,x')
 | .bin op e u w v=>binVal op e u w=some v
 | .len s n=>s.size=n
 | .cv k u v=>cvVal k u=some v
 | .same l=>sameP l
def holdsAll(hook:Hook Ar):List Ob→Prop
 |[]=>True
 |o::r=>o.holds hook∧holdsAll hook r
theorem sameP_append:∀{a b:List (Value×Value)},sameP (a++b)→sameP a∧sameP b
 |[],_,h=>⟨trivial,h⟩
 |_::_,_,h=>⟨⟨h.1,(sameP_append h.2).1⟩,(sameP_append h.2).2⟩
theorem ieqF_refl(a:Int):ieqF a a=true:=by rw[ieqF_eq];simp
def ceqO:Value→Value→Option (List (Value×Value))
 | .bool a,.bool b=>some [(.bool a,.bool b)]
 | .int j a,.int k b=>if j=k then some [(.int j a,.int k b)] else none
 | .string a,.string b=>some [(.string a,.string b)]
 |u,w=>bif ceq u w then some [] else none
theorem ceqO_ok{u w:Value}{l:List (Value×Value)}(h:ceqO u w=some l)(hs:sameP l):ceq u w=true:=by
 unfold ceqO at h
 split at h
 ·injection h with h;subst h
  have:=hs.1;injection this with e;subst e;simp[ceq]
 ·split at h
  ·injection h with h;subst h
   have:=hs.1;injection this with e1 e2;subst e2
   rename_i e;subst e;simp[ceq,ieqF_refl]
  ·cases h
 ·injection h with h;subst h
  have:=hs.1;injection this with e;subst e;exact bytesEq_refl _
 ·cases hc:ceq u w with
  |true=>rfl
  |false=>rw[hc] at h;cases h
def ceqsO:List Value→List Value→Option (List (Value×Value))
 |[],[]=>some []
 |a::x,b::y=>match ceqO a b with
  |some l=>match ceqsO x y with
   |some r=>some (l++r)
   |none=>none
  |none=>none
 |_,_=>none
theorem ceqsO_ok:∀{x y:List Value} {l:List (Value×Value)},ceqsO x y=some l→sameP l→ceqs x y=true
 |[],[],_,_,_=>rfl
 |[],_::_,_,h,_=>by cases h
 |_::_,[],_,h,_=>by cases h
 |a::x,b::y,l,h,hs=>by
  simp only[ceqsO] at h
  split at h
  ·rename_i l1 h1
   split at h
   ·rename_i l2 h2
    injection h with h;subst h
    have hs:=sameP_append hs
    simp only[ceqs,ceqO_ok h1 hs.1,ceqsO_ok h2 hs.2,Bool.and_self]
   ·cases h
  ·cases h
def loadsS(ad:Addr)(n:Nat)(r:List Value)(lo hi:Nat):List (Mem Ar)→Option (List (Value×Value))
 |[]=>some []
 |m::ms=>match(bif Nat.ble lo ms.length&&Nat.ble ms.length hi then(match m.load ad n with|some s=>ceqsO r s|none=>none) else some []) with
  |some l=>match loadsS ad n r lo hi ms with
   |some l'=>some (l++l')
   |none=>none
  |none=>none
theorem loadsS_ok{ad:Addr}{n:Nat}{r:List Value}{lo hi:Nat}:∀{ms:List (Mem Ar)} {l:List (Value×Value)},loadsS ad n r lo hi ms=some l→sameP l→loadsIn (.ld ad n) r lo hi ms=true
 |[],_,_,_=>rfl
 |m::ms,l,h,hs=>by
  simp only[loadsS] at h
  split at h
  ·rename_i l1 h1
   split at h
   ·rename_i l2 h2
    injection h with h;subst h
    have hs:=sameP_append hs
    simp only[loadsIn,loadsS_ok h2 hs.2,Bool.and_true]
    cases hb:(Nat.ble lo ms.length&&Nat.ble ms.length hi) with
    |false=>rfl
    |true =>
     rw[hb,cond_true] at h1
     rw[cond_true]
     split at h1
     ·rename_i s hl
      rw[hl];exact ceqsO_ok h1 hs.1
     ·cases h1
   ·cases h
  ·cases h
def heldS(bf:List (List Nat))(Z:DS Ar):List (Nat×Rq×List Value)→Option (List (Value×Value))
 |[]=>some []
 |(_,.mp _ _ _ _,_)::_=>none
 |(k,.ld ad n,r)::t=>match loadsS ad n r (countB (fun c=>ordB bf c k) Z.chain) (countB (fun c=>!ordB bf k c) Z.chain) Z.snaps with
  |some l=>match heldS bf Z t with
   |some l'=>some (l++l')
   |none=>none
  |none=>none
theorem heldS_ok{bf:List (List Nat)}{Z:DS Ar}:∀{t:List (Nat×Rq×List Value)} {l:List (Value×Value)},heldS bf Z t=some l→sameP l→heldAll bf Z t=true
 |[],_,_,_=>rfl
 |(_,.mp _ _ _ _,_)::_,_,h,_=>by simp only[heldS] at h;cases h
 |(k,.ld ad n,r)::t,l,h,hs=>by
  simp only[heldS] at h
  split at h
  ·rename_i l1 h1
   split at h
   ·rename_i l2 h2
    injection h with h;subst h
    have hs:=sameP_append hs
    simp only[heldAll,loadsS_ok h1 hs.1,heldS_ok h2 hs.2,Bool.and_self]
   ·cases h
  ·cases h
section
variable (F:Nat→Option IFn)(clean:Nat→Bool)(hook:Hook Ar)
def ansC(env:List (Nat×Value))(m:Mem Ar)(f:Opd)(xs:List Opd)(v0:Value)(x':Ar):Option (Value×Hp Ar×Ob) :=
 match evo env f with
 |some (.func (.func kf) _ caps)=>match evs env xs with
  |some vs=>match firstV (vs++caps.toList) with
   |some i=>match look i m.tbl with
    |some (.ext x)=>match canL i (vs++caps.toList) with
     |some vs0=>match backV i v0 with
      |some v=>some (v,⟨upd i (.ext x') m.tbl,m.next⟩,.call kf x vs0 v0 x')
      |none=>none
     |none=>none
    |_=>none
   |none=>none
  |none=>none
 |_=>none
theorem ansC_ok{env:List (Nat×Value)}{m:Mem Ar}{f:Opd}{xs:List Opd}{v0 v:Value}{x':Ar}{h:Hp Ar}{o:Ob}{n:Nat}(ha:ansC env m f xs v0 x'=some (v,h,o))(ho:o.holds hook):callE (run F clean hook (n+1)) env m f xs=some (v,h):=by
 unfold ansC at ha
 split at ha
 ·rename_i kf fst caps hf
  split at ha
  ·rename_i vs hxs
   split at ha
   ·rename_i i hi
    split at ha
    ·rename_i x hx
     split at ha
     ·rename_i vs0 hc
      split at ha
      ·rename_i v1 hb
       injection ha with ha
       injection ha with h1 h2
       injection h2 with h2 h3
       subst h1;subst h2;subst h3
       obtain⟨hr,spec,spec0,hh,hs⟩:=ho
       have hq:Nat.blt x.refuse 9223372036854775808=true:=by rw[blt_iff];exact decide_eq_true hr
       simp only[callE,hf,hxs]
       rw[run_hook hh]
       simp only[liftH,hi,hx,hq,cond_true,hc,hs,hb]
      ·cases ha
     ·cases ha
    ·cases ha
   ·cases ha
  ·cases ha
 ·cases ha
def ansR(env:List (Nat×Value))(m:Mem Ar)(f:Opd)(xs:List Opd)(v0:Value)(x':Ar):Option (Value×Hp Ar×Ob) :=
 match evo env f with
 |some (.func (.func kf) _ caps)=>match evs env xs with
  |some vs=>match firstV (vs++caps.toList) with
   |some _=>match find3 (vs++caps.toList) m.tbl with
    |some (⟨0,1,2⟩,x,rr,rb)=>match can3L ⟨0,1,2⟩ (vs++caps.toList) with
     |some vs0=>match back3V ⟨0,1,2⟩ v0 with
      |some v=>some (v,⟨upd 0 (.ext x') m.tbl,m.next⟩,.callR kf x rr rb vs0 v0 x')
      |none=>none
     |none=>none
    |_=>none
   |none=>none
  |none=>none
 |_=>none
theorem ansR_ok{env:List (Nat×Value)}{m:Mem Ar}{f:Opd}{xs:List Opd}{v0 v:Value}{x':Ar}{h:Hp Ar}{o:Ob}{n:Nat}(ha:ansR env m f xs v0 x'=some (v,h,o))(ho:o.holds hook):callE (run F clean hook (n+1)) env m f xs=some (v,h):=by
 unfold ansR at ha
 split at ha
 ·rename_i kf fst caps hf
  split at ha
  ·rename_i vs hxs
   split at ha
   ·rename_i i hi
    split at ha
    ·rename_i x rr rb hx
     split at ha
     ·rename_i vs0 hc
      split at ha
      ·rename_i v1 hb
       injection ha with ha
       injection ha with h1 h2
       injection h2 with h2 h3
       subst h1;subst h2;subst h3
       obtain⟨hr,hrr,hrb,spec,spec0,hh,hs⟩:=ho
       have hq:Nat.blt x.refuse 9223372036854775808=true:=by rw[blt_iff];exact decide_eq_true hr
       simp only[callE,hf,hxs]
       rw[run_hook hh]
       simp only[liftR,hi,hx,hq,cond_true,hc,hrr,hrb,hs,hb]
      ·cases ha
     ·cases ha
    ·cases ha
   ·cases ha
  ·cases ha
 ·cases ha
def rowOf:Fm Ar→Option Row
 | .ops l=>some l
 | .code (.ops l)=>some l
 |_=>none
variable {F clean hook}
theorem rowOf_den{fr:Fm Ar}{l:Row}(h:rowOf fr=some l)(fs:List (Fm Ar))(n:Nat)(e:List (Nat×Value))(m:Mem Ar):den F clean hook (fr::fs) n .norm e m=den F clean hook (.ops l::fs) n .norm e m:=by
 unfold rowOf at h
 split at h
 ·injection h with h;subst h;rfl
 ·injection h with h;subst h
  rename_i l
  show((runC (run F clean hook n) n (.ops l) e m).bind fun r=>den F clean hook fs n r.1 r.2.1 r.2.2)=((runOps (run F clean hook n) l e m).bind fun r=>den F clean hook fs n .norm r.1 r.2)
  simp only[runC]
  cases runOps (run F clean hook n) l e m<;>rfl
 ·cases h
abbrev Ans:=List (Nat×Value)→Mem Ar→Opd→List Opd→Value→Ar→Option (Value×Hp Ar×Ob)
def feedG(ans:Ans)(s:Ms Ar)(v0:Value)(x':Ar):Option (Ms Ar×Ob) :=
 match s with
 |⟨n+1,fr::fs,.norm,env,m⟩=>match rowOf fr with
  |some ((g,.call d f xs)::l)=>match wanted env g with
   |some true=>match ans env m f xs v0 x' with
    |some (v,h,o)=>some (⟨n+1,.ops l::fs,.norm,putEnv d v env,⟨m.loc,h.tbl,h.next⟩⟩,o)
    |none=>none
   |_=>none
  |some _=>none
  |none=>match fr with
   | .drw l0 bf ((g,.call d f xs)::r) base j e0 Z=>match wanted (envAt bf (numbered 0 l0) e0 Z.vals j) g with
    |some true=>bif Z.chain.all (fun c=>ordB bf c j) then(match Z.snaps with
     |m0::_=>match ans (envAt bf (numbered 0 l0) e0 Z.vals j) (layAll base (pubs bf Z.chain Z.fls j) m0) f xs v0 x' with
      |some (v,h,o)=>some (⟨n+1,.drw l0 bf r base (Nat.succ j) e0 (Z.next j d v ⟨(layAll base (pubs bf Z.chain Z.fls j) m0).loc,h.tbl,h.next⟩)::fs,.norm,[],⟨[],[],0⟩⟩,o)
      |none=>none
     |[]=>none) else none
    |_=>none
   |_=>none
 |_=>none
theorem feedG_den{ans:Ans}(hans:∀{env:List (Nat×Value)} {m:Mem Ar} {f:Opd} {xs:List Opd} {v0 v:Value} {x':Ar} {h:Hp Ar} {o:Ob} {n:Nat},ans env m f xs v0 x'=some (v,h,o)→o.holds hook→callE (run F clean hook (n+1)) env m f xs=some (v,h)){s s':Ms Ar}{v0:Value}{x':Ar}{o:Ob}(h:feedG ans s v0 x'=some (s',o))(ho:o.holds hook):s.den F clean hook=s'.den F clean hook:=by
 unfold feedG at h
 split at h
 ·rename_i n fr fs env m
  split at h
  ·rename_i g d f xs l hrow
   split at h
   ·rename_i hw
    split at h
    ·rename_i v hp o' ha
     injection h with h
     injection h with h1 h2
     subst h1;subst h2
     have hc:=hans (n:=n) ha ho
     show den F clean hook (fr::fs) (n+1) .norm env m=_
     rw[rowOf_den hrow]
     show((runOps (run F clean hook (n+1)) ((g,.call d f xs)::l) env m).bind fun r=>den F clean hook fs (n+1) .norm r.1 r.2)=_
     simp only[runOps,hw,estep_callE,hc,Option.map]
     rfl
    ·cases h
   ·cases h
  ·cases h
  ·split at h
   ·rename_i l0 bf g d f xs r base j e0 Z hrow
    split at h
    ·rename_i hw
     cases hch:Z.chain.all fun c=>ordB bf c j with
     |false=>rw[hch] at h;cases h
     |true =>
      rw[hch,cond_true] at h
      split at h
      ·rename_i m0 ms hsn
       split at h
       ·rename_i v hp o' ha
        injection h with h
        injection h with h1 h2
        subst h1;subst h2
        have hc:=hans (n:=n) ha ho
        show((drun (run F clean hook (n+1)) bf base (numbered 0 l0) e0 j ((g,.call d f xs)::r) Z).bind fun Z'=>(finD bf base e0 Z').bind fun r=>den F clean hook fs (n+1) .norm r.1 r.2)=((drun (run F clean hook (n+1)) bf base (numbered 0 l0) e0 (Nat.succ j) r _).bind fun Z'=>(finD bf base e0 Z').bind fun r=>den F clean hook fs (n+1) .norm r.1 r.2)
        have hk:kindOf (.call d f xs) = .chain:=rfl
        have hp2:peekV (envAt bf (numbered 0 l0) e0 Z.vals j) bf base j Z.fls (.call d f xs)=none:=rfl
        simp only[drun,dstep,hw,hk,hp2,hch,cond_true,hsn,estep_callE,hc,Option.map,DS.next]
        rfl
       ·cases h
      ·cases h
    ·cases h
   ·cases h
 ·cases h
def feedC:Ms Ar→Value→Ar→Option (Ms Ar×Ob):=feedG ansC
def feedR:Ms Ar→Value→Ar→Option (Ms Ar×Ob):=feedG ansR
theorem feedC_den{s s':Ms Ar}{v0:Value}{x':Ar}{o:Ob}(h:feedC s v0 x'=some (s',o))(ho:o.holds hook):s.den F clean hook=s'.den F clean hook:=feedG_den (fun h ho=>ansC_ok F clean hook h ho) h ho
theorem feedR_den{s s':Ms Ar}{v0:Value}{x':Ar}{o:Ob}(h:feedR s v0 x'=some (s',o))(ho:o.holds hook):s.den F clean hook=s'.den F clean hook:=feedG_den (fun h ho=>ansR_ok F clean hook h ho) h ho
def feedB(s:Ms Ar)(b:Value):Option (Ms Ar×Ob) :=
 match s with
 |⟨n,fr::fs,.norm,env,m⟩=>match rowOf fr with
  |some ((g,.pure d (.bin op e x y))::l)=>match wanted env g with
   |some true=>match evo env x with
    |some u=>match evo env y with
     |some w=>some (⟨n,.ops l::fs,.norm,(d,b)::env,m⟩,.bin op e u w b)
     |none=>none
    |none=>none
   |_=>none
  |some _=>none
  |none=>match fr with
   | .drw l0 bf ((g,.pure d (.bin op e x y))::r) base j e0 Z=>match wanted (envAt bf (numbered 0 l0) e0 Z.vals j) g with
    |some true=>match evo (envAt bf (numbered 0 l0) e0 Z.vals j) x with
     |some u=>match evo (envAt bf (numbered 0 l0) e0 Z.vals j) y with
      |some w=>some (⟨n,.drw l0 bf r base (Nat.succ j) e0 ⟨(j,some d,b)::Z.vals,Z.snaps,Z.chain,Z.fls,Z.lds⟩::fs,.norm,env,m⟩,.bin op e u w b)
      |none=>none
     |none=>none
    |_=>none
   |_=>none
 |_=>none
theorem feedB_den{s s':Ms Ar}{b:Value}{o:Ob}(h:feedB s b=some (s',o))(ho:o.holds hook):s.den F clean hook=s'.den F clean hook:=by
 unfold feedB at h
 split at h
 ·rename_i n fr fs env m
  split at h
  ·rename_i g d op e x y l hrow
   split at h
   ·rename_i hw
    split at h
    ·rename_i u hu
     split at h
     ·rename_i w hw2
      injection h with h
      injection h with h1 h2
      subst h1;subst h2
      have ho:binVal op e u w=some b:=ho
      show den F clean hook (fr::fs) n .norm env m=_
      rw[rowOf_den hrow]
      show((runOps (run F clean hook n) ((g,.pure d (.bin op e x y))::l) env m).bind fun r=>den F clean hook fs n .norm r.1 r.2)=_
      simp only[runOps,hw,estep,peval,hu,hw2,ho]
      rfl
     ·cases h
    ·cases h
   ·cases h
  ·cases h
  ·split at h
   ·rename_i l0 bf g d op e x y r base j e0 Z hrow
    split at h
    ·rename_i hw
     split at h
     ·rename_i u hu
      split at h
      ·rename_i w hw2
       injection h with h
       injection h with h1 h2
       subst h1;subst h2
       have ho:binVal op e u w=some b:=ho
       show((drun (run F clean hook n) bf base (numbered 0 l0) e0 j ((g,.pure d (.bin op e x y))::r) Z).bind fun Z'=>(finD bf base e0 Z').bind fun r=>den F clean hook fs n .norm r.1 r.2)=((drun (run F clean hook n) bf base (numbered 0 l0) e0 (Nat.succ j) r _).bind fun Z'=>(finD bf base e0 Z').bind fun r=>den F clean hook fs n .norm r.1 r.2)
       have hk:kindOf (.pure d (.bin op e x y)) = .pure (.bin op e x y):=rfl
       simp only[drun,dstep,hw,hk,peval,hu,hw2,ho]
       rfl
      ·cases h
     ·cases h
    ·cases h
   ·cases h
 ·cases h
def feedK(s:Ms Ar)(b:Value):Option (Ms Ar×Ob) :=
 match s with
 |⟨n,fr::fs,.norm,env,m⟩=>match rowOf fr with
  |some ((g,.pure d (.conv k x))::l)=>match wanted env g with
   |some true=>match evo env x with
    |some u=>some (⟨n,.ops l::fs,.norm,(d,b)::env,m⟩,.cv k u b)
    |none=>none
   |_=>none
  |_=>none
 |_=>none
theorem feedK_den{s s':Ms Ar}{b:Value}{o:Ob}(h:feedK s b=some (s',o))(ho:o.holds hook):s.den F clean hook=s'.den F clean hook:=by
 unfold feedK at h
 split at h
 ·rename_i n fr fs env m
  split at h
  ·rename_i g d k x l hrow
   split at h
   ·rename_i hw
    split at h
    ·rename_i u hu
     injection h with h
     injection h with h1 h2
     subst h1;subst h2
     have ho:cvVal k u=some b:=ho
     show den F clean hook (fr::fs) n .norm env m=_
     rw[rowOf_den hrow]
     show((runOps (run F clean hook n) ((g,.pure d (.conv k x))::l) env m).bind fun r=>den F clean hook fs n .norm r.1 r.2)=_
     unfold cvVal at ho
     split at ho
     ·injection ho with ho;subst ho
      simp only[runOps,hw,estep,peval,hu]
      rfl
     ·cases ho
    ·cases h
   ·cases h
  ·cases h
 ·cases h
def feedL(s:Ms Ar)(k:Nat):Option (Ms Ar×Ob) :=
 match s with
 |⟨n,fr::fs,.norm,env,m⟩=>match rowOf fr with
  |some ((g,.pure d (.lens x))::l)=>match wanted env g with
   |some true=>match evo env x with
    |some (.string u)=>some (⟨n,.ops l::fs,.norm,(d,.int .i64 (.ofNat k))::env,m⟩,.len u k)
    |_=>none
   |_=>none
  |_=>none
 |_=>none
theorem feedL_den{s s':Ms Ar}{k:Nat}{o:Ob}(h:feedL s k=some (s',o))(ho:o.holds hook):s.den F clean hook=s'.den F clean hook:=by
 unfold feedL at h
 split at h
 ·rename_i n fr fs env m
  split at h
  ·rename_i g d x l hrow
   split at h
   ·rename_i hw
    split at h
    ·rename_i u hu
     injection h with h
     injection h with h1 h2
     subst h1;subst h2
     have ho:u.size=k:=ho
     subst ho
     show den F clean hook (fr::fs) n .norm env m=_
     rw[rowOf_den hrow]
     show((runOps (run F clean hook n) ((g,.pure d (.lens x))::l) env m).bind fun r=>den F clean hook fs n .norm r.1 r.2)=_
     simp only[runOps,hw,estep,peval,hu]
     rfl
    ·cases h
   ·cases h
  ·cases h
 ·cases h
def feedF(s:Ms Ar):Option (Ms Ar×Ob) :=
 match s with
 |⟨n,.drw _ bf [] base _ e0 Z::fs,.norm,_,_⟩=>match heldS bf Z Z.lds with
  |some l=>match Z.snaps with
   |mu::_=>some (⟨n,fs,.norm,slotsOf Z.vals++e0,layAll base (Z.fls.filter fun f=>Z.chain.all fun c=>!ordB bf f.1 c) mu⟩,.same l)
   |[]=>none
  |none=>none
 |_=>none
theorem feedF_den{s s':Ms Ar}{o:Ob}(h:feedF s=some (s',o))(ho:o.holds hook):s.den F clean hook=s'.den F clean hook:=by
 unfold feedF at h
 split at h
 ·rename_i n l0 bf base j e0 Z fs env m
  split at h
  ·rename_i l hl
   split at h
   ·rename_i mu ms hsn
    injection h with h
    injection h with h1 h2
    subst h1;subst h2
    have hh:=heldS_ok hl ho
    show((drun (run F clean hook n) bf base (numbered 0 l0) e0 j [] Z).bind fun Z'=>(finD bf base e0 Z').bind fun r=>den F clean hook fs n .norm r.1 r.2)=_
    simp only[drun,finD,hh,cond_true,hsn,bind_some']
    rfl
   ·cases h
  ·cases h
 ·cases h
variable (F clean hook)
def script:List Act→Ms Ar→List Ob→Option (Ms Ar×List Ob)
 |[],s,l=>some (s,l)
 | .run n::r,s,l=>match machS F clean hook n s with
  |some s'=>script r s' l
  |none=>none
 | .call v x::r,s,l=>match feedC s v x with
  |some (s',o)=>script r s' (o::l)
  |none=>none
 | .callR v x::r,s,l=>match feedR s v x with
  |some (s',o)=>script r s' (o::l)
  |none=>none
 | .val b::r,s,l=>match feedB s b with
  |some (s',o)=>script r s' (o::l)
  |none=>none
 | .len n::r,s,l=>match feedL s n with
  |some (s',o)=>script r s' (o::l)
  |none=>none
 | .cvt b::r,s,l=>match feedK s b with
  |some (s',o)=>script r s' (o::l)
  |none=>none
 | .fin::r,s,l=>match feedF s with
  |some (s',o)=>script r s' (o::l)
  |none=>none
variable {F clean hook}
theorem script_den:∀{acts:List Act} {s s':Ms Ar} {l l':List Ob},script F clean hook acts s l=some (s',l')→holdsAll hook l'→s.den F clean hook=s'.den F clean hook∧holdsAll hook l
 |[],s,s',l,l',h,ho=>by
  injection h with h
  injection h with h1 h2
  subst h1;subst h2
  exact⟨rfl,ho⟩
 | .run n::r,s,s',l,l',h,ho=>by
  simp only[script] at h
  split at h
  ·rename_i s1 h1
   obtain⟨h2,h3⟩:=script_den h ho
   exact⟨(machS_den h1).trans h2,h3⟩
  ·cases h
 | .call v x::r,s,s',l,l',h,ho=>by
  simp only[script] at h
  split at h
  ·rename_i s1 o h1
   obtain⟨h2,h3⟩:=script_den h ho
   exact⟨(feedC_den h1 h3.1).trans h2,h3.2⟩
  ·cases h
 | .callR v x::r,s,s',l,l',h,ho=>by
  simp only[script] at h
  split at h
  ·rename_i s1 o h1
   obtain⟨h2,h3⟩:=script_den h ho
   exact⟨(feedR_den h1 h3.1).trans h2,h3.2⟩
  ·cases h
 | .val b::r,s,s',l,l',h,ho=>by
  simp only[script] at h
  split at h
  ·rename_i s1 o h1
   obtain⟨h2,h3⟩:=script_den h ho
   exact⟨(feedB_den h1 h3.1).trans h2,h3.2⟩
  ·cases h
 | .len b::r,s,s',l,l',h,ho=>by
  simp only[script] at h
  split at h
  ·rename_i s1 o h1
   obtain⟨h2,h3⟩:=script_den h ho
   exact⟨(feedL_den h1 h3.1).trans h2,h3.2⟩
  ·cases h
 | .cvt b::r,s,s',l,l',h,ho=>by
  simp only[script] at h
  split at h
  ·rename_i s1 o h1
   obtain⟨h2,h3⟩:=script_den h ho
   exact⟨(feedK_den h1 h3.1).trans h2,h3.2⟩
  ·cases h
 | .fin::r,s,s',l,l',h,ho=>by
  simp only[script] at h
  split at h
  ·rename_i s1 o h1
   obtain⟨h2,h3⟩:=script_den h ho
   exact⟨(feedF_den h1 h3.1).trans h2,h3.2⟩
  ·cases h
def startM(lv f:Nat)(vs:List Value)(h:Hp Ar):Ms Ar:=⟨lv,[.ops [(none,.call (some 0) (.c (.func (.func f) #[] #[])) (vs.map .c))]],.norm,[],⟨[],h.tbl,h.next⟩⟩
theorem evs_cs{env:List (Nat×Value)}:∀vs:List Value,evs env (vs.map .c)=some vs
 |[]=>rfl
 |v::r=>by simp only[List.map_cons,evs,evo,evs_cs r]
theorem startM_den(lv f:Nat)(vs:List Value)(h:Hp Ar):(startM lv f vs h).den F clean hook=run F clean hook lv f vs h:=by
 show((runOps (run F clean hook lv) [(none,.call (some 0) (.c (.func (.func f) #[] #[])) (vs.map .c))] [] ⟨[],h.tbl,h.next⟩).bind fun q=>(look 0 q.1).map fun v=>(v,(⟨q.2.tbl,q.2.next⟩:Hp Ar)))=_
 have he:(vs++(#[]:Array Value).toList)=vs:=List.append_nil vs
 simp only[runOps,wanted,estep,evo,evs_cs,he]
 obtain⟨tb,nx⟩:=h
 dsimp only
 cases run F clean hook lv f vs ⟨tb,nx⟩<;>rfl
variable (F clean hook)
def scriptE(acts:List Act)(lv f:Nat)(vs:List Value)(x:Ar):Option (Value×Ar×List Ob) :=
 match script F clean hook acts (startM lv f vs ⟨[(0,.ext x)],1⟩) [] with
 |some (⟨_,[],_,env,m⟩,l)=>match look 0 env with
  |some v=>match look 0 m.tbl with
   |some (.ext x')=>some (v,x',l)
   |_=>none
  |none=>none
 |_=>none
variable {F clean hook}
theorem scriptE_run{acts:List Act}{lv f:Nat}{vs:List Value}{x x':Ar}{v:Value}{l:List Ob}(h:scriptE F clean hook acts lv f vs x=some (v,x',l))(ho:holdsAll hook l):∃t n,run F clean hook lv f vs ⟨[(0,.ext x)],1⟩=some (v,⟨t,n⟩)∧look 0 t=some (.ext x'):=by
 unfold scriptE at h
 split at h
 ·rename_i lv' xx env m l' hs
  split at h
  ·rename_i v1 hv
   split at h
   ·rename_i x1 hx
    injection h with h
    injection h with h1 h2
    injection h2 with h2 h3
    subst h1;subst h2;subst h3
    have hd:=(script_den hs ho).1
    rw[startM_den] at hd
    exact⟨m.tbl,m.next,hd.trans (Ms.end_den hv),hx⟩
   ·cases h
  ·cases h
 ·cases h
variable (F clean hook)
def scriptZ(acts:List Act)(lv f:Nat)(vs:List Value):Option (Value×List Ob) :=
 match script F clean hook acts (startM lv f vs ⟨[],0⟩) [] with
 |some (⟨_,[],_,env,_⟩,l)=>match look 0 env with
  |some v=>some (v,l)
  |none=>none
 |_=>none
variable {F clean hook}
theorem scriptZ_run{acts:List Act}{lv f:Nat}{vs:List Value}{v:Value}{l:List Ob}(h:scriptZ F clean hook acts lv f vs=some (v,l))(ho:holdsAll hook l):∃h',run F clean hook lv f vs ⟨[],0⟩=some (v,h'):=by
 unfold scriptZ at h
 split at h
 ·rename_i lv' xx env m l' hs
  split at h
  ·rename_i v1 hv
   injection h with h
   injection h with h1 h2
   subst h1;subst h2
   have hd:=(script_den hs ho).1
   rw[startM_den] at hd
   exact⟨_,hd.trans (Ms.end_den hv)⟩
  ·cases h
 ·cases h
variable (F clean hook)
variable {F clean hook}
theorem to_runZ{lv f:Nat}{vs:List Value}{h:Hp Ar}{v v':Value}(hr:∃h',run F clean hook lv f vs h=some (v,h'))(hv:v=v'):∃h',run F clean hook lv f vs h=some (v',h'):=by
 subst hv;exact hr
theorem to_run{lv f:Nat}{vs:List Value}{h:Hp Ar}{v v':Value}{x x':Ar}(hr:∃t n,run F clean hook lv f vs h=some (v,⟨t,n⟩)∧look 0 t=some (.ext x))(hv:v=v')(hx:x=x'):∃t n,run F clean hook lv f vs h=some (v',⟨t,n⟩)∧look 0 t=some (.ext x'):=by
 subst hv;subst hx;exact hr
theorem ob_bin{op:BinOp}{e:EqK}{u w:Value}{b c:Bool}(h1:binVal op e u w=some (.bool c))(h2:c=b):binVal op e u w=some (.bool b):=h2▸h1
end
end Go.AI
/- What the arena's methods answer, said of all whole numbers;what a view's functions answer. No program is named here. -/
namespace Go.AI
abbrev vwC(a s:Int):Value:=.agg ⟨[pA,.int .i64 a,.int .i64 s]⟩
abbrev vwZ:Value:=.agg ⟨[.pointer none,.int .i64 (.ofNat 0),.int .i64 (.ofNat 0)]⟩
abbrev strV(l:List UInt8):Value:=.string ⟨⟨l⟩⟩
abbrev numV(n:Nat):Value:=.int .u64 (Int.ofNat n)
def wholeI(m:Int):Bool:=ieqF m (.ofNat 1)||(ieqF m (.ofNat 2)||(ieqF m (.ofNat 4)||ieqF m (.ofNat 8)))
theorem wholeI_nat(n:Nat):wholeI (.ofNat n)=wholeN n:=by
 simp only[wholeI,wholeN,ieqF]
 cases Nat.beq n 1<;>cases Nat.beq n 2<;>cases Nat.beq n 4<;>cases Nat.beq n 8<;>rfl
def bytesE(x:Ar)(a n:Int):Nat:=match checkA x.pages a n with
 |0=>0
 |_+1=>3
def bytesV(x:Ar):Int→Int→List UInt8
 | .ofNat a,.ofNat n=>match checkN x.pages a n with
  |0=>bytesA x.pages (fuelA n) a n
  |_+1=>[]
 |_,_=>[]
theorem bytesS_all{x:Ar}{a n:Int}:bytesS x [.int .i64 a,.int .i64 n]=some (.tuple ⟨[strV (bytesV x a n),errV (bytesE x a n)]⟩,x):=by
 cases a with
 |negSucc a=>rfl
 |ofNat a =>
  cases n with
  |negSucc n=>rfl
  |ofNat n =>
   simp only[bytesS,bytesV,bytesE,checkA]
   cases checkN x.pages a n<;>rfl
def loadE(x:Ar)(a n:Int):Nat:=bif wholeI n then bytesE x a n else 2
def loadV(x:Ar):Int→Int→Nat
 | .ofNat a,.ofNat n=>bif wholeN n then(match checkN x.pages a n with
  |0=>loadA x.pages a n
  |_+1=>0) else 0
 |_,_=>0
theorem loadS_all{x:Ar}{a n:Int}:loadS x [.int .i64 a,.int .i64 n]=some (.tuple ⟨[numV (loadV x a n),errV (loadE x a n)]⟩,x):=by
 cases n with
 |negSucc n=>cases a<;>rfl
 |ofNat n =>
  simp only[loadS,loadE,wholeI_nat]
  cases hw:wholeN n with
  |false=>cases a<;>simp[loadV,hw]
  |true =>
   cases a with
   |negSucc a=>rfl
   |ofNat a =>
    simp only[loadV,hw,cond_true,bytesE,checkA]
    cases checkN x.pages a n<;>rfl
def storeX(x:Ar)(a n:Int)(v:Nat):Ar:=match a,n with
 | .ofNat a,.ofNat n=>bif wholeN n then(match checkN x.pages a n with
  |0=>⟨storeA x.pages a n v,x.armed,x.refuse⟩
  |_+1=>x) else x
 |_,_=>x
theorem storeS_all{x:Ar}{a n:Int}{v:Nat}(hv:Nat.blt v 18446744073709551616=true):storeS x [.int .i64 a,.int .i64 n,.int .u64 (.ofNat v)]=some (errV (loadE x a n),storeX x a n v):=by
 cases n with
 |negSucc n=>simp only[storeS,hv,cond_true];cases a<;>rfl
 |ofNat n =>
  simp only[storeS,loadE,wholeI_nat,hv,cond_true]
  cases hw:wholeN n with
  |false=>cases a<;>simp[storeX,hw]
  |true =>
   cases a with
   |negSucc a=>rfl
   |ofNat a =>
    simp only[storeX,hw,cond_true,bytesE,checkA]
    cases checkN x.pages a n<;>rfl
def fillX(x:Ar)(a n:Int)(b:Nat):Ar:=match a,n with
 | .ofNat a,.ofNat n=>match checkN x.pages a n with
  |0=>⟨fillA b (fuelA n) x.pages a n,x.armed,x.refuse⟩
  |_+1=>x
 |_,_=>x
theorem fillS_all{x:Ar}{a n:Int}{b:Nat}(hb:Nat.blt b 256=true):fillS x [.int .i64 a,.int .i64 n,.int .u8 (.ofNat b)]=some (errV (bytesE x a n),fillX x a n b):=by
 simp only[fillS,hb,cond_true]
 cases a with
 |negSucc a=>rfl
 |ofNat a =>
  cases n with
  |negSucc n=>rfl
  |ofNat n =>
   simp only[fillX,bytesE,checkA]
   cases checkN x.pages a n<;>rfl
def putX(x:Ar)(a:Int)(s:ByteArray):Ar:=match a with
 | .ofNat a=>match checkN x.pages a s.data.toList.length with
  |0=>⟨putA (fuelA s.data.toList.length) x.pages a s.data.toList,x.armed,x.refuse⟩
  |_+1=>x
 |_=>x
theorem putS_all{x:Ar}{a:Int}{s:ByteArray}:putS x [.int .i64 a,.string s]=some (errV (bytesE x a (.ofNat s.data.toList.length)),putX x a s):=by
 cases a with
 |negSucc a=>rfl
 |ofNat a =>
  simp only[putS,putX,bytesE,checkA]
  cases checkN x.pages a s.data.toList.length<;>rfl
theorem allC_of{l:List (Option Nat)}:∀(c p:Nat),(∀i,i<c→∃P,pgAt l (p+i)=some P)→allC l p c=true
 |0,p,_=>rfl
 |c+1,p,h=>by
  obtain⟨P,hP⟩:=h 0 (by omega)
  rw[Nat.add_zero] at hP
  simp only[allC,hP]
  exact allC_of c (p+1) fun i hi=>by
   obtain⟨Q,hQ⟩:=h (i+1) (by omega)
   exact⟨Q,by rw[← hQ];congr 1;omega⟩
theorem check_of{l:List (Option Nat)}{a k:Nat}(h:There l a k):checkN l a k=0:=by
 unfold checkN
 have h1:Nat.ble (Nat.add a k) (Nat.mul l.length 4096)=true:=by rw[Nat.ble_eq];exact h.1
 rw[h1,cond_true]
 rcases Nat.eq_zero_or_pos k with h0|h0
 ·subst h0;rfl
 ·have h2:Nat.beq k 0=false:=by rw[← Bool.not_eq_true,Nat.beq_eq];omega
  have h3:allC l (a / 4096) ((a+k-1) / 4096-a / 4096+1)=true:=allC_of _ _ fun i hi=>h.2 h0 _ (by omega) (by
   have:a / 4096≤(a+k-1) / 4096:=Nat.div_le_div_right (by omega)
   omega)
  rw[h2,cond_false]
  show(bif allC l (a / 4096) ((a+k-1) / 4096-a / 4096+1) then 0 else 3)=0
  rw[h3];rfl
theorem there_sub{l:List (Option Nat)}{a k b m:Nat}(ht:There l a k)(h1:b+m≤k):There l (a+b) m:=by
 refine⟨by have:=ht.1;omega,fun hm q q1 q2=>ht.2 (by omega) q ?_ ?_⟩
 ·exact Nat.le_trans (Nat.div_le_div_right (by omega)) q1
 ·exact Nat.le_trans q2 (Nat.div_le_div_right (by omega))
theorem bytesE_zero{x:Ar}{a k:Nat}:bytesE x (.ofNat a) (.ofNat k)=0↔checkN x.pages a k=0:=by
 simp only[bytesE,checkA]
 cases checkN x.pages a k<;>simp
theorem bytesE_sub{x:Ar}{a k b m:Nat}(h:bytesE x (.ofNat a) (.ofNat k)=0)(h1:b+m≤k):bytesE x (.ofNat (a+b)) (.ofNat m)=0 :=
 bytesE_zero.2 (check_of (there_sub (check_there (bytesE_zero.1 h)) h1))
def spAm(S:Ar→List Value→Option (Value×Ar)):Spec
 |x,.pointer (some ⟨0,0,none⟩)::r=>bif r.all plainV then(match S x r with
  |some (v,x')=>bif plainV v then some (v,x') else none
  |none=>none) else none
 |_,_=>none
theorem am_ok{P:Program}{W0:World}{Cls:Nat→Int→Prop}{hk:List (HookF Ar)}(hok:∀y∈hk,HookOk (Ext1 Cls) P W0 y.1 y.2){k:Nat}{S:Ar→List Value→Option (Value×Ar)}(hh:hookL hk k=some (methH S)):HookOk (Ext1 Cls) P W0 k (liftH (spAm S) fun _=>none):=by
 refine lift_ok (hookL_ok hok) (fun x vs v x' hx hs=>?_) (fun _ _ _ h=>by cases h)
 unfold spAm at hs
 split at hs
 ·rename_i r
  cases hr:r.all plainV with
  |false=>rw[hr] at hs;cases hs
  |true =>
   rw[hr,cond_true] at hs
   split at hs
   ·rename_i v1 x1 h1
    cases hp:plainV v1 with
    |false=>rw[hp] at hs;cases hs
    |true =>
     rw[hp,cond_true] at hs
     injection hs with hs;injection hs with e1 e2;subst e1;subst e2
     refine⟨_,1,?_,(zS (t:=[(0,AObj.ext x)]) (i:=0) (o:=.ext x) (o':=.ext x1) rfl)⟩
     have hq:Nat.blt x.refuse 9223372036854775808=true:=by rw[blt_iff];exact decide_eq_true hx
     have hl:look 0 [(0,AObj.ext x)]=some (AObj.ext x):=rfl
     rw[hh]
     simp only[methH,hl,hr,hq,Bool.and_self,cond_true,h1,hp]
   ·cases hs
 ·cases hs
theorem spAm_bytes{x:Ar}{a n:Int}:spAm bytesS x [.pointer (some ⟨0,0,none⟩),.int .i64 a,.int .i64 n]=some (.tuple ⟨[strV (bytesV x a n),errV (bytesE x a n)]⟩,x):=by
 simp only[spAm,bytesS_all];rfl
theorem spAm_load{x:Ar}{a n:Int}:spAm loadS x [.pointer (some ⟨0,0,none⟩),.int .i64 a,.int .i64 n]=some (.tuple ⟨[numV (loadV x a n),errV (loadE x a n)]⟩,x):=by
 simp only[spAm,loadS_all];rfl
theorem spAm_store{x:Ar}{a n:Int}{v:Nat}(hv:Nat.blt v 18446744073709551616=true):spAm storeS x [.pointer (some ⟨0,0,none⟩),.int .i64 a,.int .i64 n,.int .u64 (.ofNat v)]=some (errV (loadE x a n),storeX x a n v):=by
 simp only[spAm,storeS_all hv];rfl
theorem spAm_fill{x:Ar}{a n:Int}{b:Nat}(hb:Nat.blt b 256=true):spAm fillS x [.pointer (some ⟨0,0,none⟩),.int .i64 a,.int .i64 n,.int .u8 (.ofNat b)]=some (errV (bytesE x a n),fillX x a n b):=by
 simp only[spAm,fillS_all hb];rfl
theorem spAm_put{x:Ar}{a:Int}{s:ByteArray}:spAm putS x [.pointer (some ⟨0,0,none⟩),.int .i64 a,.string s]=some (errV (bytesE x a (.ofNat s.data.toList.length)),putX x a s):=by
 simp only[spAm,putS_all];rfl
def vckN(s b m:Int):Nat:=bif iltF b (.ofNat 0)||(iltF m (.ofNat 0)||(iltF s m||iltF (wrapF .i64 (s-m)) b)) then 3 else 0
def spVCheck:Spec
 |x,[.agg ⟨[.pointer (some ⟨0,0,none⟩),.int .i64 _,.int .i64 s]⟩,.int .i64 b,.int .i64 m]=>some (errV (vckN s b m),x)
 |_,_=>none
def intsN:List Value→Option Nat
 |[]=>some 0
 | .int _ _::r=>(intsN r).map Nat.succ
 |_=>none
def spE0(n:Nat)(r:Value):List Value→Option Value
 | .agg ⟨[.pointer none,.int .i64 _,.int .i64 _]⟩::l=>match intsN l with
  |some k=>bif Nat.beq k n then some r else none
  |none=>none
 |_=>none
def spVWhole:Spec
 |x,[.agg ⟨[.pointer (some ⟨0,0,none⟩),.int .i64 _,.int .i64 _]⟩,.int .i64 m]=>some (errV (bif wholeI m then 0 else 2),x)
 |_,_=>none
def spVLoad:Spec
 |x,[.agg ⟨[.pointer (some ⟨0,0,none⟩),.int .i64 a,.int .i64 s]⟩,.int .i64 b,.int .i64 m]=>bif wholeI m then(match vckN s b m with
  |0=>some (.tuple ⟨[numV (loadV x (wrapF .i64 (a+b)) m),errV (loadE x (wrapF .i64 (a+b)) m)]⟩,x)
  |e+1=>some (.tuple ⟨[numV 0,errV (e+1)]⟩,x)) else some (.tuple ⟨[numV 0,errV 2]⟩,x)
 |_,_=>none
def spVStore:Spec
 |x,[.agg ⟨[.pointer (some ⟨0,0,none⟩),.int .i64 a,.int .i64 s]⟩,.int .i64 b,.int .i64 m,.int .u64 (.ofNat v)]=>bif Nat.blt v 18446744073709551616 then(bif wholeI m then(match vckN s b m with
  |0=>some (errV (loadE x (wrapF .i64 (a+b)) m),storeX x (wrapF .i64 (a+b)) m v)
  |e+1=>some (errV (e+1),x)) else some (errV 2,x)) else none
 |_,_=>none
def spVBytes:Spec
 |x,[.agg ⟨[.pointer (some ⟨0,0,none⟩),.int .i64 a,.int .i64 s]⟩,.int .i64 b,.int .i64 m]=>match vckN s b m with
  |0=>some (.tuple ⟨[strV (bytesV x (wrapF .i64 (a+b)) m),errV (bytesE x (wrapF .i64 (a+b)) m)]⟩,x)
  |e+1=>some (.tuple ⟨[strV [],errV (e+1)]⟩,x)
 |_,_=>none
def spVPut:Spec
 |x,[.agg ⟨[.pointer (some ⟨0,0,none⟩),.int .i64 a,.int .i64 s]⟩,.int .i64 b,.string t]=>match vckN s b (.ofNat t.data.toList.length) with
  |0=>some (errV (bytesE x (wrapF .i64 (a+b)) (.ofNat t.data.toList.length)),putX x (wrapF .i64 (a+b)) t)
  |e+1=>some (errV (e+1),x)
 |_,_=>none
def spVFill:Spec
 |x,[.agg ⟨[.pointer (some ⟨0,0,none⟩),.int .i64 a,.int .i64 s]⟩,.int .i64 b,.int .i64 m,.int .u8 (.ofNat c)]=>bif Nat.blt c 256 then(match vckN s b m with
  |0=>some (errV (bytesE x (wrapF .i64 (a+b)) m),fillX x (wrapF .i64 (a+b)) m c)
  |e+1=>some (errV (e+1),x)) else none
 |_,_=>none
def spVOf:Spec
 |x,[.pointer (some ⟨0,0,none⟩),.int .i64 a,.int .i64 s]=>match bytesE x a s with
  |0=>some (.tuple ⟨[vwC a s,errV 0]⟩,x)
  |e+1=>some (.tuple ⟨[vwZ,errV (e+1)]⟩,x)
 |_,_=>none
def spVPart:Spec
 |x,[.agg ⟨[.pointer (some ⟨0,0,none⟩),.int .i64 a,.int .i64 s]⟩,.int .i64 b,.int .i64 m]=>match vckN s b m with
  |0=>spVOf x [pA,.int .i64 (wrapF .i64 (a+b)),.int .i64 m]
  |e+1=>some (.tuple ⟨[vwZ,errV (e+1)]⟩,x)
 |_,_=>none
end Go.AI
/- What is needed for the scripted walks;the arena's own methods, told as the others. -/
namespace Go.AI
open Go.Proofs
variable {W0:World}{Cls:Nat→Int→Prop}
abbrev RS(hk:List (HookF Ar)):CallFn Ar:=run F1 cleanT (hookL hk) 1000
theorem RS_ok{hk:List (HookF Ar)}(h:∀y∈hk,HookOk (Ext1 Cls) PZ W0 y.1 y.2):CallsOk (Ext1 Cls) PZ W0 (RS hk):=run_sound (esc:=escT) mixedZ (hookL_ok h) 1000
theorem spE0_out{n:Nat}{r v:Value}{vs:List Value}(h:spE0 n r vs=some v):∃a b l,vs = .agg ⟨[.pointer none,.int .i64 a,.int .i64 b]⟩::l∧intsN l=some n∧v=r:=by
 unfold spE0 at h
 split at h
 ·rename_i a b l
  split at h
  ·rename_i k hk
   cases hn:Nat.beq k n with
   |false=>rw[hn] at h;cases h
   |true =>
    rw[hn,cond_true] at h
    rw[Nat.beq_eq] at hn
    injection h with h
    subst hn
    exact⟨a,b,l,rfl,hk,h.symm⟩
  ·cases h
 ·cases h
theorem ints1{l:List Value}(h:intsN l=some 1):∃k a,l=[.int k a]:=by
 match l,h with
 |[.int k a],_=>exact⟨k,a,rfl⟩
 | .int _ _::.int _ _::r,h=>simp[intsN] at h
theorem ints2{l:List Value}(h:intsN l=some 2):∃k a j b,l=[.int k a,.int j b]:=by
 match l,h with
 |[.int k a,.int j b],_=>exact⟨k,a,j,b,rfl⟩
 | .int _ _::.int _ _::.int _ _::r,h=>simp[intsN] at h
theorem ints3{l:List Value}(h:intsN l=some 3):∃k a j b i c,l=[.int k a,.int j b,.int i c]:=by
 match l,h with
 |[.int k a,.int j b,.int i c],_=>exact⟨k,a,j,b,i,c,rfl⟩
 | .int _ _::.int _ _::.int _ _::.int _ _::r,h=>simp[intsN] at h
def hAl:List (HookF Ar):=(45,liftH (spAm bytesS) (fun _=>none))::(105,liftH (spAm loadS) (fun _=>none))::(138,liftH (spAm storeS) (fun _=>none))::(111,liftH (spAm fillS) (fun _=>none))::(174,liftH (spAm putS) (fun _=>none))::(278,liftH (spAm copyS) (fun _=>none))::(155,liftH (spAm capS) (fun _=>none))::(19,liftH (spAm commitS1) (fun _=>none))::hAr
theorem hAl_ok:∀y∈hAl,HookOk (Ext1 Cls) PZ W0 y.1 y.2 :=
 more_ok (E:=(Ext1 Cls)) (more_ok (E:=(Ext1 Cls)) (more_ok (E:=(Ext1 Cls)) (more_ok (E:=(Ext1 Cls)) (more_ok (E:=(Ext1 Cls)) (more_ok (E:=(Ext1 Cls)) (more_ok (E:=(Ext1 Cls)) (more_ok (E:=(Ext1 Cls)) (hAr_ok) (am_ok hAr_ok rfl)) (am_ok hAr_ok rfl)) (am_ok hAr_ok rfl)) (am_ok hAr_ok rfl)) (am_ok hAr_ok rfl)) (am_ok hAr_ok rfl)) (am_ok hAr_ok rfl)) (am_ok hAr_ok rfl)
end Go.AI
/- A run's bytes;a chunk's header: what is said of them. No program is named here. -/
namespace Go.AI
variable {x:Ar}
def spanI(o:Int):Int:=bif iltF o (.ofNat 0)||iltF (.ofNat 10) o then .ofNat 0 else match shiftF .shl .i64 (.ofNat 4096) o with
 |some z=>z
 |none=>.ofNat 0
def spSpan0:List Value→Option Value
 |[.int .i64 o]=>some (.int .i64 (spanI o))
 |_=>none
theorem wrap_add{a b:Nat}(h:a<4611686018427387904)(hb:b<4294967296):wrapF .i64 (Int.ofNat a+Int.ofNat b)=Int.ofNat (a+b):=by
 rw[wrap64]
 ·rfl
 ·simp only[zO];omega
 ·simp only[zO];omega
theorem loadE_sub{a k b m:Nat}(h:bytesE x (.ofNat a) (.ofNat k)=0)(h1:b+m≤k)(hm:wholeI (.ofNat m)=true):loadE x (.ofNat (a+b)) (.ofNat m)=0:=by
 simp only[loadE,hm,cond_true,bytesE_sub h h1]
theorem vload_in{a s b m:Nat}(h:bytesE x (.ofNat a) (.ofNat s)=0)(ha:a<4611686018427387904)(hb:b<4294967296)(h1:b+m≤s)(hm:wholeI (.ofNat m)=true)(hv:vckN (.ofNat s) (.ofNat b) (.ofNat m)=0) :
  spVLoad x [vwC (.ofNat a) (.ofNat s),.int .i64 (.ofNat b),.int .i64 (.ofNat m)]=some (.tuple ⟨[numV (loadV x (.ofNat (a+b)) (.ofNat m)),errV 0]⟩,x):=by
 simp only[spVLoad,hm,cond_true,hv,wrap_add ha hb,loadE_sub h h1 hm]
theorem vbytes_in{a s b m:Nat}(h:bytesE x (.ofNat a) (.ofNat s)=0)(ha:a<4611686018427387904)(hb:b<4294967296)(h1:b+m≤s)(hv:vckN (.ofNat s) (.ofNat b) (.ofNat m)=0) :
  spVBytes x [vwC (.ofNat a) (.ofNat s),.int .i64 (.ofNat b),.int .i64 (.ofNat m)]=some (.tuple ⟨[strV (bytesV x (.ofNat (a+b)) (.ofNat m)),errV 0]⟩,x):=by
 simp only[spVBytes,hv,wrap_add ha hb,bytesE_sub h h1]
theorem vstore_in{a s b m v:Nat}(h:bytesE x (.ofNat a) (.ofNat s)=0)(ha:a<4611686018427387904)(hb:b<4294967296)(h1:b+m≤s)(hm:wholeI (.ofNat m)=true)(hv:vckN (.ofNat s) (.ofNat b) (.ofNat m)=0)(hz:Nat.blt v 18446744073709551616=true) :
  spVStore x [vwC (.ofNat a) (.ofNat s),.int .i64 (.ofNat b),.int .i64 (.ofNat m),.int .u64 (.ofNat v)]=some (errV 0,storeX x (.ofNat (a+b)) (.ofNat m) v):=by
 simp only[spVStore,hm,cond_true,hv,wrap_add ha hb,loadE_sub h h1 hm,hz]
abbrev ckC(a o:Int)(w:Nat)(n:Int):Value:=.agg ⟨[.int .i64 a,.int .i64 o,.int .u64 (.ofNat w),.int .i64 n]⟩
abbrev ckZ:Value:=ckC (.ofNat 0) (.ofNat 0) 0 (.ofNat 0)
def ckBad(a l0:Nat)(o n:Int):Bool:=!ieqF (.ofNat l0) (.ofNat 1263421507)||(!ieqF (.ofNat (Nat.mod a 4096)) (.ofNat 0)||(ieqF (spanI o) (.ofNat 0)||iltF n (.ofNat 0)))
def ckO(x:Ar)(a:Nat):Int:=wrapF .i64 (.ofNat (loadV x (.ofNat (a+4)) (.ofNat 4)))
def ckW(x:Ar)(a:Nat):Nat:=loadV x (.ofNat (a+8)) (.ofNat 8)
def ckN(x:Ar)(a:Nat):Int:=wrapF .i64 (.ofNat (loadV x (.ofNat (a+16)) (.ofNat 8)))
def ckE(x:Ar):Int→Nat
 | .negSucc _=>3
 | .ofNat a=>match bytesE x (.ofNat a) (.ofNat 32) with
  |e+1=>e+1
  |0=>bif ckBad a (loadV x (.ofNat (a+0)) (.ofNat 4)) (ckO x a) (ckN x a) then 7 else 0
def spCkRead:Spec
 |x,[.pointer (some ⟨0,0,none⟩),.int .i64 (.negSucc _)]=>some (.tuple ⟨[ckZ,errV 3]⟩,x)
 |x,[.pointer (some ⟨0,0,none⟩),.int .i64 (.ofNat a)]=>match bytesE x (.ofNat a) (.ofNat 32) with
  |e+1=>some (.tuple ⟨[ckZ,errV (e+1)]⟩,x)
  |0=>bif Nat.blt a 4611686018427387904 then some (bif ckBad a (loadV x (.ofNat (a+0)) (.ofNat 4)) (ckO x a) (ckN x a) then .tuple ⟨[ckZ,errV 7]⟩ else .tuple ⟨[ckC (.ofNat a) (ckO x a) (ckW x a) (ckN x a),errV 0]⟩,x) else none
 |_,_=>none
end Go.AI
/- A view's checks do what is said of them. -/
namespace Go.AI
open Go.Proofs
variable {W0:World}{Cls:Nat→Int→Prop}
theorem wVCheck_1{x:Ar}{a s b m:Int}:scriptE F1 cleanT (hookL hAl)
 [.run 16,.val (.bool true),.run 48]
 1000 79 [vwC a s,.int .i64 b,.int .i64 m] x=some ((vI 3),(x),[(.bin .lss .no (.int .i64 (b)) (vI 0) (.bool true))]):=by kernel_rfl
theorem wVCheck_2{x:Ar}{a s b m:Int}:scriptE F1 cleanT (hookL hAl)
 [.run 16,.val (.bool false),.run 2,.val (.bool true),.run 48]
 1000 79 [vwC a s,.int .i64 b,.int .i64 m] x=some ((vI 3),(x),[(.bin .lss .no (.int .i64 (m)) (vI 0) (.bool true)),(.bin .lss .no (.int .i64 (b)) (vI 0) (.bool false))]):=by kernel_rfl
theorem wVCheck_3{x:Ar}{a s b m:Int}:scriptE F1 cleanT (hookL hAl)
 [.run 16,.val (.bool false),.run 2,.val (.bool false),.run 5,.val (.bool true),.run 48]
 1000 79 [vwC a s,.int .i64 b,.int .i64 m] x=some ((vI 3),(x),[(.bin .gtr .no (.int .i64 (m)) (.int .i64 (s)) (.bool true)),(.bin .lss .no (.int .i64 (m)) (vI 0) (.bool false)),(.bin .lss .no (.int .i64 (b)) (vI 0) (.bool false))]):=by kernel_rfl
theorem wVCheck_4{x:Ar}{a s b m:Int}:scriptE F1 cleanT (hookL hAl)
 [.run 16,.val (.bool false),.run 2,.val (.bool false),.run 5,.val (.bool false),.run 6,.val (.int .i64 (wrapF IntKind.i64 (s-m))),.val (.bool true),.run 16]
 1000 79 [vwC a s,.int .i64 b,.int .i64 m] x=some ((vI 3),(x),[(.bin .gtr .no (.int .i64 (b)) (.int .i64 (wrapF IntKind.i64 (s-m))) (.bool true)),(.bin .sub .no (.int .i64 (s)) (.int .i64 (m)) (.int .i64 (wrapF IntKind.i64 (s-m)))),(.bin .gtr .no (.int .i64 (m)) (.int .i64 (s)) (.bool false)),(.bin .lss .no (.int .i64 (m)) (vI 0) (.bool false)),(.bin .lss .no (.int .i64 (b)) (vI 0) (.bool false))]):=by kernel_rfl
theorem wVCheck_5{x:Ar}{a s b m:Int}:scriptE F1 cleanT (hookL hAl)
 [.run 16,.val (.bool false),.run 2,.val (.bool false),.run 5,.val (.bool false),.run 6,.val (.int .i64 (wrapF IntKind.i64 (s-m))),.val (.bool false),.run 16]
 1000 79 [vwC a s,.int .i64 b,.int .i64 m] x=some ((vI 0),(x),[(.bin .gtr .no (.int .i64 (b)) (.int .i64 (wrapF IntKind.i64 (s-m))) (.bool false)),(.bin .sub .no (.int .i64 (s)) (.int .i64 (m)) (.int .i64 (wrapF IntKind.i64 (s-m)))),(.bin .gtr .no (.int .i64 (m)) (.int .i64 (s)) (.bool false)),(.bin .lss .no (.int .i64 (m)) (vI 0) (.bool false)),(.bin .lss .no (.int .i64 (b)) (vI 0) (.bool false))]):=by kernel_rfl
theorem wVCheck{x:Ar}{a s b m:Int}(_hx:x.refuse<9223372036854775808)  : ∃t nx,RS hAl 79 [vwC a s,.int .i64 b,.int .i64 m] ⟨[(0,.ext x)],1⟩=some (errV (vckN s b m),⟨t,nx⟩)∧look 0 t=some (.ext x):=by
 unfold vckN
 cases hb1:iltF b (Int.ofNat 0) with
 |true =>
  refine to_run (scriptE_run (wVCheck_1 (x:=x) (a:=a) (s:=s) (b:=b) (m:=m)) ?_) ?_ ?_
  ·repeat' first
    |exact trivial
    |assumption
    |exact ob_bin rfl (by assumption)
    |exact⟨_,_,rfl,by first|assumption|rfl⟩
    |refine And.intro ?_ ?_
    |exact rfl
  ·first|rfl|(simp only[cond_true, *,zT,cond_false]<;>rfl)
  ·first|rfl|(simp only[cond_true, *,cond_false]<;>rfl)
 |false =>
  cases hb2:iltF m (Int.ofNat 0) with
  |true =>
   refine to_run (scriptE_run (wVCheck_2 (x:=x) (a:=a) (s:=s) (b:=b) (m:=m)) ?_) ?_ ?_
   ·repeat' first
     |exact trivial
     |assumption
     |exact ob_bin rfl (by assumption)
     |exact⟨_,_,rfl,by first|assumption|rfl⟩
     |refine And.intro ?_ ?_
     |exact rfl
   ·first|rfl|(simp only[cond_true, *,zT,cond_false]<;>rfl)
   ·first|rfl|(simp only[cond_true, *,cond_false]<;>rfl)
  |false =>
   cases hb3:iltF s m with
   |true =>
    refine to_run (scriptE_run (wVCheck_3 (x:=x) (a:=a) (s:=s) (b:=b) (m:=m)) ?_) ?_ ?_
    ·repeat' first
      |exact trivial
      |assumption
      |exact ob_bin rfl (by assumption)
      |exact⟨_,_,rfl,by first|assumption|rfl⟩
      |refine And.intro ?_ ?_
      |exact rfl
    ·first|rfl|(simp only[cond_true, *,zT,cond_false]<;>rfl)
    ·first|rfl|(simp only[cond_true, *,cond_false]<;>rfl)
   |false =>
    cases hb4:iltF (wrapF IntKind.i64 (s-m)) b with
    |true =>
     refine to_run (scriptE_run (wVCheck_4 (x:=x) (a:=a) (s:=s) (b:=b) (m:=m)) ?_) ?_ ?_
     ·repeat' first
       |exact trivial
       |assumption
       |exact ob_bin rfl (by assumption)
       |exact⟨_,_,rfl,by first|assumption|rfl⟩
       |refine And.intro ?_ ?_
       |exact rfl
     ·first|rfl|(simp only[cond_true, *,zT,cond_false]<;>rfl)
     ·first|rfl|(simp only[cond_true, *,cond_false]<;>rfl)
    |false =>
     refine to_run (scriptE_run (wVCheck_5 (x:=x) (a:=a) (s:=s) (b:=b) (m:=m)) ?_) ?_ ?_
     ·repeat' first
       |exact trivial
       |assumption
       |exact ob_bin rfl (by assumption)
       |exact⟨_,_,rfl,by first|assumption|rfl⟩
       |refine And.intro ?_ ?_
       |exact rfl
     ·first|rfl|(simp only[cond_true, *,zT,cond_false]<;>rfl)
     ·first|rfl|(simp only[cond_true, *,cond_false]<;>rfl)
theorem rVCheck{x x':Ar}{vs:List Value}{v:Value}(hx:x.refuse<9223372036854775808)(hs:spVCheck x vs=some (v,x')):∃t n,RS hAl 79 vs ⟨[(0,.ext x)],1⟩=some (v,⟨t,n⟩)∧look 0 t=some (.ext x'):=by
 unfold spVCheck at hs
 split at hs
 ·injection hs with hs;injection hs with h1 h2;subst h1;subst h2
  exact wVCheck hx
 ·cases hs
theorem zVCheck_1{p q a b:Int}{k1 k2:IntKind}:scriptZ F1 cleanT (hookL hAl)
 [.run 48]
 1000 79 [.agg ⟨[.pointer none,.int .i64 p,.int .i64 q]⟩,.int k1 a,.int k2 b]=some ((vI 1),[]):=by kernel_rfl
theorem zVCheck{p q a b:Int}{k1 k2:IntKind}  : ∃h',RS hAl 79 [.agg ⟨[.pointer none,.int .i64 p,.int .i64 q]⟩,.int k1 a,.int k2 b] ⟨[],0⟩=some (errV 1,h'):=by
 refine to_runZ (scriptZ_run (zVCheck_1 (p:=p) (q:=q) (a:=a) (b:=b) (k1:=k1) (k2:=k2)) ?_) ?_
 ·repeat' first
   |exact trivial
   |assumption
   |exact ob_bin rfl (by assumption)
   |exact⟨_,_,rfl,by first|assumption|rfl⟩
   |refine And.intro ?_ ?_
   |exact rfl
 ·first|rfl|(simp only[cond_true, *,zT,cond_false]<;>rfl)
theorem yVCheck{vs:List Value}{v:Value}(hs:spE0 2 (errV 1) vs=some v):∃h',RS hAl 79 vs ⟨[],0⟩=some (v,h'):=by
 obtain⟨p,q,l,rfl,hl,rfl⟩:=spE0_out hs
 obtain⟨_,_,_,_,rfl⟩:=ints2 hl
 exact zVCheck
theorem wVWhole_1{x:Ar}{a s m:Int}:scriptE F1 cleanT (hookL hAl)
 [.run 17,.val (.bool true),.run 16]
 1000 104 [vwC a s,.int .i64 m] x=some ((vI 0),(x),[(.bin .eql .no (.int .i64 (m)) (vI 1) (.bool true))]):=by kernel_rfl
theorem wVWhole_2{x:Ar}{a s m:Int}:scriptE F1 cleanT (hookL hAl)
 [.run 17,.val (.bool false),.run 5,.val (.bool true),.run 16]
 1000 104 [vwC a s,.int .i64 m] x=some ((vI 0),(x),[(.bin .eql .no (.int .i64 (m)) (vI 2) (.bool true)),(.bin .eql .no (.int .i64 (m)) (vI 1) (.bool false))]):=by kernel_rfl
theorem wVWhole_3{x:Ar}{a s m:Int}:scriptE F1 cleanT (hookL hAl)
 [.run 17,.val (.bool false),.run 5,.val (.bool false),.run 5,.val (.bool true),.run 16]
 1000 104 [vwC a s,.int .i64 m] x=some ((vI 0),(x),[(.bin .eql .no (.int .i64 (m)) (vI 4) (.bool true)),(.bin .eql .no (.int .i64 (m)) (vI 2) (.bool false)),(.bin .eql .no (.int .i64 (m)) (vI 1) (.bool false))]):=by kernel_rfl
theorem wVWhole_4{x:Ar}{a s m:Int}:scriptE F1 cleanT (hookL hAl)
 [.run 17,.val (.bool false),.run 5,.val (.bool false),.run 5,.val (.bool false),.run 4,.val (.bool true),.run 16]
 1000 104 [vwC a s,.int .i64 m] x=some ((vI 0),(x),[(.bin .eql .no (.int .i64 (m)) (vI 8) (.bool true)),(.bin .eql .no (.int .i64 (m)) (vI 4) (.bool false)),(.bin .eql .no (.int .i64 (m)) (vI 2) (.bool false)),(.bin .eql .no (.int .i64 (m)) (vI 1) (.bool false))]):=by kernel_rfl
theorem wVWhole_5{x:Ar}{a s m:Int}:scriptE F1 cleanT (hookL hAl)
 [.run 17,.val (.bool false),.run 5,.val (.bool false),.run 5,.val (.bool false),.run 4,.val (.bool false),.run 16]
 1000 104 [vwC a s,.int .i64 m] x=some ((vI 2),(x),[(.bin .eql .no (.int .i64 (m)) (vI 8) (.bool false)),(.bin .eql .no (.int .i64 (m)) (vI 4) (.bool false)),(.bin .eql .no (.int .i64 (m)) (vI 2) (.bool false)),(.bin .eql .no (.int .i64 (m)) (vI 1) (.bool false))]):=by kernel_rfl
theorem wVWhole{x:Ar}{a s m:Int}(_hx:x.refuse<9223372036854775808)  : ∃t nx,RS hAl 104 [vwC a s,.int .i64 m] ⟨[(0,.ext x)],1⟩=some (errV (bif wholeI m then 0 else 2),⟨t,nx⟩)∧look 0 t=some (.ext x):=by
 unfold wholeI
 cases hb1:ieqF m (Int.ofNat 1) with
 |true =>
  refine to_run (scriptE_run (wVWhole_1 (x:=x) (a:=a) (s:=s) (m:=m)) ?_) ?_ ?_
  ·repeat' first
    |exact trivial
    |assumption
    |exact ob_bin rfl (by assumption)
    |exact⟨_,_,rfl,by first|assumption|rfl⟩
    |refine And.intro ?_ ?_
    |exact rfl
  ·first|rfl|(simp only[cond_true, *,zT,cond_false]<;>rfl)
  ·first|rfl|(simp only[cond_true, *,cond_false]<;>rfl)
 |false =>
  cases hb2:ieqF m (Int.ofNat 2) with
  |true =>
   refine to_run (scriptE_run (wVWhole_2 (x:=x) (a:=a) (s:=s) (m:=m)) ?_) ?_ ?_
   ·repeat' first
     |exact trivial
     |assumption
     |exact ob_bin rfl (by assumption)
     |exact⟨_,_,rfl,by first|assumption|rfl⟩
     |refine And.intro ?_ ?_
     |exact rfl
   ·first|rfl|(simp only[cond_true, *,zT,cond_false]<;>rfl)
   ·first|rfl|(simp only[cond_true, *,cond_false]<;>rfl)
  |false =>
   cases hb3:ieqF m (Int.ofNat 4) with
   |true =>
    refine to_run (scriptE_run (wVWhole_3 (x:=x) (a:=a) (s:=s) (m:=m)) ?_) ?_ ?_
    ·repeat' first
      |exact trivial
      |assumption
      |exact ob_bin rfl (by assumption)
      |exact⟨_,_,rfl,by first|assumption|rfl⟩
      |refine And.intro ?_ ?_
      |exact rfl
    ·first|rfl|(simp only[cond_true, *,zT,cond_false]<;>rfl)
    ·first|rfl|(simp only[cond_true, *,cond_false]<;>rfl)
   |false =>
    cases hb4:ieqF m (Int.ofNat 8) with
    |true =>
     refine to_run (scriptE_run (wVWhole_4 (x:=x) (a:=a) (s:=s) (m:=m)) ?_) ?_ ?_
     ·repeat' first
       |exact trivial
       |assumption
       |exact ob_bin rfl (by assumption)
       |exact⟨_,_,rfl,by first|assumption|rfl⟩
       |refine And.intro ?_ ?_
       |exact rfl
     ·first|rfl|(simp only[cond_true, *,zT,cond_false]<;>rfl)
     ·first|rfl|(simp only[cond_true, *,cond_false]<;>rfl)
    |false =>
     refine to_run (scriptE_run (wVWhole_5 (x:=x) (a:=a) (s:=s) (m:=m)) ?_) ?_ ?_
     ·repeat' first
       |exact trivial
       |assumption
       |exact ob_bin rfl (by assumption)
       |exact⟨_,_,rfl,by first|assumption|rfl⟩
       |refine And.intro ?_ ?_
       |exact rfl
     ·first|rfl|(simp only[cond_true, *,zT,cond_false]<;>rfl)
     ·first|rfl|(simp only[cond_true, *,cond_false]<;>rfl)
theorem rVWhole{x x':Ar}{vs:List Value}{v:Value}(hx:x.refuse<9223372036854775808)(hs:spVWhole x vs=some (v,x')):∃t n,RS hAl 104 vs ⟨[(0,.ext x)],1⟩=some (v,⟨t,n⟩)∧look 0 t=some (.ext x'):=by
 unfold spVWhole at hs
 split at hs
 ·injection hs with hs;injection hs with h1 h2;subst h1;subst h2
  exact wVWhole hx
 ·cases hs
theorem zVWhole_1{p q a:Int}{k1:IntKind}:scriptZ F1 cleanT (hookL hAl)
 [.run 48]
 1000 104 [.agg ⟨[.pointer none,.int .i64 p,.int .i64 q]⟩,.int k1 a]=some ((vI 1),[]):=by kernel_rfl
theorem zVWhole{p q a:Int}{k1:IntKind}  : ∃h',RS hAl 104 [.agg ⟨[.pointer none,.int .i64 p,.int .i64 q]⟩,.int k1 a] ⟨[],0⟩=some (errV 1,h'):=by
 refine to_runZ (scriptZ_run (zVWhole_1 (p:=p) (q:=q) (a:=a) (k1:=k1)) ?_) ?_
 ·repeat' first
   |exact trivial
   |assumption
   |exact ob_bin rfl (by assumption)
   |exact⟨_,_,rfl,by first|assumption|rfl⟩
   |refine And.intro ?_ ?_
   |exact rfl
 ·first|rfl|(simp only[cond_true, *,zT,cond_false]<;>rfl)
theorem yVWhole{vs:List Value}{v:Value}(hs:spE0 1 (errV 1) vs=some v):∃h',RS hAl 104 vs ⟨[],0⟩=some (v,h'):=by
 obtain⟨p,q,l,rfl,hl,rfl⟩:=spE0_out hs
 obtain⟨_,_,rfl⟩:=ints1 hl
 exact zVWhole
theorem wVOf_1{x:Ar}{a s:Int}{bs:List UInt8}{E:Nat}:scriptE F1 cleanT (hookL hAl)
 [.run 10,.call (vT [(.string (.mk (.mk (bs)))),(vI (E))]) (x),.run 8,.val (.bool true),.run 16]
 1000 20 [pA,.int .i64 a,.int .i64 s] x=some ((vT [(vA [(.pointer none),(vI 0),(vI 0)]),(vI (E))]),(x),[(.bin .neq .no (vI (E)) (vI 0) (.bool true)),(.call 45 (x) [pA,(.int .i64 (a)),(.int .i64 (s))] (vT [(.string (.mk (.mk (bs)))),(vI (E))]) (x))]):=by kernel_rfl
theorem wVOf_2{x:Ar}{a s:Int}{bs:List UInt8}{E:Nat}:scriptE F1 cleanT (hookL hAl)
 [.run 10,.call (vT [(.string (.mk (.mk (bs)))),(vI (E))]) (x),.run 8,.val (.bool false),.run 16]
 1000 20 [pA,.int .i64 a,.int .i64 s] x=some ((vT [(vA [pA,(.int .i64 (a)),(.int .i64 (s))]),(vI 0)]),(x),[(.bin .neq .no (vI (E)) (vI 0) (.bool false)),(.call 45 (x) [pA,(.int .i64 (a)),(.int .i64 (s))] (vT [(.string (.mk (.mk (bs)))),(vI (E))]) (x))]):=by kernel_rfl
theorem wVOf{x:Ar}{a s:Int}{bs:List UInt8}{E:Nat}(hx:x.refuse<9223372036854775808)(hA:spAm bytesS x [pA,.int .i64 a,.int .i64 s]=some (.tuple ⟨[strV bs,errV E]⟩,x)):∃t nx,RS hAl 20 [pA,.int .i64 a,.int .i64 s] ⟨[(0,.ext x)],1⟩=some (bif !ieqF (.ofNat E) (.ofNat 0) then .tuple ⟨[vwZ,errV E]⟩ else .tuple ⟨[vwC a s,errV 0]⟩,⟨t,nx⟩)∧look 0 t=some (.ext x):=by
 cases hb1:!ieqF (Int.ofNat E) (Int.ofNat 0) with
 |true =>
  refine to_run (scriptE_run (wVOf_1 (x:=x) (a:=a) (s:=s) (bs:=bs) (E:=E)) ?_) ?_ ?_
  ·repeat' first
    |exact trivial
    |assumption
    |exact ob_bin rfl (by assumption)
    |exact⟨_,_,rfl,by first|assumption|rfl⟩
    |refine And.intro ?_ ?_
    |exact rfl
  ·first|rfl|(simp only[cond_true, *,zT,cond_false]<;>rfl)
  ·first|rfl|(simp only[cond_true, *,cond_false]<;>rfl)
 |false =>
  refine to_run (scriptE_run (wVOf_2 (x:=x) (a:=a) (s:=s) (bs:=bs) (E:=E)) ?_) ?_ ?_
  ·repeat' first
    |exact trivial
    |assumption
    |exact ob_bin rfl (by assumption)
    |exact⟨_,_,rfl,by first|assumption|rfl⟩
    |refine And.intro ?_ ?_
    |exact rfl
  ·first|rfl|(simp only[cond_true, *,zT,cond_false]<;>rfl)
  ·first|rfl|(simp only[cond_true, *,cond_false]<;>rfl)
theorem rVOf{x x':Ar}{vs:List Value}{v:Value}(hx:x.refuse<9223372036854775808)(hs:spVOf x vs=some (v,x')):∃t n,RS hAl 20 vs ⟨[(0,.ext x)],1⟩=some (v,⟨t,n⟩)∧look 0 t=some (.ext x'):=by
 unfold spVOf at hs
 split at hs
 ·rename_i a s
  have h:=wVOf hx (spAm_bytes (x:=x) (a:=a) (n:=s))
  cases hc:bytesE x a s with
  |zero=>rw[hc] at hs h;injection hs with hs;injection hs with h1 h2;subst h1;subst h2;exact h
  |succ e=>rw[hc] at hs h;injection hs with hs;injection hs with h1 h2;subst h1;subst h2;exact h
 ·cases hs
def hV0:List (HookF Ar):=(79,liftH spVCheck (spE0 2 (errV 1)))::(104,liftH spVWhole (spE0 1 (errV 1)))::(20,liftH spVOf (fun _=>none))::hAl
theorem hV0_ok:∀y∈hV0,HookOk (Ext1 Cls) PZ W0 y.1 y.2 :=
 more_ok (E:=(Ext1 Cls)) (more_ok (E:=(Ext1 Cls)) (more_ok (E:=(Ext1 Cls)) (hAl_ok) (lift_ok (RS_ok hAl_ok) (fun _ _ _ _ hx hs=>rVOf hx hs) (fun _ _ _ hs=>by cases hs))) (lift_ok (RS_ok hAl_ok) (fun _ _ _ _ hx hs=>rVWhole hx hs) (fun _ _ _ hs=>yVWhole hs))) (lift_ok (RS_ok hAl_ok) (fun _ _ _ _ hx hs=>rVCheck hx hs) (fun _ _ _ hs=>yVCheck hs))
end Go.AI
/- A view's functions, whatever is answered to them. -/
namespace Go.AI
open Go.Proofs
variable {W0:World}{Cls:Nat→Int→Prop}
theorem wVLoad_1{x:Ar}{a s b m:Int}{W:Nat}:scriptE F1 cleanT (hookL hV0)
 [.run 10,.call (vI (W)) (x),.run 4,.val (.bool true),.run 16]
 1000 61 [vwC a s,.int .i64 b,.int .i64 m] x=some ((vT [(vU 0),(vI (W))]),(x),[(.bin .neq .no (vI (W)) (vI 0) (.bool true)),(.call 104 (x) [(vA [pA,(.int .i64 (a)),(.int .i64 (s))]),(.int .i64 (m))] (vI (W)) (x))]):=by kernel_rfl
theorem wVLoad_2{x:Ar}{a s b m:Int}{W C:Nat}:scriptE F1 cleanT (hookL hV0)
 [.run 10,.call (vI (W)) (x),.run 4,.val (.bool false),.run 8,.call (vI (C)) (x),.run 4,.val (.bool true),.run 16]
 1000 61 [vwC a s,.int .i64 b,.int .i64 m] x=some ((vT [(vU 0),(vI (C))]),(x),[(.bin .neq .no (vI (C)) (vI 0) (.bool true)),(.call 79 (x) [(vA [pA,(.int .i64 (a)),(.int .i64 (s))]),(.int .i64 (b)),(.int .i64 (m))] (vI (C)) (x)),(.bin .neq .no (vI (W)) (vI 0) (.bool false)),(.call 104 (x) [(vA [pA,(.int .i64 (a)),(.int .i64 (s))]),(.int .i64 (m))] (vI (W)) (x))]):=by kernel_rfl
theorem wVLoad_3{x:Ar}{a s b m:Int}{W C V E:Nat}:scriptE F1 cleanT (hookL hV0)
 [.run 10,.call (vI (W)) (x),.run 4,.val (.bool false),.run 8,.call (vI (C)) (x),.run 4,.val (.bool false),.run 9,.val (.int .i64 (wrapF IntKind.i64 (a+b))),.run 1,.call (vT [(vU (V)),(vI (E))]) (x),.run 16]
 1000 61 [vwC a s,.int .i64 b,.int .i64 m] x=some ((vT [(vU (V)),(vI (E))]),(x),[(.call 105 (x) [pA,(.int .i64 (wrapF IntKind.i64 (a+b))),(.int .i64 (m))] (vT [(vU (V)),(vI (E))]) (x)),(.bin .add .no (.int .i64 (a)) (.int .i64 (b)) (.int .i64 (wrapF IntKind.i64 (a+b)))),(.bin .neq .no (vI (C)) (vI 0) (.bool false)),(.call 79 (x) [(vA [pA,(.int .i64 (a)),(.int .i64 (s))]),(.int .i64 (b)),(.int .i64 (m))] (vI (C)) (x)),(.bin .neq .no (vI (W)) (vI 0) (.bool false)),(.call 104 (x) [(vA [pA,(.int .i64 (a)),(.int .i64 (s))]),(.int .i64 (m))] (vI (W)) (x))]):=by kernel_rfl
theorem wVLoad{x:Ar}{a s b m:Int}{W C V E:Nat}(hx:x.refuse<9223372036854775808)(hW:spVWhole x [vwC a s,.int .i64 m]=some (errV W,x))(hC:spVCheck x [vwC a s,.int .i64 b,.int .i64 m]=some (errV C,x))(hA:spAm loadS x [pA,.int .i64 (wrapF .i64 (a+b)),.int .i64 m]=some (.tuple ⟨[numV V,errV E]⟩,x)):∃t nx,RS hV0 61 [vwC a s,.int .i64 b,.int .i64 m] ⟨[(0,.ext x)],1⟩=some (bif !ieqF (.ofNat W) (.ofNat 0) then .tuple ⟨[numV 0,errV W]⟩ else bif !ieqF (.ofNat C) (.ofNat 0) then .tuple ⟨[numV 0,errV C]⟩ else .tuple ⟨[numV V,errV E]⟩,⟨t,nx⟩)∧look 0 t=some (.ext x):=by
 cases hb1:!ieqF (Int.ofNat W) (Int.ofNat 0) with
 |true =>
  refine to_run (scriptE_run (wVLoad_1 (x:=x) (a:=a) (s:=s) (b:=b) (m:=m) (W:=W)) ?_) ?_ ?_
  ·repeat' first
    |exact trivial
    |assumption
    |exact ob_bin rfl (by assumption)
    |exact⟨_,_,rfl,by first|assumption|rfl⟩
    |refine And.intro ?_ ?_
    |exact rfl
  ·first|rfl|(simp only[cond_true, *,zT,cond_false]<;>rfl)
  ·first|rfl|(simp only[cond_true, *,cond_false]<;>rfl)
 |false =>
  cases hb2:!ieqF (Int.ofNat C) (Int.ofNat 0) with
  |true =>
   refine to_run (scriptE_run (wVLoad_2 (x:=x) (a:=a) (s:=s) (b:=b) (m:=m) (W:=W) (C:=C)) ?_) ?_ ?_
   ·repeat' first
     |exact trivial
     |assumption
     |exact ob_bin rfl (by assumption)
     |exact⟨_,_,rfl,by first|assumption|rfl⟩
     |refine And.intro ?_ ?_
     |exact rfl
   ·first|rfl|(simp only[cond_true, *,zT,cond_false]<;>rfl)
   ·first|rfl|(simp only[cond_true, *,cond_false]<;>rfl)
  |false =>
   refine to_run (scriptE_run (wVLoad_3 (x:=x) (a:=a) (s:=s) (b:=b) (m:=m) (W:=W) (C:=C) (V:=V) (E:=E)) ?_) ?_ ?_
   ·repeat' first
     |exact trivial
     |assumption
     |exact ob_bin rfl (by assumption)
     |exact⟨_,_,rfl,by first|assumption|rfl⟩
     |refine And.intro ?_ ?_
     |exact rfl
   ·first|rfl|(simp only[cond_true, *,zT,cond_false]<;>rfl)
   ·first|rfl|(simp only[cond_true, *,cond_false]<;>rfl)
theorem wVStore_1{x:Ar}{a s b m:Int}{z W:Nat}:scriptE F1 cleanT (hookL hV0)
 [.run 9,.call (vI (W)) (x),.run 4,.val (.bool true),.run 16]
 1000 96 [vwC a s,.int .i64 b,.int .i64 m,.int .u64 (.ofNat z)] x=some ((vI (W)),(x),[(.bin .neq .no (vI (W)) (vI 0) (.bool true)),(.call 104 (x) [(vA [pA,(.int .i64 (a)),(.int .i64 (s))]),(.int .i64 (m))] (vI (W)) (x))]):=by kernel_rfl
theorem wVStore_2{x:Ar}{a s b m:Int}{z W C:Nat}:scriptE F1 cleanT (hookL hV0)
 [.run 9,.call (vI (W)) (x),.run 4,.val (.bool false),.run 8,.call (vI (C)) (x),.run 4,.val (.bool true),.run 16]
 1000 96 [vwC a s,.int .i64 b,.int .i64 m,.int .u64 (.ofNat z)] x=some ((vI (C)),(x),[(.bin .neq .no (vI (C)) (vI 0) (.bool true)),(.call 79 (x) [(vA [pA,(.int .i64 (a)),(.int .i64 (s))]),(.int .i64 (b)),(.int .i64 (m))] (vI (C)) (x)),(.bin .neq .no (vI (W)) (vI 0) (.bool false)),(.call 104 (x) [(vA [pA,(.int .i64 (a)),(.int .i64 (s))]),(.int .i64 (m))] (vI (W)) (x))]):=by kernel_rfl
theorem wVStore_3{x X:Ar}{a s b m:Int}{z W C E:Nat}:scriptE F1 cleanT (hookL hV0)
 [.run 9,.call (vI (W)) (x),.run 4,.val (.bool false),.run 8,.call (vI (C)) (x),.run 4,.val (.bool false),.run 9,.val (.int .i64 (wrapF IntKind.i64 (a+b))),.run 2,.call (vI (E)) (X),.run 16]
 1000 96 [vwC a s,.int .i64 b,.int .i64 m,.int .u64 (.ofNat z)] x=some ((vI (E)),(X),[(.call 138 (x) [pA,(.int .i64 (wrapF IntKind.i64 (a+b))),(.int .i64 (m)),(vU (z))] (vI (E)) (X)),(.bin .add .no (.int .i64 (a)) (.int .i64 (b)) (.int .i64 (wrapF IntKind.i64 (a+b)))),(.bin .neq .no (vI (C)) (vI 0) (.bool false)),(.call 79 (x) [(vA [pA,(.int .i64 (a)),(.int .i64 (s))]),(.int .i64 (b)),(.int .i64 (m))] (vI (C)) (x)),(.bin .neq .no (vI (W)) (vI 0) (.bool false)),(.call 104 (x) [(vA [pA,(.int .i64 (a)),(.int .i64 (s))]),(.int .i64 (m))] (vI (W)) (x))]):=by kernel_rfl
theorem wVStore{x X:Ar}{a s b m:Int}{z W C E:Nat}(hx:x.refuse<9223372036854775808)(hW:spVWhole x [vwC a s,.int .i64 m]=some (errV W,x))(hC:spVCheck x [vwC a s,.int .i64 b,.int .i64 m]=some (errV C,x))(hA:spAm storeS x [pA,.int .i64 (wrapF .i64 (a+b)),.int .i64 m,.int .u64 (.ofNat z)]=some (errV E,X)):∃t nx,RS hV0 96 [vwC a s,.int .i64 b,.int .i64 m,.int .u64 (.ofNat z)] ⟨[(0,.ext x)],1⟩=some (bif !ieqF (.ofNat W) (.ofNat 0) then errV W else bif !ieqF (.ofNat C) (.ofNat 0) then errV C else errV E,⟨t,nx⟩)∧look 0 t=some (.ext (bif !ieqF (.ofNat W) (.ofNat 0) then x else bif !ieqF (.ofNat C) (.ofNat 0) then x else X)):=by
 cases hb1:!ieqF (Int.ofNat W) (Int.ofNat 0) with
 |true =>
  refine to_run (scriptE_run (wVStore_1 (x:=x) (a:=a) (s:=s) (b:=b) (m:=m) (z:=z) (W:=W)) ?_) ?_ ?_
  ·repeat' first
    |exact trivial
    |assumption
    |exact ob_bin rfl (by assumption)
    |exact⟨_,_,rfl,by first|assumption|rfl⟩
    |refine And.intro ?_ ?_
    |exact rfl
  ·first|rfl|(simp only[cond_true, *,zT,cond_false]<;>rfl)
  ·first|rfl|(simp only[cond_true, *,cond_false]<;>rfl)
 |false =>
  cases hb2:!ieqF (Int.ofNat C) (Int.ofNat 0) with
  |true =>
   refine to_run (scriptE_run (wVStore_2 (x:=x) (a:=a) (s:=s) (b:=b) (m:=m) (z:=z) (W:=W) (C:=C)) ?_) ?_ ?_
   ·repeat' first
     |exact trivial
     |assumption
     |exact ob_bin rfl (by assumption)
     |exact⟨_,_,rfl,by first|assumption|rfl⟩
     |refine And.intro ?_ ?_
     |exact rfl
   ·first|rfl|(simp only[cond_true, *,zT,cond_false]<;>rfl)
   ·first|rfl|(simp only[cond_true, *,cond_false]<;>rfl)
  |false =>
   refine to_run (scriptE_run (wVStore_3 (x:=x) (X:=X) (a:=a) (s:=s) (b:=b) (m:=m) (z:=z) (W:=W) (C:=C) (E:=E)) ?_) ?_ ?_
   ·repeat' first
     |exact trivial
     |assumption
     |exact ob_bin rfl (by assumption)
     |exact⟨_,_,rfl,by first|assumption|rfl⟩
     |refine And.intro ?_ ?_
     |exact rfl
   ·first|rfl|(simp only[cond_true, *,zT,cond_false]<;>rfl)
   ·first|rfl|(simp only[cond_true, *,cond_false]<;>rfl)
theorem wVBytes_1{x:Ar}{a s b m:Int}{C:Nat}:scriptE F1 cleanT (hookL hV0)
 [.run 11,.call (vI (C)) (x),.run 4,.val (.bool true),.run 16]
 1000 81 [vwC a s,.int .i64 b,.int .i64 m] x=some ((vT [(.string (.mk (.mk []))),(vI (C))]),(x),[(.bin .neq .no (vI (C)) (vI 0) (.bool true)),(.call 79 (x) [(vA [pA,(.int .i64 (a)),(.int .i64 (s))]),(.int .i64 (b)),(.int .i64 (m))] (vI (C)) (x))]):=by kernel_rfl
theorem wVBytes_2{x:Ar}{a s b m:Int}{bs:List UInt8}{C E:Nat}:scriptE F1 cleanT (hookL hV0)
 [.run 11,.call (vI (C)) (x),.run 4,.val (.bool false),.run 9,.val (.int .i64 (wrapF IntKind.i64 (a+b))),.run 1,.call (vT [(.string (.mk (.mk (bs)))),(vI (E))]) (x),.run 16]
 1000 81 [vwC a s,.int .i64 b,.int .i64 m] x=some ((vT [(.string (.mk (.mk (bs)))),(vI (E))]),(x),[(.call 45 (x) [pA,(.int .i64 (wrapF IntKind.i64 (a+b))),(.int .i64 (m))] (vT [(.string (.mk (.mk (bs)))),(vI (E))]) (x)),(.bin .add .no (.int .i64 (a)) (.int .i64 (b)) (.int .i64 (wrapF IntKind.i64 (a+b)))),(.bin .neq .no (vI (C)) (vI 0) (.bool false)),(.call 79 (x) [(vA [pA,(.int .i64 (a)),(.int .i64 (s))]),(.int .i64 (b)),(.int .i64 (m))] (vI (C)) (x))]):=by kernel_rfl
theorem wVBytes{x:Ar}{a s b m:Int}{bs:List UInt8}{C E:Nat}(hx:x.refuse<9223372036854775808)(hC:spVCheck x [vwC a s,.int .i64 b,.int .i64 m]=some (errV C,x))(hA:spAm bytesS x [pA,.int .i64 (wrapF .i64 (a+b)),.int .i64 m]=some (.tuple ⟨[strV bs,errV E]⟩,x)):∃t nx,RS hV0 81 [vwC a s,.int .i64 b,.int .i64 m] ⟨[(0,.ext x)],1⟩=some (bif !ieqF (.ofNat C) (.ofNat 0) then .tuple ⟨[strV [],errV C]⟩ else .tuple ⟨[strV bs,errV E]⟩,⟨t,nx⟩)∧look 0 t=some (.ext x):=by
 cases hb1:!ieqF (Int.ofNat C) (Int.ofNat 0) with
 |true =>
  refine to_run (scriptE_run (wVBytes_1 (x:=x) (a:=a) (s:=s) (b:=b) (m:=m) (C:=C)) ?_) ?_ ?_
  ·repeat' first
    |exact trivial
    |assumption
    |exact ob_bin rfl (by assumption)
    |exact⟨_,_,rfl,by first|assumption|rfl⟩
    |refine And.intro ?_ ?_
    |exact rfl
  ·first|rfl|(simp only[cond_true, *,zT,cond_false]<;>rfl)
  ·first|rfl|(simp only[cond_true, *,cond_false]<;>rfl)
 |false =>
  refine to_run (scriptE_run (wVBytes_2 (x:=x) (a:=a) (s:=s) (b:=b) (m:=m) (bs:=bs) (C:=C) (E:=E)) ?_) ?_ ?_
  ·repeat' first
    |exact trivial
    |assumption
    |exact ob_bin rfl (by assumption)
    |exact⟨_,_,rfl,by first|assumption|rfl⟩
    |refine And.intro ?_ ?_
    |exact rfl
  ·first|rfl|(simp only[cond_true, *,zT,cond_false]<;>rfl)
  ·first|rfl|(simp only[cond_true, *,cond_false]<;>rfl)
theorem wVFill_1{x:Ar}{a s b m:Int}{z C:Nat}:scriptE F1 cleanT (hookL hV0)
 [.run 10,.call (vI (C)) (x),.run 4,.val (.bool true),.run 16]
 1000 74 [vwC a s,.int .i64 b,.int .i64 m,.int .u8 (.ofNat z)] x=some ((vI (C)),(x),[(.bin .neq .no (vI (C)) (vI 0) (.bool true)),(.call 79 (x) [(vA [pA,(.int .i64 (a)),(.int .i64 (s))]),(.int .i64 (b)),(.int .i64 (m))] (vI (C)) (x))]):=by kernel_rfl
theorem wVFill_2{x X:Ar}{a s b m:Int}{z C E:Nat}:scriptE F1 cleanT (hookL hV0)
 [.run 10,.call (vI (C)) (x),.run 4,.val (.bool false),.run 9,.val (.int .i64 (wrapF IntKind.i64 (a+b))),.run 2,.call (vI (E)) (X),.run 16]
 1000 74 [vwC a s,.int .i64 b,.int .i64 m,.int .u8 (.ofNat z)] x=some ((vI (E)),(X),[(.call 111 (x) [pA,(.int .i64 (wrapF IntKind.i64 (a+b))),(.int .i64 (m)),(.int .u8 (.ofNat (z)))] (vI (E)) (X)),(.bin .add .no (.int .i64 (a)) (.int .i64 (b)) (.int .i64 (wrapF IntKind.i64 (a+b)))),(.bin .neq .no (vI (C)) (vI 0) (.bool false)),(.call 79 (x) [(vA [pA,(.int .i64 (a)),(.int .i64 (s))]),(.int .i64 (b)),(.int .i64 (m))] (vI (C)) (x))]):=by kernel_rfl
theorem wVFill{x X:Ar}{a s b m:Int}{z C E:Nat}(hx:x.refuse<9223372036854775808)(hC:spVCheck x [vwC a s,.int .i64 b,.int .i64 m]=some (errV C,x))(hA:spAm fillS x [pA,.int .i64 (wrapF .i64 (a+b)),.int .i64 m,.int .u8 (.ofNat z)]=some (errV E,X)):∃t nx,RS hV0 74 [vwC a s,.int .i64 b,.int .i64 m,.int .u8 (.ofNat z)] ⟨[(0,.ext x)],1⟩=some (bif !ieqF (.ofNat C) (.ofNat 0) then errV C else errV E,⟨t,nx⟩)∧look 0 t=some (.ext (bif !ieqF (.ofNat C) (.ofNat 0) then x else X)):=by
 cases hb1:!ieqF (Int.ofNat C) (Int.ofNat 0) with
 |true =>
  refine to_run (scriptE_run (wVFill_1 (x:=x) (a:=a) (s:=s) (b:=b) (m:=m) (z:=z) (C:=C)) ?_) ?_ ?_
  ·repeat' first
    |exact trivial
    |assumption
    |exact ob_bin rfl (by assumption)
    |exact⟨_,_,rfl,by first|assumption|rfl⟩
    |refine And.intro ?_ ?_
    |exact rfl
  ·first|rfl|(simp only[cond_true, *,zT,cond_false]<;>rfl)
  ·first|rfl|(simp only[cond_true, *,cond_false]<;>rfl)
 |false =>
  refine to_run (scriptE_run (wVFill_2 (x:=x) (X:=X) (a:=a) (s:=s) (b:=b) (m:=m) (z:=z) (C:=C) (E:=E)) ?_) ?_ ?_
  ·repeat' first
    |exact trivial
    |assumption
    |exact ob_bin rfl (by assumption)
    |exact⟨_,_,rfl,by first|assumption|rfl⟩
    |refine And.intro ?_ ?_
    |exact rfl
  ·first|rfl|(simp only[cond_true, *,zT,cond_false]<;>rfl)
  ·first|rfl|(simp only[cond_true, *,cond_false]<;>rfl)
theorem wVPut_1{x:Ar}{a s b:Int}{u:List UInt8}{C:Nat}:scriptE F1 cleanT (hookL hV0)
 [.run 10,.len (List.length u),.call (vI (C)) (x),.run 4,.val (.bool true),.run 16]
 1000 145 [vwC a s,.int .i64 b,strV u] x=some ((vI (C)),(x),[(.bin .neq .no (vI (C)) (vI 0) (.bool true)),(.call 79 (x) [(vA [pA,(.int .i64 (a)),(.int .i64 (s))]),(.int .i64 (b)),(vI (List.length u))] (vI (C)) (x)),(.len (.mk (.mk (u))) (List.length u))]):=by kernel_rfl
theorem wVPut_2{x X:Ar}{a s b:Int}{u:List UInt8}{C E:Nat}:scriptE F1 cleanT (hookL hV0)
 [.run 10,.len (List.length u),.call (vI (C)) (x),.run 4,.val (.bool false),.run 9,.val (.int .i64 (wrapF IntKind.i64 (a+b))),.run 1,.call (vI (E)) (X),.run 16]
 1000 145 [vwC a s,.int .i64 b,strV u] x=some ((vI (E)),(X),[(.call 174 (x) [pA,(.int .i64 (wrapF IntKind.i64 (a+b))),(.string (.mk (.mk (u))))] (vI (E)) (X)),(.bin .add .no (.int .i64 (a)) (.int .i64 (b)) (.int .i64 (wrapF IntKind.i64 (a+b)))),(.bin .neq .no (vI (C)) (vI 0) (.bool false)),(.call 79 (x) [(vA [pA,(.int .i64 (a)),(.int .i64 (s))]),(.int .i64 (b)),(vI (List.length u))] (vI (C)) (x)),(.len (.mk (.mk (u))) (List.length u))]):=by kernel_rfl
theorem wVPut{x X:Ar}{a s b:Int}{u:List UInt8}{C E:Nat}(hx:x.refuse<9223372036854775808)(hC:spVCheck x [vwC a s,.int .i64 b,.int .i64 (.ofNat u.length)]=some (errV C,x))(hA:spAm putS x [pA,.int .i64 (wrapF .i64 (a+b)),strV u]=some (errV E,X)):∃t nx,RS hV0 145 [vwC a s,.int .i64 b,strV u] ⟨[(0,.ext x)],1⟩=some (bif !ieqF (.ofNat C) (.ofNat 0) then errV C else errV E,⟨t,nx⟩)∧look 0 t=some (.ext (bif !ieqF (.ofNat C) (.ofNat 0) then x else X)):=by
 cases hb1:!ieqF (Int.ofNat C) (Int.ofNat 0) with
 |true =>
  refine to_run (scriptE_run (wVPut_1 (x:=x) (a:=a) (s:=s) (b:=b) (u:=u) (C:=C)) ?_) ?_ ?_
  ·repeat' first
    |exact trivial
    |assumption
    |exact ob_bin rfl (by assumption)
    |exact⟨_,_,rfl,by first|assumption|rfl⟩
    |refine And.intro ?_ ?_
    |exact rfl
  ·first|rfl|(simp only[cond_true, *,zT,cond_false]<;>rfl)
  ·first|rfl|(simp only[cond_true, *,cond_false]<;>rfl)
 |false =>
  refine to_run (scriptE_run (wVPut_2 (x:=x) (X:=X) (a:=a) (s:=s) (b:=b) (u:=u) (C:=C) (E:=E)) ?_) ?_ ?_
  ·repeat' first
    |exact trivial
    |assumption
    |exact ob_bin rfl (by assumption)
    |exact⟨_,_,rfl,by first|assumption|rfl⟩
    |refine And.intro ?_ ?_
    |exact rfl
  ·first|rfl|(simp only[cond_true, *,zT,cond_false]<;>rfl)
  ·first|rfl|(simp only[cond_true, *,cond_false]<;>rfl)
theorem zVLoad_1{p q a b:Int}{k1 k2:IntKind}:scriptZ F1 cleanT (hookL hV0)
 [.run 48]
 1000 61 [.agg ⟨[.pointer none,.int .i64 p,.int .i64 q]⟩,.int k1 a,.int k2 b]=some ((vT [(vU 0),(vI 1)]),[]):=by kernel_rfl
theorem zVLoad{p q a b:Int}{k1 k2:IntKind}  : ∃h',RS hV0 61 [.agg ⟨[.pointer none,.int .i64 p,.int .i64 q]⟩,.int k1 a,.int k2 b] ⟨[],0⟩=some (.tuple ⟨[numV 0,errV 1]⟩,h'):=by
 refine to_runZ (scriptZ_run (zVLoad_1 (p:=p) (q:=q) (a:=a) (b:=b) (k1:=k1) (k2:=k2)) ?_) ?_
 ·repeat' first
   |exact trivial
   |assumption
   |exact ob_bin rfl (by assumption)
   |exact⟨_,_,rfl,by first|assumption|rfl⟩
   |refine And.intro ?_ ?_
   |exact rfl
 ·first|rfl|(simp only[cond_true, *,zT,cond_false]<;>rfl)
theorem yVLoad{vs:List Value}{v:Value}(hs:spE0 2 (.tuple ⟨[numV 0,errV 1]⟩) vs=some v):∃h',RS hV0 61 vs ⟨[],0⟩=some (v,h'):=by
 obtain⟨p,q,l,rfl,hl,rfl⟩:=spE0_out hs
 obtain⟨_,_,_,_,rfl⟩:=ints2 hl
 exact zVLoad
theorem zVStore_1{p q a b c:Int}{k1 k2 k3:IntKind}:scriptZ F1 cleanT (hookL hV0)
 [.run 48]
 1000 96 [.agg ⟨[.pointer none,.int .i64 p,.int .i64 q]⟩,.int k1 a,.int k2 b,.int k3 c]=some ((vI 1),[]):=by kernel_rfl
theorem zVStore{p q a b c:Int}{k1 k2 k3:IntKind}  : ∃h',RS hV0 96 [.agg ⟨[.pointer none,.int .i64 p,.int .i64 q]⟩,.int k1 a,.int k2 b,.int k3 c] ⟨[],0⟩=some (errV 1,h'):=by
 refine to_runZ (scriptZ_run (zVStore_1 (p:=p) (q:=q) (a:=a) (b:=b) (c:=c) (k1:=k1) (k2:=k2) (k3:=k3)) ?_) ?_
 ·repeat' first
   |exact trivial
   |assumption
   |exact ob_bin rfl (by assumption)
   |exact⟨_,_,rfl,by first|assumption|rfl⟩
   |refine And.intro ?_ ?_
   |exact rfl
 ·first|rfl|(simp only[cond_true, *,zT,cond_false]<;>rfl)
theorem yVStore{vs:List Value}{v:Value}(hs:spE0 3 (errV 1) vs=some v):∃h',RS hV0 96 vs ⟨[],0⟩=some (v,h'):=by
 obtain⟨p,q,l,rfl,hl,rfl⟩:=spE0_out hs
 obtain⟨_,_,_,_,_,_,rfl⟩:=ints3 hl
 exact zVStore
theorem zVBytes_1{p q a b:Int}{k1 k2:IntKind}:scriptZ F1 cleanT (hookL hV0)
 [.run 48]
 1000 81 [.agg ⟨[.pointer none,.int .i64 p,.int .i64 q]⟩,.int k1 a,.int k2 b]=some ((vT [(.string (.mk (.mk []))),(vI 1)]),[]):=by kernel_rfl
theorem zVBytes{p q a b:Int}{k1 k2:IntKind}  : ∃h',RS hV0 81 [.agg ⟨[.pointer none,.int .i64 p,.int .i64 q]⟩,.int k1 a,.int k2 b] ⟨[],0⟩=some (.tuple ⟨[strV [],errV 1]⟩,h'):=by
 refine to_runZ (scriptZ_run (zVBytes_1 (p:=p) (q:=q) (a:=a) (b:=b) (k1:=k1) (k2:=k2)) ?_) ?_
 ·repeat' first
   |exact trivial
   |assumption
   |exact ob_bin rfl (by assumption)
   |exact⟨_,_,rfl,by first|assumption|rfl⟩
   |refine And.intro ?_ ?_
   |exact rfl
 ·first|rfl|(simp only[cond_true, *,zT,cond_false]<;>rfl)
theorem yVBytes{vs:List Value}{v:Value}(hs:spE0 2 (.tuple ⟨[strV [],errV 1]⟩) vs=some v):∃h',RS hV0 81 vs ⟨[],0⟩=some (v,h'):=by
 obtain⟨p,q,l,rfl,hl,rfl⟩:=spE0_out hs
 obtain⟨_,_,_,_,rfl⟩:=ints2 hl
 exact zVBytes
theorem zVFill_1{p q a b c:Int}{k1 k2 k3:IntKind}:scriptZ F1 cleanT (hookL hV0)
 [.run 48]
 1000 74 [.agg ⟨[.pointer none,.int .i64 p,.int .i64 q]⟩,.int k1 a,.int k2 b,.int k3 c]=some ((vI 1),[]):=by kernel_rfl
theorem zVFill{p q a b c:Int}{k1 k2 k3:IntKind}  : ∃h',RS hV0 74 [.agg ⟨[.pointer none,.int .i64 p,.int .i64 q]⟩,.int k1 a,.int k2 b,.int k3 c] ⟨[],0⟩=some (errV 1,h'):=by
 refine to_runZ (scriptZ_run (zVFill_1 (p:=p) (q:=q) (a:=a) (b:=b) (c:=c) (k1:=k1) (k2:=k2) (k3:=k3)) ?_) ?_
 ·repeat' first
   |exact trivial
   |assumption
   |exact ob_bin rfl (by assumption)
   |exact⟨_,_,rfl,by first|assumption|rfl⟩
   |refine And.intro ?_ ?_
   |exact rfl
 ·first|rfl|(simp only[cond_true, *,zT,cond_false]<;>rfl)
theorem yVFill{vs:List Value}{v:Value}(hs:spE0 3 (errV 1) vs=some v):∃h',RS hV0 74 vs ⟨[],0⟩=some (v,h'):=by
 obtain⟨p,q,l,rfl,hl,rfl⟩:=spE0_out hs
 obtain⟨_,_,_,_,_,_,rfl⟩:=ints3 hl
 exact zVFill
theorem rVLoad{x x':Ar}{vs:List Value}{v:Value}(hx:x.refuse<9223372036854775808)(hs:spVLoad x vs=some (v,x')):∃t n,RS hV0 61 vs ⟨[(0,.ext x)],1⟩=some (v,⟨t,n⟩)∧look 0 t=some (.ext x'):=by
 unfold spVLoad at hs
 split at hs
 ·rename_i a s b m
  have h:=wVLoad hx (x:=x) (a:=a) (s:=s) (b:=b) (m:=m) (W:=bif wholeI m then 0 else 2) (C:=vckN s b m) rfl rfl spAm_load
  cases hw:wholeI m with
  |false=>simp only[hw,cond_false] at hs;injection hs with hs;injection hs with h1 h2;subst h1;subst h2;rw[hw] at h;exact h
  |true =>
   simp only[hw,cond_true] at hs
   cases hc:vckN s b m with
   |zero=>simp only[hc] at hs;injection hs with hs;injection hs with h1 h2;subst h1;subst h2;rw[hw,hc] at h;exact h
   |succ e=>simp only[hc] at hs;injection hs with hs;injection hs with h1 h2;subst h1;subst h2;rw[hw,hc] at h;exact h
 ·cases hs
theorem rVStore{x x':Ar}{vs:List Value}{v:Value}(hx:x.refuse<9223372036854775808)(hs:spVStore x vs=some (v,x')):∃t n,RS hV0 96 vs ⟨[(0,.ext x)],1⟩=some (v,⟨t,n⟩)∧look 0 t=some (.ext x'):=by
 unfold spVStore at hs
 split at hs
 ·rename_i a s b m z
  cases hz:Nat.blt z 18446744073709551616 with
  |false=>simp only[hz,cond_false] at hs;cases hs
  |true =>
  simp only[hz,cond_true] at hs
  have h:=wVStore hx (x:=x) (a:=a) (s:=s) (b:=b) (m:=m) (z:=z) (W:=bif wholeI m then 0 else 2) (C:=vckN s b m) rfl rfl (spAm_store hz)
  cases hw:wholeI m with
  |false=>simp only[hw,cond_false] at hs;injection hs with hs;injection hs with h1 h2;subst h1;subst h2;rw[hw] at h;exact h
  |true =>
   simp only[hw,cond_true] at hs
   cases hc:vckN s b m with
   |zero=>simp only[hc] at hs;injection hs with hs;injection hs with h1 h2;subst h1;subst h2;rw[hw,hc] at h;exact h
   |succ e=>simp only[hc] at hs;injection hs with hs;injection hs with h1 h2;subst h1;subst h2;rw[hw,hc] at h;exact h
 ·cases hs
theorem rVBytes{x x':Ar}{vs:List Value}{v:Value}(hx:x.refuse<9223372036854775808)(hs:spVBytes x vs=some (v,x')):∃t n,RS hV0 81 vs ⟨[(0,.ext x)],1⟩=some (v,⟨t,n⟩)∧look 0 t=some (.ext x'):=by
 unfold spVBytes at hs
 split at hs
 ·rename_i a s b m
  have h:=wVBytes hx (x:=x) (a:=a) (s:=s) (b:=b) (m:=m) (C:=vckN s b m) rfl spAm_bytes
  cases hc:vckN s b m with
  |zero=>simp only[hc] at hs;injection hs with hs;injection hs with h1 h2;subst h1;subst h2;rw[hc] at h;exact h
  |succ e=>simp only[hc] at hs;injection hs with hs;injection hs with h1 h2;subst h1;subst h2;rw[hc] at h;exact h
 ·cases hs
theorem rVFill{x x':Ar}{vs:List Value}{v:Value}(hx:x.refuse<9223372036854775808)(hs:spVFill x vs=some (v,x')):∃t n,RS hV0 74 vs ⟨[(0,.ext x)],1⟩=some (v,⟨t,n⟩)∧look 0 t=some (.ext x'):=by
 unfold spVFill at hs
 split at hs
 ·rename_i a s b m z
  cases hz:Nat.blt z 256 with
  |false=>simp only[hz,cond_false] at hs;cases hs
  |true =>
  simp only[hz,cond_true] at hs
  have h:=wVFill hx (x:=x) (a:=a) (s:=s) (b:=b) (m:=m) (z:=z) (C:=vckN s b m) rfl (spAm_fill hz)
  cases hc:vckN s b m with
  |zero=>simp only[hc] at hs;injection hs with hs;injection hs with h1 h2;subst h1;subst h2;rw[hc] at h;exact h
  |succ e=>simp only[hc] at hs;injection hs with hs;injection hs with h1 h2;subst h1;subst h2;rw[hc] at h;exact h
 ·cases hs
theorem rVPut{x x':Ar}{vs:List Value}{v:Value}(hx:x.refuse<9223372036854775808)(hs:spVPut x vs=some (v,x')):∃t n,RS hV0 145 vs ⟨[(0,.ext x)],1⟩=some (v,⟨t,n⟩)∧look 0 t=some (.ext x'):=by
 unfold spVPut at hs
 split at hs
 ·rename_i a s b u
  obtain⟨⟨u⟩⟩:=u
  have h:=wVPut hx (x:=x) (a:=a) (s:=s) (b:=b) (u:=u) (C:=vckN s b (.ofNat u.length)) rfl spAm_put
  cases hc:vckN s b (.ofNat u.length) with
  |zero=>simp only[hc] at hs;injection hs with hs;injection hs with h1 h2;subst h1;subst h2;rw[hc] at h;exact h
  |succ e=>simp only[hc] at hs;injection hs with hs;injection hs with h1 h2;subst h1;subst h2;rw[hc] at h;exact h
 ·cases hs
def hV1:List (HookF Ar):=(61,liftH spVLoad (spE0 2 (.tuple ⟨[numV 0,errV 1]⟩)))::(96,liftH spVStore (spE0 3 (errV 1)))::(81,liftH spVBytes (spE0 2 (.tuple ⟨[strV [],errV 1]⟩)))::(145,liftH spVPut (fun _=>none))::(74,liftH spVFill (spE0 3 (errV 1)))::hV0
theorem hV1_ok:∀y∈hV1,HookOk (Ext1 Cls) PZ W0 y.1 y.2 :=
 more_ok (E:=(Ext1 Cls)) (more_ok (E:=(Ext1 Cls)) (more_ok (E:=(Ext1 Cls)) (more_ok (E:=(Ext1 Cls)) (more_ok (E:=(Ext1 Cls)) (hV0_ok) (lift_ok (RS_ok hV0_ok) (fun _ _ _ _ hx hs=>rVFill hx hs) (fun _ _ _ hs=>yVFill hs))) (lift_ok (RS_ok hV0_ok) (fun _ _ _ _ hx hs=>rVPut hx hs) (fun _ _ _ hs=>by cases hs))) (lift_ok (RS_ok hV0_ok) (fun _ _ _ _ hx hs=>rVBytes hx hs) (fun _ _ _ hs=>yVBytes hs))) (lift_ok (RS_ok hV0_ok) (fun _ _ _ _ hx hs=>rVStore hx hs) (fun _ _ _ hs=>yVStore hs))) (lift_ok (RS_ok hV0_ok) (fun _ _ _ _ hx hs=>rVLoad hx hs) (fun _ _ _ hs=>yVLoad hs))
end Go.AI
/- A run's bytes;a chunk's header read. -/
namespace Go.AI
open Go.Proofs
variable {W0:World}{Cls:Nat→Int→Prop}
theorem wSpanN_1{a1:Nat}:scriptZ F1 cleanT (hookL hV1)
 [.run 10,.val (.bool true),.run 16]
 1000 101 [.int .i64 (.ofNat a1)]=some ((vI 0),[(.bin .gtr .no (vI (a1)) (vI 10) (.bool true))]):=by kernel_rfl
theorem wSpanN_2{a1:Nat}:scriptZ F1 cleanT (hookL hV1)
 [.run 10,.val (.bool false),.run 6,.val (.int .i64 (wrapF IntKind.i64   (Int.ofNat     (Nat.mul 4096 (Nat.pow 2 (bif Nat.blt a1 (IntKind.bits IntKind.i64) then a1 else IntKind.bits IntKind.i64)))))),.run 16]
 1000 101 [.int .i64 (.ofNat a1)]=some ((.int .i64 (wrapF IntKind.i64   (Int.ofNat     (Nat.mul 4096 (Nat.pow 2 (bif Nat.blt a1 (IntKind.bits IntKind.i64) then a1 else IntKind.bits IntKind.i64)))))),[(.bin .shl .no (vI 4096) (vI (a1)) (.int .i64 (wrapF IntKind.i64   (Int.ofNat     (Nat.mul 4096 (Nat.pow 2 (bif Nat.blt a1 (IntKind.bits IntKind.i64) then a1 else IntKind.bits IntKind.i64))))))),(.bin .gtr .no (vI (a1)) (vI 10) (.bool false))]):=by kernel_rfl
theorem wSpanN{a1:Nat}  : ∃h',RS hV1 101 [.int .i64 (.ofNat a1)] ⟨[],0⟩=some (.int .i64 (spanI (.ofNat a1)),h'):=by
 unfold spanI
 cases hb1:iltF (Int.ofNat 10) (Int.ofNat a1) with
 |true =>
  refine to_runZ (scriptZ_run (wSpanN_1 (a1:=a1)) ?_) ?_
  ·repeat' first
    |exact trivial
    |assumption
    |exact ob_bin rfl (by assumption)
    |exact⟨_,_,rfl,by first|assumption|rfl⟩
    |refine And.intro ?_ ?_
    |exact rfl
  ·first|rfl|(simp only[cond_true, *,zT,cond_false]<;>rfl)
 |false =>
  refine to_runZ (scriptZ_run (wSpanN_2 (a1:=a1)) ?_) ?_
  ·repeat' first
    |exact trivial
    |assumption
    |exact ob_bin rfl (by assumption)
    |exact⟨_,_,rfl,by first|assumption|rfl⟩
    |refine And.intro ?_ ?_
    |exact rfl
  ·first|rfl|(simp only[cond_true, *,zT,cond_false]<;>rfl)
theorem wSpanM_1{a1:Nat}:scriptZ F1 cleanT (hookL hV1)
 [.run 48]
 1000 101 [.int .i64 (.negSucc a1)]=some ((vI 0),[]):=by kernel_rfl
theorem wSpanM{a1:Nat}  : ∃h',RS hV1 101 [.int .i64 (.negSucc a1)] ⟨[],0⟩=some (.int .i64 (spanI (.negSucc a1)),h'):=by
 unfold spanI
 refine to_runZ (scriptZ_run (wSpanM_1 (a1:=a1)) ?_) ?_
 ·repeat' first
   |exact trivial
   |assumption
   |exact ob_bin rfl (by assumption)
   |exact⟨_,_,rfl,by first|assumption|rfl⟩
   |refine And.intro ?_ ?_
   |exact rfl
 ·first|rfl|(simp only[cond_true, *,zT,cond_false]<;>rfl)
theorem ySpan{vs:List Value}{v:Value}(hs:spSpan0 vs=some v):∃h',RS hV1 101 vs ⟨[],0⟩=some (v,h'):=by
 unfold spSpan0 at hs
 split at hs
 ·rename_i o
  injection hs with hs;subst hs
  cases o with
  |ofNat o=>exact wSpanN
  |negSucc o=>exact wSpanM
 ·cases hs
def hV2:List (HookF Ar):=(101,liftH (fun _ _=>none) spSpan0)::hV1
theorem hV2_ok:∀y∈hV2,HookOk (Ext1 Cls) PZ W0 y.1 y.2 :=
 more_ok (E:=(Ext1 Cls)) hV1_ok (lift_ok (RS_ok hV1_ok) (fun _ _ _ _ _ hs=>by cases hs) fun _ _ _ hs=>ySpan hs)
end Go.AI
/- A chunk's header read. -/
namespace Go.AI
open Go.Proofs
variable {W0:World}{Cls:Nat→Int→Prop}
theorem wCkReadE_1{x:Ar}{a:Int}{e:Nat}:scriptE F1 cleanT (hookL hV2)
 [.run 8,.call (vT [(vA [(.pointer none),(vI 0),(vI 0)]),(vI (e+1))]) (x),.run 48]
 1000 59 [pA,.int .i64 a] x=some ((vT [(vA [(vI 0),(vI 0),(vU 0),(vI 0)]),(vI (e+1))]),(x),[(.call 20 (x) [pA,(.int .i64 (a)),(vI 32)] (vT [(vA [(.pointer none),(vI 0),(vI 0)]),(vI (e+1))]) (x))]):=by kernel_rfl
theorem wCkReadE{x:Ar}{a:Int}{e:Nat}(hx:x.refuse<9223372036854775808)(hO:spVOf x [pA,.int .i64 a,.int .i64 (.ofNat 32)]=some (.tuple ⟨[vwZ,errV (e+1)]⟩,x)):∃t nx,RS hV2 59 [pA,.int .i64 a] ⟨[(0,.ext x)],1⟩=some (.tuple ⟨[ckZ,errV (e+1)]⟩,⟨t,nx⟩)∧look 0 t=some (.ext x):=by
 refine to_run (scriptE_run (wCkReadE_1 (x:=x) (a:=a) (e:=e)) ?_) ?_ ?_
 ·repeat' first
   |exact trivial
   |assumption
   |exact ob_bin rfl (by assumption)
   |exact⟨_,_,rfl,by first|assumption|rfl⟩
   |refine And.intro ?_ ?_
   |exact rfl
 ·first|rfl|(simp only[cond_true, *,zT,cond_false]<;>rfl)
 ·first|rfl|(simp only[cond_true, *,cond_false]<;>rfl)
theorem wCkRead_1{x:Ar}{a1 w0 w1 w2 w3:Nat}{bs:List UInt8}:scriptE F1 cleanT (hookL hV2)
 [.run 8,.call (vT [(vA [pA,(vI (a1)),(vI 32)]),(vI 0)]) (x),.run 401,.call (vT [(.string (.mk (.mk (bs)))),(vI 0)]) (x),.run 5,.fin,.run 152,.call (vT [(vU (w0)),(vI 0)]) (x),.run 4,.fin,.run 176,.call (vT [(vU (w1)),(vI 0)]) (x),.run 4,.fin,.run 199,.call (vT [(vU (w2)),(vI 0)]) (x),.run 4,.fin,.run 222,.call (vT [(vU (w3)),(vI 0)]) (x),.run 4,.fin,.run 41,.fin,.run 17,.fin,.run 5,.val (.bool true),.run 48]
 1000 59 [pA,.int .i64 (.ofNat a1)] x=some ((vT [(vA [(vI 0),(vI 0),(vU 0),(vI 0)]),(vI 7)]),(x),[(.bin .neq .no (vU (w0)) (vU 1263421507) (.bool true)),(.same [(vD (vU (w3))),(vD (vU (w2))),(vD (vU (w1)))]),(.same [(vD (vI (a1))),(vD (vI 32)),(vD (vI (a1))),(vD (vI 32))]),(.same [(vD (vI 8)),(vD (vI 8)),(vD (vI (a1))),(vD (vI 32)),(vD (vI (a1))),(vD (vI 32))]),(.call 61 (x) [(vA [pA,(vI (a1)),(vI 32)]),(vI 16),(vI 8)] (vT [(vU (w3)),(vI 0)]) (x)),(.same [(vD (vI 8)),(vD (vI 8)),(vD (vI (a1))),(vD (vI 32)),(vD (vI (a1))),(vD (vI 32))]),(.call 61 (x) [(vA [pA,(vI (a1)),(vI 32)]),(vI 8),(vI 8)] (vT [(vU (w2)),(vI 0)]) (x)),(.same [(vD (vI 4)),(vD (vI 4)),(vD (vI (a1))),(vD (vI 32)),(vD (vI (a1))),(vD (vI 32))]),(.call 61 (x) [(vA [pA,(vI (a1)),(vI 32)]),(vI 4),(vI 4)] (vT [(vU (w1)),(vI 0)]) (x)),(.same [(vD (vI 4)),(vD (vI 4)),(vD (vI (a1))),(vD (vI 32)),(vD (vI (a1))),(vD (vI 32))]),(.call 61 (x) [(vA [pA,(vI (a1)),(vI 32)]),(vI 0),(vI 4)] (vT [(vU (w0)),(vI 0)]) (x)),(.same [(vD (vI (a1))),(vD (vI 32)),(vD (vI (a1))),(vD (vI 32))]),(.call 81 (x) [(vA [pA,(vI (a1)),(vI 32)]),(vI 0),(vI 24)] (vT [(.string (.mk (.mk (bs)))),(vI 0)]) (x)),(.call 20 (x) [pA,(vI (a1)),(vI 32)] (vT [(vA [pA,(vI (a1)),(vI 32)]),(vI 0)]) (x))]):=by kernel_rfl
theorem wCkRead_2{x:Ar}{a1 w0 w1 w2 w3:Nat}{bs:List UInt8}:scriptE F1 cleanT (hookL hV2)
 [.run 8,.call (vT [(vA [pA,(vI (a1)),(vI 32)]),(vI 0)]) (x),.run 401,.call (vT [(.string (.mk (.mk (bs)))),(vI 0)]) (x),.run 5,.fin,.run 152,.call (vT [(vU (w0)),(vI 0)]) (x),.run 4,.fin,.run 176,.call (vT [(vU (w1)),(vI 0)]) (x),.run 4,.fin,.run 199,.call (vT [(vU (w2)),(vI 0)]) (x),.run 4,.fin,.run 222,.call (vT [(vU (w3)),(vI 0)]) (x),.run 4,.fin,.run 41,.fin,.run 17,.fin,.run 5,.val (.bool false),.run 2,.val (vI (Nat.mod a1 4096)),.val (.bool true),.run 48]
 1000 59 [pA,.int .i64 (.ofNat a1)] x=some ((vT [(vA [(vI 0),(vI 0),(vU 0),(vI 0)]),(vI 7)]),(x),[(.bin .neq .no (vI (Nat.mod a1 4096)) (vI 0) (.bool true)),(.bin .rem .no (vI (a1)) (vI 4096) (vI (Nat.mod a1 4096))),(.bin .neq .no (vU (w0)) (vU 1263421507) (.bool false)),(.same [(vD (vU (w3))),(vD (vU (w2))),(vD (vU (w1)))]),(.same [(vD (vI (a1))),(vD (vI 32)),(vD (vI (a1))),(vD (vI 32))]),(.same [(vD (vI 8)),(vD (vI 8)),(vD (vI (a1))),(vD (vI 32)),(vD (vI (a1))),(vD (vI 32))]),(.call 61 (x) [(vA [pA,(vI (a1)),(vI 32)]),(vI 16),(vI 8)] (vT [(vU (w3)),(vI 0)]) (x)),(.same [(vD (vI 8)),(vD (vI 8)),(vD (vI (a1))),(vD (vI 32)),(vD (vI (a1))),(vD (vI 32))]),(.call 61 (x) [(vA [pA,(vI (a1)),(vI 32)]),(vI 8),(vI 8)] (vT [(vU (w2)),(vI 0)]) (x)),(.same [(vD (vI 4)),(vD (vI 4)),(vD (vI (a1))),(vD (vI 32)),(vD (vI (a1))),(vD (vI 32))]),(.call 61 (x) [(vA [pA,(vI (a1)),(vI 32)]),(vI 4),(vI 4)] (vT [(vU (w1)),(vI 0)]) (x)),(.same [(vD (vI 4)),(vD (vI 4)),(vD (vI (a1))),(vD (vI 32)),(vD (vI (a1))),(vD (vI 32))]),(.call 61 (x) [(vA [pA,(vI (a1)),(vI 32)]),(vI 0),(vI 4)] (vT [(vU (w0)),(vI 0)]) (x)),(.same [(vD (vI (a1))),(vD (vI 32)),(vD (vI (a1))),(vD (vI 32))]),(.call 81 (x) [(vA [pA,(vI (a1)),(vI 32)]),(vI 0),(vI 24)] (vT [(.string (.mk (.mk (bs)))),(vI 0)]) (x)),(.call 20 (x) [pA,(vI (a1)),(vI 32)] (vT [(vA [pA,(vI (a1)),(vI 32)]),(vI 0)]) (x))]):=by kernel_rfl
theorem wCkRead_3{x:Ar}{a1 w0 w1 w2 w3:Nat}{bs:List UInt8}:scriptE F1 cleanT (hookL hV2)
 [.run 8,.call (vT [(vA [pA,(vI (a1)),(vI 32)]),(vI 0)]) (x),.run 401,.call (vT [(.string (.mk (.mk (bs)))),(vI 0)]) (x),.run 5,.fin,.run 152,.call (vT [(vU (w0)),(vI 0)]) (x),.run 4,.fin,.run 176,.call (vT [(vU (w1)),(vI 0)]) (x),.run 4,.fin,.run 199,.call (vT [(vU (w2)),(vI 0)]) (x),.run 4,.fin,.run 222,.call (vT [(vU (w3)),(vI 0)]) (x),.run 4,.fin,.run 41,.fin,.run 17,.fin,.run 5,.val (.bool false),.run 2,.val (vI (Nat.mod a1 4096)),.val (.bool false),.run 5,.val (.bool true),.run 48]
 1000 59 [pA,.int .i64 (.ofNat a1)] x=some ((vT [(vA [(vI 0),(vI 0),(vU 0),(vI 0)]),(vI 7)]),(x),[(.bin .eql .no (.int .i64 (spanI (wrapF IntKind.i64 (Int.ofNat w1)))) (vI 0) (.bool true)),(.bin .neq .no (vI (Nat.mod a1 4096)) (vI 0) (.bool false)),(.bin .rem .no (vI (a1)) (vI 4096) (vI (Nat.mod a1 4096))),(.bin .neq .no (vU (w0)) (vU 1263421507) (.bool false)),(.same [(vD (vU (w3))),(vD (vU (w2))),(vD (vU (w1)))]),(.same [(vD (vI (a1))),(vD (vI 32)),(vD (vI (a1))),(vD (vI 32))]),(.same [(vD (vI 8)),(vD (vI 8)),(vD (vI (a1))),(vD (vI 32)),(vD (vI (a1))),(vD (vI 32))]),(.call 61 (x) [(vA [pA,(vI (a1)),(vI 32)]),(vI 16),(vI 8)] (vT [(vU (w3)),(vI 0)]) (x)),(.same [(vD (vI 8)),(vD (vI 8)),(vD (vI (a1))),(vD (vI 32)),(vD (vI (a1))),(vD (vI 32))]),(.call 61 (x) [(vA [pA,(vI (a1)),(vI 32)]),(vI 8),(vI 8)] (vT [(vU (w2)),(vI 0)]) (x)),(.same [(vD (vI 4)),(vD (vI 4)),(vD (vI (a1))),(vD (vI 32)),(vD (vI (a1))),(vD (vI 32))]),(.call 61 (x) [(vA [pA,(vI (a1)),(vI 32)]),(vI 4),(vI 4)] (vT [(vU (w1)),(vI 0)]) (x)),(.same [(vD (vI 4)),(vD (vI 4)),(vD (vI (a1))),(vD (vI 32)),(vD (vI (a1))),(vD (vI 32))]),(.call 61 (x) [(vA [pA,(vI (a1)),(vI 32)]),(vI 0),(vI 4)] (vT [(vU (w0)),(vI 0)]) (x)),(.same [(vD (vI (a1))),(vD (vI 32)),(vD (vI (a1))),(vD (vI 32))]),(.call 81 (x) [(vA [pA,(vI (a1)),(vI 32)]),(vI 0),(vI 24)] (vT [(.string (.mk (.mk (bs)))),(vI 0)]) (x)),(.call 20 (x) [pA,(vI (a1)),(vI 32)] (vT [(vA [pA,(vI (a1)),(vI 32)]),(vI 0)]) (x))]):=by kernel_rfl
theorem wCkRead_4{x:Ar}{a1 w0 w1 w2 w3:Nat}{bs:List UInt8}:scriptE F1 cleanT (hookL hV2)
 [.run 8,.call (vT [(vA [pA,(vI (a1)),(vI 32)]),(vI 0)]) (x),.run 401,.call (vT [(.string (.mk (.mk (bs)))),(vI 0)]) (x),.run 5,.fin,.run 152,.call (vT [(vU (w0)),(vI 0)]) (x),.run 4,.fin,.run 176,.call (vT [(vU (w1)),(vI 0)]) (x),.run 4,.fin,.run 199,.call (vT [(vU (w2)),(vI 0)]) (x),.run 4,.fin,.run 222,.call (vT [(vU (w3)),(vI 0)]) (x),.run 4,.fin,.run 41,.fin,.run 17,.fin,.run 5,.val (.bool false),.run 2,.val (vI (Nat.mod a1 4096)),.val (.bool false),.run 5,.val (.bool false),.run 4,.val (.bool true),.run 16]
 1000 59 [pA,.int .i64 (.ofNat a1)] x=some ((vT [(vA [(vI 0),(vI 0),(vU 0),(vI 0)]),(vI 7)]),(x),[(.bin .lss .no (.int .i64 (wrapF IntKind.i64 (Int.ofNat w3))) (vI 0) (.bool true)),(.bin .eql .no (.int .i64 (spanI (wrapF IntKind.i64 (Int.ofNat w1)))) (vI 0) (.bool false)),(.bin .neq .no (vI (Nat.mod a1 4096)) (vI 0) (.bool false)),(.bin .rem .no (vI (a1)) (vI 4096) (vI (Nat.mod a1 4096))),(.bin .neq .no (vU (w0)) (vU 1263421507) (.bool false)),(.same [(vD (vU (w3))),(vD (vU (w2))),(vD (vU (w1)))]),(.same [(vD (vI (a1))),(vD (vI 32)),(vD (vI (a1))),(vD (vI 32))]),(.same [(vD (vI 8)),(vD (vI 8)),(vD (vI (a1))),(vD (vI 32)),(vD (vI (a1))),(vD (vI 32))]),(.call 61 (x) [(vA [pA,(vI (a1)),(vI 32)]),(vI 16),(vI 8)] (vT [(vU (w3)),(vI 0)]) (x)),(.same [(vD (vI 8)),(vD (vI 8)),(vD (vI (a1))),(vD (vI 32)),(vD (vI (a1))),(vD (vI 32))]),(.call 61 (x) [(vA [pA,(vI (a1)),(vI 32)]),(vI 8),(vI 8)] (vT [(vU (w2)),(vI 0)]) (x)),(.same [(vD (vI 4)),(vD (vI 4)),(vD (vI (a1))),(vD (vI 32)),(vD (vI (a1))),(vD (vI 32))]),(.call 61 (x) [(vA [pA,(vI (a1)),(vI 32)]),(vI 4),(vI 4)] (vT [(vU (w1)),(vI 0)]) (x)),(.same [(vD (vI 4)),(vD (vI 4)),(vD (vI (a1))),(vD (vI 32)),(vD (vI (a1))),(vD (vI 32))]),(.call 61 (x) [(vA [pA,(vI (a1)),(vI 32)]),(vI 0),(vI 4)] (vT [(vU (w0)),(vI 0)]) (x)),(.same [(vD (vI (a1))),(vD (vI 32)),(vD (vI (a1))),(vD (vI 32))]),(.call 81 (x) [(vA [pA,(vI (a1)),(vI 32)]),(vI 0),(vI 24)] (vT [(.string (.mk (.mk (bs)))),(vI 0)]) (x)),(.call 20 (x) [pA,(vI (a1)),(vI 32)] (vT [(vA [pA,(vI (a1)),(vI 32)]),(vI 0)]) (x))]):=by kernel_rfl
theorem wCkRead_5{x:Ar}{a1 w0 w1 w2 w3:Nat}{bs:List UInt8}:scriptE F1 cleanT (hookL hV2)
 [.run 8,.call (vT [(vA [pA,(vI (a1)),(vI 32)]),(vI 0)]) (x),.run 401,.call (vT [(.string (.mk (.mk (bs)))),(vI 0)]) (x),.run 5,.fin,.run 152,.call (vT [(vU (w0)),(vI 0)]) (x),.run 4,.fin,.run 176,.call (vT [(vU (w1)),(vI 0)]) (x),.run 4,.fin,.run 199,.call (vT [(vU (w2)),(vI 0)]) (x),.run 4,.fin,.run 222,.call (vT [(vU (w3)),(vI 0)]) (x),.run 4,.fin,.run 41,.fin,.run 17,.fin,.run 5,.val (.bool false),.run 2,.val (vI (Nat.mod a1 4096)),.val (.bool false),.run 5,.val (.bool false),.run 4,.val (.bool false),.run 16]
 1000 59 [pA,.int .i64 (.ofNat a1)] x=some ((vT [(vA [(vI (a1)),(.int .i64 (wrapF IntKind.i64 (Int.ofNat w1))),(vU (w2)),(.int .i64 (wrapF IntKind.i64 (Int.ofNat w3)))]),(vI 0)]),(x),[(.bin .lss .no (.int .i64 (wrapF IntKind.i64 (Int.ofNat w3))) (vI 0) (.bool false)),(.bin .eql .no (.int .i64 (spanI (wrapF IntKind.i64 (Int.ofNat w1)))) (vI 0) (.bool false)),(.bin .neq .no (vI (Nat.mod a1 4096)) (vI 0) (.bool false)),(.bin .rem .no (vI (a1)) (vI 4096) (vI (Nat.mod a1 4096))),(.bin .neq .no (vU (w0)) (vU 1263421507) (.bool false)),(.same [(vD (vU (w3))),(vD (vU (w2))),(vD (vU (w1)))]),(.same [(vD (vI (a1))),(vD (vI 32)),(vD (vI (a1))),(vD (vI 32))]),(.same [(vD (vI 8)),(vD (vI 8)),(vD (vI (a1))),(vD (vI 32)),(vD (vI (a1))),(vD (vI 32))]),(.call 61 (x) [(vA [pA,(vI (a1)),(vI 32)]),(vI 16),(vI 8)] (vT [(vU (w3)),(vI 0)]) (x)),(.same [(vD (vI 8)),(vD (vI 8)),(vD (vI (a1))),(vD (vI 32)),(vD (vI (a1))),(vD (vI 32))]),(.call 61 (x) [(vA [pA,(vI (a1)),(vI 32)]),(vI 8),(vI 8)] (vT [(vU (w2)),(vI 0)]) (x)),(.same [(vD (vI 4)),(vD (vI 4)),(vD (vI (a1))),(vD (vI 32)),(vD (vI (a1))),(vD (vI 32))]),(.call 61 (x) [(vA [pA,(vI (a1)),(vI 32)]),(vI 4),(vI 4)] (vT [(vU (w1)),(vI 0)]) (x)),(.same [(vD (vI 4)),(vD (vI 4)),(vD (vI (a1))),(vD (vI 32)),(vD (vI (a1))),(vD (vI 32))]),(.call 61 (x) [(vA [pA,(vI (a1)),(vI 32)]),(vI 0),(vI 4)] (vT [(vU (w0)),(vI 0)]) (x)),(.same [(vD (vI (a1))),(vD (vI 32)),(vD (vI (a1))),(vD (vI 32))]),(.call 81 (x) [(vA [pA,(vI (a1)),(vI 32)]),(vI 0),(vI 24)] (vT [(.string (.mk (.mk (bs)))),(vI 0)]) (x)),(.call 20 (x) [pA,(vI (a1)),(vI 32)] (vT [(vA [pA,(vI (a1)),(vI 32)]),(vI 0)]) (x))]):=by kernel_rfl
theorem wCkRead{x:Ar}{a1 w0 w1 w2 w3:Nat}{bs:List UInt8}(hx:x.refuse<9223372036854775808)(hO:spVOf x [pA,.int .i64 (.ofNat a1),.int .i64 (.ofNat 32)]=some (.tuple ⟨[vwC (.ofNat a1) (.ofNat 32),errV 0]⟩,x))(hB:spVBytes x [vwC (.ofNat a1) (.ofNat 32),.int .i64 (.ofNat 0),.int .i64 (.ofNat 24)]=some (.tuple ⟨[strV bs,errV 0]⟩,x))(h0:spVLoad x [vwC (.ofNat a1) (.ofNat 32),.int .i64 (.ofNat 0),.int .i64 (.ofNat 4)]=some (.tuple ⟨[numV w0,errV 0]⟩,x))(h4:spVLoad x [vwC (.ofNat a1) (.ofNat 32),.int .i64 (.ofNat 4),.int .i64 (.ofNat 4)]=some (.tuple ⟨[numV w1,errV 0]⟩,x))(h8:spVLoad x [vwC (.ofNat a1) (.ofNat 32),.int .i64 (.ofNat 8),.int .i64 (.ofNat 8)]=some (.tuple ⟨[numV w2,errV 0]⟩,x))(h16:spVLoad x [vwC (.ofNat a1) (.ofNat 32),.int .i64 (.ofNat 16),.int .i64 (.ofNat 8)]=some (.tuple ⟨[numV w3,errV 0]⟩,x)):∃t nx,RS hV2 59 [pA,.int .i64 (.ofNat a1)] ⟨[(0,.ext x)],1⟩=some (bif ckBad a1 w0 (wrapF .i64 (.ofNat w1)) (wrapF .i64 (.ofNat w3)) then .tuple ⟨[ckZ,errV 7]⟩ else .tuple ⟨[ckC (.ofNat a1) (wrapF .i64 (.ofNat w1)) w2 (wrapF .i64 (.ofNat w3)),errV 0]⟩,⟨t,nx⟩)∧look 0 t=some (.ext x):=by
 unfold ckBad
 cases hb1:!ieqF (Int.ofNat w0) (Int.ofNat 1263421507) with
 |true =>
  refine to_run (scriptE_run (wCkRead_1 (x:=x) (a1:=a1) (w0:=w0) (w1:=w1) (w2:=w2) (w3:=w3) (bs:=bs)) ?_) ?_ ?_
  ·repeat' first
    |exact trivial
    |assumption
    |exact ob_bin rfl (by assumption)
    |exact⟨_,_,rfl,by first|assumption|rfl⟩
    |refine And.intro ?_ ?_
    |exact rfl
  ·first|rfl|(simp only[cond_true, *,zT,cond_false]<;>rfl)
  ·first|rfl|(simp only[cond_true, *,cond_false]<;>rfl)
 |false =>
  cases hb2:!ieqF (Int.ofNat (Nat.mod a1 4096)) (Int.ofNat 0) with
  |true =>
   refine to_run (scriptE_run (wCkRead_2 (x:=x) (a1:=a1) (w0:=w0) (w1:=w1) (w2:=w2) (w3:=w3) (bs:=bs)) ?_) ?_ ?_
   ·repeat' first
     |exact trivial
     |assumption
     |exact ob_bin rfl (by assumption)
     |exact⟨_,_,rfl,by first|assumption|rfl⟩
     |refine And.intro ?_ ?_
     |exact rfl
   ·first|rfl|(simp only[cond_true, *,zT,cond_false]<;>rfl)
   ·first|rfl|(simp only[cond_true, *,cond_false]<;>rfl)
  |false =>
   cases hb3:ieqF (spanI (wrapF IntKind.i64 (Int.ofNat w1))) (Int.ofNat 0) with
   |true =>
    refine to_run (scriptE_run (wCkRead_3 (x:=x) (a1:=a1) (w0:=w0) (w1:=w1) (w2:=w2) (w3:=w3) (bs:=bs)) ?_) ?_ ?_
    ·repeat' first
      |exact trivial
      |assumption
      |exact ob_bin rfl (by assumption)
      |exact⟨_,_,rfl,by first|assumption|rfl⟩
      |refine And.intro ?_ ?_
      |exact rfl
    ·first|rfl|(simp only[cond_true, *,zT,cond_false]<;>rfl)
    ·first|rfl|(simp only[cond_true, *,cond_false]<;>rfl)
   |false =>
    cases hb4:iltF (wrapF IntKind.i64 (Int.ofNat w3)) (Int.ofNat 0) with
    |true =>
     refine to_run (scriptE_run (wCkRead_4 (x:=x) (a1:=a1) (w0:=w0) (w1:=w1) (w2:=w2) (w3:=w3) (bs:=bs)) ?_) ?_ ?_
     ·repeat' first
       |exact trivial
       |assumption
       |exact ob_bin rfl (by assumption)
       |exact⟨_,_,rfl,by first|assumption|rfl⟩
       |refine And.intro ?_ ?_
       |exact rfl
     ·first|rfl|(simp only[cond_true, *,zT,cond_false]<;>rfl)
     ·first|rfl|(simp only[cond_true, *,cond_false]<;>rfl)
    |false =>
     refine to_run (scriptE_run (wCkRead_5 (x:=x) (a1:=a1) (w0:=w0) (w1:=w1) (w2:=w2) (w3:=w3) (bs:=bs)) ?_) ?_ ?_
     ·repeat' first
       |exact trivial
       |assumption
       |exact ob_bin rfl (by assumption)
       |exact⟨_,_,rfl,by first|assumption|rfl⟩
       |refine And.intro ?_ ?_
       |exact rfl
     ·first|rfl|(simp only[cond_true, *,zT,cond_false]<;>rfl)
     ·first|rfl|(simp only[cond_true, *,cond_false]<;>rfl)
theorem rCkRead{x x':Ar}{vs:List Value}{v:Value}(hx:x.refuse<9223372036854775808)(hs:spCkRead x vs=some (v,x')):∃t n,RS hV2 59 vs ⟨[(0,.ext x)],1⟩=some (v,⟨t,n⟩)∧look 0 t=some (.ext x'):=by
 unfold spCkRead at hs
 split at hs
 ·injection hs with hs;injection hs with h1 h2;subst h1;subst h2
  exact wCkReadE (e:=2) hx rfl
 ·rename_i a
  cases he:bytesE x (.ofNat a) (.ofNat 32) with
  |succ e =>
   simp only[he] at hs;injection hs with hs;injection hs with h1 h2;subst h1;subst h2
   exact wCkReadE hx (by simp only[spVOf,he])
  |zero =>
   simp only[he] at hs
   cases hb:Nat.blt a 4611686018427387904 with
   |false=>simp only[hb,cond_false] at hs;cases hs
   |true =>
    simp only[hb,cond_true] at hs;injection hs with hs;injection hs with h1 h2;subst h1;subst h2
    rw[blt_iff,decide_eq_true_eq] at hb
    exact wCkRead hx (by simp only[spVOf,he]) (vbytes_in he hb (by decide) (by decide) rfl) (vload_in he hb (by decide) (by decide) rfl rfl) (vload_in he hb (by decide) (by decide) rfl rfl) (vload_in he hb (by decide) (by decide) rfl rfl) (vload_in he hb (by decide) (by decide) rfl rfl)
 ·cases hs
def hV3:List (HookF Ar):=(59,liftH spCkRead (fun _=>none))::hV2
theorem hV3_ok:∀y∈hV3,HookOk (Ext1 Cls) PZ W0 y.1 y.2 :=
 more_ok (E:=(Ext1 Cls)) (hV2_ok) (lift_ok (RS_ok hV2_ok) (fun _ _ _ _ hx hs=>rCkRead hx hs) (fun _ _ _ hs=>by cases hs))
end Go.AI
/- A part of a view. -/
namespace Go.AI
open Go.Proofs
variable {W0:World}{Cls:Nat→Int→Prop}
theorem wVPart_1{x:Ar}{a s b m:Int}{C:Nat}:scriptE F1 cleanT (hookL hV3)
 [.run 11,.call (vI (C)) (x),.run 4,.val (.bool true),.run 16]
 1000 51 [vwC a s,.int .i64 b,.int .i64 m] x=some ((vT [(vA [(.pointer none),(vI 0),(vI 0)]),(vI (C))]),(x),[(.bin .neq .no (vI (C)) (vI 0) (.bool true)),(.call 79 (x) [(vA [pA,(.int .i64 (a)),(.int .i64 (s))]),(.int .i64 (b)),(.int .i64 (m))] (vI (C)) (x))]):=by kernel_rfl
theorem wVPart_2{x:Ar}{a s b m:Int}{C:Nat}:scriptE F1 cleanT (hookL hV3)
 [.run 11,.call (vI (C)) (x),.run 4,.val (.bool false),.run 9,.val (.int .i64 (wrapF IntKind.i64 (a+b))),.run 1,.call (vT [(vA [pA,(.int .i64 (wrapF IntKind.i64 (a+b))),(.int .i64 (m))]),(vI 0)]) (x),.run 16]
 1000 51 [vwC a s,.int .i64 b,.int .i64 m] x=some ((vT [(vA [pA,(.int .i64 (wrapF IntKind.i64 (a+b))),(.int .i64 (m))]),(vI 0)]),(x),[(.call 20 (x) [pA,(.int .i64 (wrapF IntKind.i64 (a+b))),(.int .i64 (m))] (vT [(vA [pA,(.int .i64 (wrapF IntKind.i64 (a+b))),(.int .i64 (m))]),(vI 0)]) (x)),(.bin .add .no (.int .i64 (a)) (.int .i64 (b)) (.int .i64 (wrapF IntKind.i64 (a+b)))),(.bin .neq .no (vI (C)) (vI 0) (.bool false)),(.call 79 (x) [(vA [pA,(.int .i64 (a)),(.int .i64 (s))]),(.int .i64 (b)),(.int .i64 (m))] (vI (C)) (x))]):=by kernel_rfl
theorem wVPart{x:Ar}{a s b m:Int}{C:Nat}(hx:x.refuse<9223372036854775808)(hC:spVCheck x [vwC a s,.int .i64 b,.int .i64 m]=some (errV C,x))(hO:spVOf x [pA,.int .i64 (wrapF .i64 (a+b)),.int .i64 m]=some (.tuple ⟨[vwC (wrapF .i64 (a+b)) m,errV 0]⟩,x)):∃t nx,RS hV3 51 [vwC a s,.int .i64 b,.int .i64 m] ⟨[(0,.ext x)],1⟩=some (bif !ieqF (.ofNat C) (.ofNat 0) then .tuple ⟨[vwZ,errV C]⟩ else .tuple ⟨[vwC (wrapF .i64 (a+b)) m,errV 0]⟩,⟨t,nx⟩)∧look 0 t=some (.ext x):=by
 cases hb1:!ieqF (Int.ofNat C) (Int.ofNat 0) with
 |true =>
  refine to_run (scriptE_run (wVPart_1 (x:=x) (a:=a) (s:=s) (b:=b) (m:=m) (C:=C)) ?_) ?_ ?_
  ·repeat' first
    |exact trivial
    |assumption
    |exact ob_bin rfl (by assumption)
    |exact⟨_,_,rfl,by first|assumption|rfl⟩
    |refine And.intro ?_ ?_
    |exact rfl
  ·first|rfl|(simp only[cond_true, *,zT,cond_false]<;>rfl)
  ·first|rfl|(simp only[cond_true, *,cond_false]<;>rfl)
 |false =>
  refine to_run (scriptE_run (wVPart_2 (x:=x) (a:=a) (s:=s) (b:=b) (m:=m) (C:=C)) ?_) ?_ ?_
  ·repeat' first
    |exact trivial
    |assumption
    |exact ob_bin rfl (by assumption)
    |exact⟨_,_,rfl,by first|assumption|rfl⟩
    |refine And.intro ?_ ?_
    |exact rfl
  ·first|rfl|(simp only[cond_true, *,zT,cond_false]<;>rfl)
  ·first|rfl|(simp only[cond_true, *,cond_false]<;>rfl)
theorem wVPartE_1{x:Ar}{a s b m:Int}{C:Nat}:scriptE F1 cleanT (hookL hV3)
 [.run 11,.call (vI (C)) (x),.run 4,.val (.bool true),.run 16]
 1000 51 [vwC a s,.int .i64 b,.int .i64 m] x=some ((vT [(vA [(.pointer none),(vI 0),(vI 0)]),(vI (C))]),(x),[(.bin .neq .no (vI (C)) (vI 0) (.bool true)),(.call 79 (x) [(vA [pA,(.int .i64 (a)),(.int .i64 (s))]),(.int .i64 (b)),(.int .i64 (m))] (vI (C)) (x))]):=by kernel_rfl
theorem wVPartE_2{x:Ar}{a s b m:Int}{C e:Nat}:scriptE F1 cleanT (hookL hV3)
 [.run 11,.call (vI (C)) (x),.run 4,.val (.bool false),.run 9,.val (.int .i64 (wrapF IntKind.i64 (a+b))),.run 1,.call (vT [(vA [(.pointer none),(vI 0),(vI 0)]),(vI (e+1))]) (x),.run 16]
 1000 51 [vwC a s,.int .i64 b,.int .i64 m] x=some ((vT [(vA [(.pointer none),(vI 0),(vI 0)]),(vI (e+1))]),(x),[(.call 20 (x) [pA,(.int .i64 (wrapF IntKind.i64 (a+b))),(.int .i64 (m))] (vT [(vA [(.pointer none),(vI 0),(vI 0)]),(vI (e+1))]) (x)),(.bin .add .no (.int .i64 (a)) (.int .i64 (b)) (.int .i64 (wrapF IntKind.i64 (a+b)))),(.bin .neq .no (vI (C)) (vI 0) (.bool false)),(.call 79 (x) [(vA [pA,(.int .i64 (a)),(.int .i64 (s))]),(.int .i64 (b)),(.int .i64 (m))] (vI (C)) (x))]):=by kernel_rfl
theorem wVPartE{x:Ar}{a s b m:Int}{C e:Nat}(hx:x.refuse<9223372036854775808)(hC:spVCheck x [vwC a s,.int .i64 b,.int .i64 m]=some (errV C,x))(hO:spVOf x [pA,.int .i64 (wrapF .i64 (a+b)),.int .i64 m]=some (.tuple ⟨[vwZ,errV (e+1)]⟩,x)):∃t nx,RS hV3 51 [vwC a s,.int .i64 b,.int .i64 m] ⟨[(0,.ext x)],1⟩=some (bif !ieqF (.ofNat C) (.ofNat 0) then .tuple ⟨[vwZ,errV C]⟩ else .tuple ⟨[vwZ,errV (e+1)]⟩,⟨t,nx⟩)∧look 0 t=some (.ext x):=by
 cases hb1:!ieqF (Int.ofNat C) (Int.ofNat 0) with
 |true =>
  refine to_run (scriptE_run (wVPartE_1 (x:=x) (a:=a) (s:=s) (b:=b) (m:=m) (C:=C)) ?_) ?_ ?_
  ·repeat' first
    |exact trivial
    |assumption
    |exact ob_bin rfl (by assumption)
    |exact⟨_,_,rfl,by first|assumption|rfl⟩
    |refine And.intro ?_ ?_
    |exact rfl
  ·first|rfl|(simp only[cond_true, *,zT,cond_false]<;>rfl)
  ·first|rfl|(simp only[cond_true, *,cond_false]<;>rfl)
 |false =>
  refine to_run (scriptE_run (wVPartE_2 (x:=x) (a:=a) (s:=s) (b:=b) (m:=m) (C:=C) (e:=e)) ?_) ?_ ?_
  ·repeat' first
    |exact trivial
    |assumption
    |exact ob_bin rfl (by assumption)
    |exact⟨_,_,rfl,by first|assumption|rfl⟩
    |refine And.intro ?_ ?_
    |exact rfl
  ·first|rfl|(simp only[cond_true, *,zT,cond_false]<;>rfl)
  ·first|rfl|(simp only[cond_true, *,cond_false]<;>rfl)
theorem rVPart{x x':Ar}{vs:List Value}{v:Value}(hx:x.refuse<9223372036854775808)(hs:spVPart x vs=some (v,x')):∃t n,RS hV3 51 vs ⟨[(0,.ext x)],1⟩=some (v,⟨t,n⟩)∧look 0 t=some (.ext x'):=by
 unfold spVPart at hs
 split at hs
 ·rename_i a s b m
  have hC:spVCheck x [vwC a s,.int .i64 b,.int .i64 m]=some (errV (vckN s b m),x):=rfl
  cases hc:vckN s b m with
  |succ k =>
   simp only[hc] at hs;injection hs with hs;injection hs with h1 h2;subst h1;subst h2
   rw[hc] at hC
   cases he:bytesE x (wrapF .i64 (a+b)) m with
   |zero=>exact wVPart hx hC (by simp only[spVOf,he])
   |succ e=>exact wVPartE (e:=e) hx hC (by simp only[spVOf,he])
  |zero =>
   simp only[hc] at hs
   rw[hc] at hC
   cases he:bytesE x (wrapF .i64 (a+b)) m with
   |zero=>simp only[spVOf,he] at hs;injection hs with hs;injection hs with h1 h2;subst h1;subst h2;exact wVPart hx hC (by simp only[spVOf,he])
   |succ e=>simp only[spVOf,he] at hs;injection hs with hs;injection hs with h1 h2;subst h1;subst h2;exact wVPartE (e:=e) hx hC (by simp only[spVOf,he])
 ·cases hs
theorem zVPart_1{p q a b:Int}{k1 k2:IntKind}:scriptZ F1 cleanT (hookL hV3)
 [.run 48]
 1000 51 [.agg ⟨[.pointer none,.int .i64 p,.int .i64 q]⟩,.int k1 a,.int k2 b]=some ((vT [(vA [(.pointer none),(vI 0),(vI 0)]),(vI 1)]),[]):=by kernel_rfl
theorem zVPart{p q a b:Int}{k1 k2:IntKind}  : ∃h',RS hV3 51 [.agg ⟨[.pointer none,.int .i64 p,.int .i64 q]⟩,.int k1 a,.int k2 b] ⟨[],0⟩=some (.tuple ⟨[vwZ,errV 1]⟩,h'):=by
 refine to_runZ (scriptZ_run (zVPart_1 (p:=p) (q:=q) (a:=a) (b:=b) (k1:=k1) (k2:=k2)) ?_) ?_
 ·repeat' first
   |exact trivial
   |assumption
   |exact ob_bin rfl (by assumption)
   |exact⟨_,_,rfl,by first|assumption|rfl⟩
   |refine And.intro ?_ ?_
   |exact rfl
 ·first|rfl|(simp only[cond_true, *,zT,cond_false]<;>rfl)
theorem yVPart{vs:List Value}{v:Value}(hs:spE0 2 (.tuple ⟨[vwZ,errV 1]⟩) vs=some v):∃h',RS hV3 51 vs ⟨[],0⟩=some (v,h'):=by
 obtain⟨p,q,l,rfl,hl,rfl⟩:=spE0_out hs
 obtain⟨_,_,_,_,rfl⟩:=ints2 hl
 exact zVPart
def hV4:List (HookF Ar):=(51,liftH spVPart (spE0 2 (.tuple ⟨[vwZ,errV 1]⟩)))::hV3
theorem hV4_ok:∀y∈hV4,HookOk (Ext1 Cls) PZ W0 y.1 y.2 :=
 more_ok (E:=(Ext1 Cls)) (hV3_ok) (lift_ok (RS_ok hV3_ok) (fun _ _ _ _ hx hs=>rVPart hx hs) (fun _ _ _ hs=>yVPart hs))
end Go.AI
/- A script from a heap with an arena and a row of a record's widths. No program is named here. -/
namespace Go.AI
open Go.Proofs
abbrev wid:AObj Ar:=.grown 1 3 [.int .i64 (.ofNat 8),.int .i64 (.ofNat 8)]
abbrev sm2(x:Ar):List (Nat×AObj Ar):=[(1,wid),(0,.ext x)]
abbrev recC:Value:=.agg ⟨[.slice (some ⟨1,0,none⟩) 2 2]⟩
def rowAt(t:List (Nat×AObj Ar)):Value→Option (AObj Ar)
 | .tuple ⟨.slice (some ⟨r,_,_⟩) _ _::_⟩=>look r t
 |_=>none
section
variable (F:Nat→Option IFn)(clean:Nat→Bool)(hook:Hook Ar)
def scriptW(acts:List Act)(lv f:Nat)(vs:List Value)(T0:List (Nat×AObj Ar))(n0:Nat):Option (Value×Ar×Option (AObj Ar)×Option (AObj Ar)×List Ob) :=
 match script F clean hook acts (startM lv f vs ⟨T0,n0⟩) [] with
 |some (⟨_,[],_,env,m⟩,l)=>match look 0 env with
  |some v=>match look 0 m.tbl with
   |some (.ext x')=>some (v,x',look 1 m.tbl,rowAt m.tbl v,l)
   |_=>none
  |none=>none
 |_=>none
variable {F clean hook}
theorem scriptW_run{acts:List Act}{lv f:Nat}{vs:List Value}{T0:List (Nat×AObj Ar)}{n0:Nat}{x':Ar}{v:Value}{w r:Option (AObj Ar)}{l:List Ob}(h:scriptW F clean hook acts lv f vs T0 n0=some (v,x',w,r,l))(ho:holdsAll hook l):∃t n,run F clean hook lv f vs ⟨T0,n0⟩=some (v,⟨t,n⟩)∧look 0 t=some (.ext x')∧look 1 t=w∧rowAt t v=r:=by
 unfold scriptW at h
 split at h
 ·rename_i lv' xx env m l' hs
  split at h
  ·rename_i v1 hv
   split at h
   ·rename_i x1 hx
    injection h with h
    injection h with h1 h2
    injection h2 with h2 h3
    injection h3 with h3 h4
    injection h4 with h4 h5
    subst h1;subst h2;subst h3;subst h4;subst h5
    have hd:=(script_den hs ho).1
    rw[startM_den] at hd
    exact⟨m.tbl,m.next,hd.trans (Ms.end_den hv),hx,rfl,rfl⟩
   ·cases h
  ·cases h
 ·cases h
theorem to_runW{lv f:Nat}{vs:List Value}{h:Hp Ar}{v v':Value}{x x':Ar}{w r r':Option (AObj Ar)}(hr:∃t n,run F clean hook lv f vs h=some (v,⟨t,n⟩)∧look 0 t=some (.ext x)∧look 1 t=w∧rowAt t v=r)(hv:v=v')(hx:x=x')(hr':r=r'):∃t n,run F clean hook lv f vs h=some (v',⟨t,n⟩)∧look 0 t=some (.ext x')∧look 1 t=w∧rowAt t v'=r':=by
 subst hv;subst hx;subst hr';exact hr
def rowAg(t:List (Nat×AObj Ar)):Value→Option (AObj Ar)
 | .agg ⟨.slice (some ⟨r,_,_⟩) _ _::_⟩=>look r t
 |_=>none
variable (F clean hook)
def scriptN(acts:List Act)(lv f:Nat)(vs:List Value):Option (Value×Option (AObj Ar)×List Ob) :=
 match script F clean hook acts (startM lv f vs ⟨[],0⟩) [] with
 |some (⟨_,[],_,env,m⟩,l)=>match look 0 env with
  |some v=>some (v,rowAg m.tbl v,l)
  |none=>none
 |_=>none
variable {F clean hook}
theorem scriptN_run{acts:List Act}{lv f:Nat}{vs:List Value}{v:Value}{r:Option (AObj Ar)}{l:List Ob}(h:scriptN F clean hook acts lv f vs=some (v,r,l))(ho:holdsAll hook l):∃t n,run F clean hook lv f vs ⟨[],0⟩=some (v,⟨t,n⟩)∧rowAg t v=r:=by
 unfold scriptN at h
 split at h
 ·rename_i lv' xx env m l' hs
  split at h
  ·rename_i v1 hv
   injection h with h
   injection h with h1 h2
   injection h2 with h2 h3
   subst h1;subst h2;subst h3
   have hd:=(script_den hs ho).1
   rw[startM_den] at hd
   exact⟨m.tbl,m.next,hd.trans (Ms.end_den hv),rfl⟩
  ·cases h
 ·cases h
end
end Go.AI
/- A record of two numbers read, and written: the walks. -/
namespace Go.AI
open Go.Proofs
variable {W0:World}{Cls:Nat→Int→Prop}
abbrev recN:Value:=.agg ⟨[.slice (some ⟨4,0,none⟩) 2 2]⟩
theorem wRAll_1{x:Ar}{a1 v1 v2:Nat}{bs:List UInt8}:scriptW F1 cleanT (hookL hV4)
 [.run 107,.call (vT [(.string (.mk (.mk (bs)))),(vI 0)]) (x),.run 5,.fin,.run 152,.call (vT [(vU (v1)),(vI 0)]) (x),.run 4,.fin,.run 176,.call (vT [(vU (v2)),(vI 0)]) (x),.run 4,.fin,.run 48]
 1000 53 [recC,vwC (.ofNat a1) (.ofNat 16)] (sm2 x) 2=some ((vT [(.slice (some (.mk 58 0 none)) 2 2),(vI 0)]),(x),some wid,(some (.grown 1 28 [(vU (v1)),(vU (v2))])),[(.same [(vD (vI 8)),(vD (vI 8)),(vD (vI (a1))),(vD (vI 16)),(vD (vI (a1))),(vD (vI 16))]),(.call 61 (x) [(vA [pA,(vI (a1)),(vI 16)]),(vI 8),(vI 8)] (vT [(vU (v2)),(vI 0)]) (x)),(.same [(vD (vI 8)),(vD (vI 8)),(vD (vI (a1))),(vD (vI 16)),(vD (vI (a1))),(vD (vI 16))]),(.call 61 (x) [(vA [pA,(vI (a1)),(vI 16)]),(vI 0),(vI 8)] (vT [(vU (v1)),(vI 0)]) (x)),(.same [(vD (vI (a1))),(vD (vI 16)),(vD (vI (a1))),(vD (vI 16))]),(.call 81 (x) [(vA [pA,(vI (a1)),(vI 16)]),(vI 0),(vI 16)] (vT [(.string (.mk (.mk (bs)))),(vI 0)]) (x))]):=by kernel_rfl
set_option maxHeartbeats 800000 in
theorem wRAll{x:Ar}{a1 v1 v2:Nat}{bs:List UInt8}(hx:x.refuse<9223372036854775808)(hB:spVBytes x [vwC (.ofNat a1) (.ofNat 16),vI 0,vI 16]=some (.tuple ⟨[strV bs,errV 0]⟩,x))(h1:spVLoad x [vwC (.ofNat a1) (.ofNat 16),vI 0,vI 8]=some (.tuple ⟨[numV v1,errV 0]⟩,x))(h2:spVLoad x [vwC (.ofNat a1) (.ofNat 16),vI 8,vI 8]=some (.tuple ⟨[numV v2,errV 0]⟩,x)):∃t nx,RS hV4 53 [recC,vwC (.ofNat a1) (.ofNat 16)] ⟨sm2 x,2⟩=some (.tuple ⟨[.slice (some ⟨58,0,none⟩) 2 2,errV 0]⟩,⟨t,nx⟩)∧look 0 t=some (.ext x)∧look 1 t=some wid∧rowAt t (.tuple ⟨[.slice (some ⟨58,0,none⟩) 2 2,errV 0]⟩)=some (.grown 1 28 [.int .u64 (.ofNat v1),.int .u64 (.ofNat v2)]):=by
 refine to_runW (scriptW_run (wRAll_1 (x:=x) (a1:=a1) (v1:=v1) (v2:=v2) (bs:=bs)) ?_) ?_ ?_ ?_
 ·repeat' first
   |exact trivial
   |assumption
   |exact ob_bin rfl (by assumption)
   |exact⟨_,_,rfl,by first|assumption|rfl⟩
   |refine And.intro ?_ ?_
   |exact rfl
 ·first|rfl|(simp only[cond_true, *,cond_false]<;>rfl)
 ·first|rfl|(simp only[cond_true, *,cond_false]<;>rfl)
 ·first|rfl|(simp only[cond_true, *,cond_false]<;>rfl)
theorem wRPut_1{x X X2:Ar}{a1 v1 v2:Nat}{bs:List UInt8}:scriptW F1 cleanT (hookL hV4)
 [.run 244,.call (vT [(.string (.mk (.mk (bs)))),(vI 0)]) (x),.run 5,.fin,.run 189,.call (vI 0) (X),.run 1,.fin,.run 206,.call (vI 0) (X2),.run 1,.fin,.run 48]
 1000 75 [recC,vwC (.ofNat a1) (.ofNat 16),.slice (some ⟨2,0,none⟩) 2 2] ((2,.cells [.int .u64 (.ofNat v1),.int .u64 (.ofNat v2)])::sm2 x) 3=some ((vI 0),(X2),some wid,none,[(.same [(vD (vI 8)),(vD (vI 8)),(vD (vI (a1))),(vD (vI 16)),(vD (vI (a1))),(vD (vI 16))]),(.call 96 (X) [(vA [pA,(vI (a1)),(vI 16)]),(vI 8),(vI 8),(vU (v2))] (vI 0) (X2)),(.same [(vD (vI 8)),(vD (vI 8)),(vD (vI (a1))),(vD (vI 16)),(vD (vI (a1))),(vD (vI 16))]),(.call 96 (x) [(vA [pA,(vI (a1)),(vI 16)]),(vI 0),(vI 8),(vU (v1))] (vI 0) (X)),(.same [(vD (vI (a1))),(vD (vI 16)),(vD (vI (a1))),(vD (vI 16))]),(.call 81 (x) [(vA [pA,(vI (a1)),(vI 16)]),(vI 0),(vI 16)] (vT [(.string (.mk (.mk (bs)))),(vI 0)]) (x))]):=by kernel_rfl
set_option maxHeartbeats 800000 in
theorem wRPut{x X X2:Ar}{a1 v1 v2:Nat}{bs:List UInt8}(hx:x.refuse<9223372036854775808)(hB:spVBytes x [vwC (.ofNat a1) (.ofNat 16),vI 0,vI 16]=some (.tuple ⟨[strV bs,errV 0]⟩,x))(hX:X.refuse<9223372036854775808)(h1:spVStore x [vwC (.ofNat a1) (.ofNat 16),vI 0,vI 8,.int .u64 (.ofNat v1)]=some (errV 0,X))(h2:spVStore X [vwC (.ofNat a1) (.ofNat 16),vI 8,vI 8,.int .u64 (.ofNat v2)]=some (errV 0,X2)):∃t nx,RS hV4 75 [recC,vwC (.ofNat a1) (.ofNat 16),.slice (some ⟨2,0,none⟩) 2 2] ⟨(2,.cells [.int .u64 (.ofNat v1),.int .u64 (.ofNat v2)])::sm2 x,3⟩=some (errV 0,⟨t,nx⟩)∧look 0 t=some (.ext X2)∧look 1 t=some wid∧rowAt t (errV 0)=none:=by
 refine to_runW (scriptW_run (wRPut_1 (x:=x) (X:=X) (X2:=X2) (a1:=a1) (v1:=v1) (v2:=v2) (bs:=bs)) ?_) ?_ ?_ ?_
 ·repeat' first
   |exact trivial
   |assumption
   |exact ob_bin rfl (by assumption)
   |exact⟨_,_,rfl,by first|assumption|rfl⟩
   |refine And.intro ?_ ?_
   |exact rfl
 ·first|rfl|(simp only[cond_true, *,cond_false]<;>rfl)
 ·first|rfl|(simp only[cond_true, *,cond_false]<;>rfl)
 ·first|rfl|(simp only[cond_true, *,cond_false]<;>rfl)
theorem zRecN:scriptN F1 cleanT (hookL hV4) [.run 240] 1000 52 []=some (recN,some wid,[]):=by kernel_rfl
theorem rec_run:∃t n,RS hV4 52 [] ⟨[],0⟩=some (recN,⟨t,n⟩)∧look 4 t=some wid:=by
 obtain⟨t,n,h1,h2⟩:=scriptN_run zRecN trivial
 exact⟨t,n,h1,h2⟩
end Go.AI
/- A record of two numbers: made, read and written, told. -/
namespace Go.AI
open Go.Proofs
variable {W0:World}{Cls:Nat→Int→Prop}
def recH:List Value→Hp Ar→Option (Value×Hp Ar)
 |[],h=>some (.agg ⟨[.slice (some ⟨h.next,0,none⟩) 2 2]⟩,⟨(h.next,wid)::h.tbl,h.next+1⟩)
 |_,_=>none
theorem wid_ro{R:Rl}:RO (E0:=Ext1 Cls) (E:=Ext1 Cls) id R wid wid:=.grown _ _ (.cons (.int _ _) (.cons (.int _ _) .nil))
theorem rec_ok:HookOk (Ext1 Cls) PZ W0 52 recH:=by
 intro vs h v h2 hr ρ φ w hG vs' hvs
 unfold recH at hr
 split at hr
 ·simp only[zI,Prod.mk.injEq] at hr
  obtain⟨rfl,rfl⟩:=hr
  obtain⟨t,n,hrun,hl⟩:=rec_run
  have hnb:rtn (fun _=>0) 0 (fun _=>4) h.next 1 4 h.next:=.inr ⟨0,by omega,rfl,rfl⟩
  refine reloc (E0:=Ext1 Cls) (E:=Ext1 Cls) (g:=id) same2_id (RS_ok hV4_ok) hrun (h:=h) (h':=⟨(h.next,wid)::h.tbl,h.next+1⟩) (σ:=fun _=>0) (τ:=fun _=>4) (m:=1) (fun _ hi=>absurd hi (Nat.not_lt_zero _)) (fun a b ha _ _=>absurd ha (Nat.not_lt_zero _)) .nil (fun i o hi=>by simp[look] at hi) (fun t _=>Nat.zero_le _) (fun t u ht hu _=>by omega) (.x (.agg (.cons (.slc hnb) .nil))) rfl ?_ hG hvs
  intro k o hk
  change look k ((h.next,wid)::h.tbl)=some o at hk
  rw[zC] at hk
  split at hk
  ·rename_i e
   injection hk with hk
   subst hk
   have e:k=h.next:=e
   subst e
   exact .inl ⟨4,_,hnb,hl,wid_ro⟩
  ·exact .inr ⟨hk,fun i hi=>absurd hi (Nat.not_lt_zero _)⟩
 ·cases hr
def okW(x:Ar)(a:Nat):Bool:=Nat.beq (bytesE x (.ofNat a) (.ofNat 16)) 0&&(Nat.blt a 4611686018427387904&&Nat.blt x.refuse 9223372036854775808)
theorem okW_out{x:Ar}{a:Nat}(h:okW x a=true):bytesE x (.ofNat a) (.ofNat 16)=0∧a<4611686018427387904∧x.refuse<9223372036854775808:=by
 unfold okW at h
 simp only[Bool.and_eq_true,Nat.beq_eq,Nat.blt_eq] at h
 exact h
def allW:List Value→Hp Ar→Option (Value×Hp Ar)
 |[.agg ⟨[.slice (some ⟨i,0,none⟩) 2 2]⟩,.agg ⟨[.pointer (some ⟨j,0,none⟩),.int .i64 (.ofNat a),.int .i64 (.ofNat 16)]⟩],h =>
  match look i h.tbl,look j h.tbl with
  |some (.grown 1 3 [.int .i64 (.ofNat 8),.int .i64 (.ofNat 8)]),some (.ext x)=>bif okW x a then
    some (.tuple ⟨[.slice (some ⟨h.next,0,none⟩) 2 2,errV 0]⟩,⟨(h.next,.grown 1 28 [.int .u64 (.ofNat (loadV x (.ofNat (a+0)) (.ofNat 8))),.int .u64 (.ofNat (loadV x (.ofNat (a+8)) (.ofNat 8)))])::h.tbl,h.next+1⟩) else none
  |_,_=>none
 |_,_=>none
theorem allW_ok:HookOk (Ext1 Cls) PZ W0 53 allW:=by
 intro vs h v h2 hr ρ φ w hG vs' hvs
 unfold allW at hr
 split at hr
 ·rename_i i j a
  split at hr
  ·rename_i x hi hj
   cases hok:okW x a with
   |false=>rw[hok] at hr;cases hr
   |true =>
    rw[hok,cond_true] at hr
    simp only[zI,Prod.mk.injEq] at hr
    obtain⟨rfl,rfl⟩:=hr
    obtain⟨hb,ha,hx⟩:=okW_out hok
    have hv:∀b m,b+m≤16→0<m→vckN (.ofNat 16) (.ofNat b) (.ofNat m)=0→True:=fun _ _ _ _ _=>trivial
    obtain⟨t,n,hrun,hl0,hl1,hrow⟩:=wRAll (x:=x) (a1:=a) hx (vbytes_in (b:=0) (m:=16) hb ha (by decide) (by decide) rfl) (vload_in (b:=0) (m:=8) hb ha (by decide) (by decide) rfl rfl) (vload_in (b:=8) (m:=8) hb ha (by decide) (by decide) rfl rfl)
    have hσ0:rts (fun q=>match q with|0=>j|_=>i) 2 0 j:=⟨by omega,rfl⟩
    have hσ1:rts (fun q=>match q with|0=>j|_=>i) 2 1 i:=⟨by omega,rfl⟩
    have hij:i≠j:=fun e=>by rw[e,hj] at hi;cases hi
    have li:=hG.lt hi
    have lj:=hG.lt hj
    have hnb:rtn (fun q=>match q with|0=>j|_=>i) 2 (fun _=>58) h.next 1 58 h.next:=.inr ⟨0,by omega,rfl,rfl⟩
    have hn0:rtn (fun q=>match q with|0=>j|_=>i) 2 (fun _=>58) h.next 1 0 j:=.inl hσ0
    have hn1:rtn (fun q=>match q with|0=>j|_=>i) 2 (fun _=>58) h.next 1 1 i:=.inl hσ1
    refine reloc (E0:=Ext1 Cls) (E:=Ext1 Cls) (g:=id) same2_id (RS_ok hV4_ok) hrun (h:=h) (h':=⟨(h.next,.grown 1 28 [.int .u64 (.ofNat (loadV x (.ofNat (a+0)) (.ofNat 8))),.int .u64 (.ofNat (loadV x (.ofNat (a+8)) (.ofNat 8)))])::h.tbl,h.next+1⟩) (σ:=fun q=>match q with|0=>j|_=>i) (τ:=fun _=>58) (m:=1) ?_ ?_ (.cons (.x (.agg (.cons (.slc hσ1) .nil))) (.cons (.x (.agg (.cons (.ptr hσ0) (.cons (.int _ _) (.cons (.int _ _) .nil))))) .nil)) ?_ (fun t _=>zL rfl) (fun t u ht hu _=>by omega) (.tup (.cons (.flat (.slc hnb)) (.cons (.flat (.int _ _)) .nil))) rfl ?_ hG hvs
    ·intro q hq
     match q with
     |0=>exact lj
     |q+1=>exact li
    ·intro p q hp hq e
     match p,q,hp,hq,e with
     |0,0,_,_,_=>rfl
     |1,1,_,_,_=>rfl
     |0,1,_,_,e=>exact absurd e.symm hij
     |1,0,_,_,e=>exact absurd e hij
    ·intro q o hq
     change look q [(1,wid),(0,AObj.ext x)]=some o at hq
     rw[zC,zC] at hq
     split at hq
     ·rename_i e
      injection hq with hq
      subst hq
      have e:q=1:=e
      subst e
      exact⟨by show 1<2;omega,_,hi,wid_ro⟩
     ·split at hq
      ·rename_i e
       injection hq with hq
       subst hq
       have e:q=0:=e
       subst e
       exact⟨by show 0<2;omega,_,hj,RO.ext (E0:=Ext1 Cls) (E:=Ext1 Cls) (f:=id) x⟩
      ·simp[look] at hq
    ·intro k o hk
     change look k ((h.next,_)::h.tbl)=some o at hk
     rw[zC] at hk
     split at hk
     ·rename_i e
      injection hk with hk
      subst hk
      have e:k=h.next:=e
      subst e
      exact .inl ⟨58,_,hnb,hrow,.grown _ _ (.cons (.int _ _) (.cons (.int _ _) .nil))⟩
     ·by_cases e:k=j
      ·subst e
       rw[hj] at hk
       injection hk with hk
       subst hk
       exact .inl ⟨0,_,hn0,hl0,RO.ext (E0:=Ext1 Cls) (E:=Ext1 Cls) (f:=id) x⟩
      ·by_cases e1:k=i
       ·subst e1
        rw[hi] at hk
        injection hk with hk
        subst hk
        exact .inl ⟨1,_,hn1,hl1,wid_ro⟩
       ·refine .inr ⟨hk,fun q hq e2=>?_⟩
        match q with
        |0=>exact e e2.symm
        |q+1=>exact e1 e2.symm
  ·cases hr
 ·cases hr
def putX2(x:Ar)(a v1 v2:Nat):Ar:=storeX (storeX x (.ofNat (a+0)) (.ofNat 8) v1) (.ofNat (a+8)) (.ofNat 8) v2
def putW:List Value→Hp Ar→Option (Value×Hp Ar)
 |[.agg ⟨[.slice (some ⟨i,0,none⟩) 2 2]⟩,.agg ⟨[.pointer (some ⟨j,0,none⟩),.int .i64 (.ofNat a),.int .i64 (.ofNat 16)]⟩,.slice (some ⟨k,0,none⟩) 2 2],h =>
  match look i h.tbl,look j h.tbl,look k h.tbl with
  |some (.grown 1 3 [.int .i64 (.ofNat 8),.int .i64 (.ofNat 8)]),some (.ext x),some (.cells [.int .u64 (.ofNat v1),.int .u64 (.ofNat v2)]) =>
   bif okW x a&&(okW (storeX x (.ofNat (a+0)) (.ofNat 8) v1) a&&(Nat.blt v1 18446744073709551616&&Nat.blt v2 18446744073709551616)) then some (errV 0,⟨del k (upd j (.ext (putX2 x a v1 v2)) h.tbl),h.next⟩) else none
  |_,_,_=>none
 |_,_=>none
theorem putW_ok:HookOk (Ext1 Cls) PZ W0 75 putW:=by
 intro vs h v h2 hr ρ φ w hG vs' hvs
 unfold putW at hr
 split at hr
 ·rename_i i j a k
  split at hr
  ·rename_i x v1 v2 hi hj hk
   cases hok:(okW x a&&(okW (storeX x (.ofNat (a+0)) (.ofNat 8) v1) a&&(Nat.blt v1 18446744073709551616&&Nat.blt v2 18446744073709551616))) with
   |false=>rw[hok] at hr;cases hr
   |true =>
    rw[hok,cond_true] at hr
    simp only[zI,Prod.mk.injEq] at hr
    obtain⟨rfl,rfl⟩:=hr
    simp only[Bool.and_eq_true] at hok
    obtain⟨o1,o2,o3,o4⟩:=hok
    obtain⟨hb,ha,hx⟩:=okW_out o1
    obtain⟨hb2,_,hx2⟩:=okW_out o2
    obtain⟨t,n,hrun,hl0,hl1,hrow⟩:=wRPut (x:=x) (a1:=a) (v1:=v1) (v2:=v2) hx (vbytes_in (b:=0) (m:=16) hb ha (by decide) (by decide) rfl) hx2 (vstore_in (b:=0) (m:=8) hb ha (by decide) (by decide) rfl rfl o3) (vstore_in (b:=8) (m:=8) hb2 ha (by decide) (by decide) rfl rfl o4)
    have hσ0:rts (fun q=>match q with|0=>j|1=>i|_=>k) 3 0 j:=⟨by omega,rfl⟩
    have hσ1:rts (fun q=>match q with|0=>j|1=>i|_=>k) 3 1 i:=⟨by omega,rfl⟩
    have hσ2:rts (fun q=>match q with|0=>j|1=>i|_=>k) 3 2 k:=⟨by omega,rfl⟩
    have hij:i≠j:=fun e=>by rw[e,hj] at hi;cases hi
    have hkj:k≠j:=fun e=>by rw[e,hj] at hk;cases hk
    have hki:k≠i:=fun e=>by rw[e,hi] at hk;cases hk
    have li:=hG.lt hi
    have lj:=hG.lt hj
    have lk:=hG.lt hk
    have hn0:rtn (fun q=>match q with|0=>j|1=>i|_=>k) 3 (fun t=>t+3) h.next 0 0 j:=.inl hσ0
    have hn1:rtn (fun q=>match q with|0=>j|1=>i|_=>k) 3 (fun t=>t+3) h.next 0 1 i:=.inl hσ1
    refine reloc (E0:=Ext1 Cls) (E:=Ext1 Cls) (g:=id) same2_id (RS_ok hV4_ok) hrun (h:=h) (h':=⟨del k (upd j (.ext (putX2 x a v1 v2)) h.tbl),h.next⟩) (σ:=fun q=>match q with|0=>j|1=>i|_=>k) (τ:=fun t=>t+3) (m:=0) ?_ ?_ (.cons (.x (.agg (.cons (.slc hσ1) .nil))) (.cons (.x (.agg (.cons (.ptr hσ0) (.cons (.int _ _) (.cons (.int _ _) .nil))))) (.cons (.of_flat (.slc hσ2)) .nil))) ?_ (fun t ht=>absurd ht (by omega)) (fun t u ht=>absurd ht (by omega)) (.of_flat (.int _ _)) rfl ?_ hG hvs
    ·intro q hq
     match q with
     |0=>exact lj
     |1=>exact li
     |q+2=>exact lk
    ·intro p q hp hq e
     match p,q,hp,hq,e with
     |0,0,_,_,_=>rfl
     |1,1,_,_,_=>rfl
     |2,2,_,_,_=>rfl
     |0,1,_,_,e=>exact absurd e.symm hij
     |1,0,_,_,e=>exact absurd e hij
     |0,2,_,_,e=>exact absurd e.symm hkj
     |2,0,_,_,e=>exact absurd e hkj
     |1,2,_,_,e=>exact absurd e.symm hki
     |2,1,_,_,e=>exact absurd e hki
    ·intro q o hq
     change look q [(2,AObj.cells [.int .u64 (.ofNat v1),.int .u64 (.ofNat v2)]),(1,wid),(0,AObj.ext x)]=some o at hq
     rw[zC,zC,zC] at hq
     split at hq
     ·rename_i e
      injection hq with hq
      subst hq
      have e:q=2:=e
      subst e
      exact⟨by show 2<3;omega,_,hk,.cells (.cons (.int _ _) (.cons (.int _ _) .nil))⟩
     ·split at hq
      ·rename_i e
       injection hq with hq
       subst hq
       have e:q=1:=e
       subst e
       exact⟨by show 1<3;omega,_,hi,wid_ro⟩
      ·split at hq
       ·rename_i e
        injection hq with hq
        subst hq
        have e:q=0:=e
        subst e
        exact⟨by show 0<3;omega,_,hj,RO.ext (E0:=Ext1 Cls) (E:=Ext1 Cls) (f:=id) x⟩
       ·simp[look] at hq
    ·intro q o hq
     change look q (del k (upd j (.ext (putX2 x a v1 v2)) h.tbl))=some o at hq
     rw[look_del] at hq
     split at hq
     ·cases hq
     ·rename_i ek
      by_cases e:q=j
      ·subst e
       rw[zS hj] at hq
       injection hq with hq
       subst hq
       exact .inl ⟨0,_,hn0,hl0,RO.ext (E0:=Ext1 Cls) (E:=Ext1 Cls) (f:=id) (putX2 x a v1 v2)⟩
      ·rw[zU e] at hq
       by_cases e1:q=i
       ·subst e1
        rw[hi] at hq
        injection hq with hq
        subst hq
        exact .inl ⟨1,_,hn1,hl1,wid_ro⟩
       ·refine .inr ⟨hq,fun p hp e2=>?_⟩
        match p with
        |0=>exact e e2.symm
        |1=>exact e1 e2.symm
        |p+2=>exact ek e2.symm
  ·cases hr
 ·cases hr
end Go.AI
