/- A function whose arguments show one arena alone, told by what it does with the arena: walked from the smallest heap, it is told of any heap. No program is named here. -/
import Derived.Test.YtohdfkipbgnkoaaGreatDoorKArC
import Derived.Test.YtohdfkipbgnkoaaGreatDoorAiReloc
import Derived.Test.YtohdfkipbgnkoaaGreatDoorAiMach
import Derived.Test.YtohdfkipbgnkoaaGreatDoorKWp
set_option maxRecDepth 100000
noncomputable section
namespace Go.AI
variable {P:Program}{W0:World}{Cls:Nat→Int→Prop}
def Ja(i:Nat):Value→Option Value
 | .pointer (some ⟨b,0,none⟩)=>bif Nat.beq b i then some (.pointer (some ⟨0,0,none⟩)) else none
 | .pointer none=>some (.pointer none)
 | .bool b=>some (.bool b)
 | .int k n=>some (.int k n)
 | .string s=>some (.string s)
 |_=>none
def wb(i:Nat):List Value→Option (List Value)
 |[]=>some []
 |v::r=>match Ja i v with
  |some w=>match wb i r with
   |some s=>some (w::s)
   |none=>none
  |none=>none
def MM(i:Nat):Value→Option Value
 | .agg ⟨l⟩=>match wb i l with
  |some s=>some (.agg ⟨s⟩)
  |none=>none
 |v=>Ja i v
def Be(i:Nat):List Value→Option (List Value)
 |[]=>some []
 |v::r=>match MM i v with
  |some w=>match Be i r with
   |some s=>some (w::s)
   |none=>none
  |none=>none
def AB(i:Nat):Value→Option Value
 | .pointer (some ⟨0,0,none⟩)=>some (.pointer (some ⟨i,0,none⟩))
 | .pointer none=>some (.pointer none)
 | .bool b=>some (.bool b)
 | .int k n=>some (.int k n)
 | .string s=>some (.string s)
 |_=>none
def rE(i:Nat):List Value→Option (List Value)
 |[]=>some []
 |v::r=>match AB i v with
  |some w=>match rE i r with
   |some s=>some (w::s)
   |none=>none
  |none=>none
def zp(i:Nat):Value→Option Value
 | .agg ⟨l⟩=>match rE i l with
  |some s=>some (.agg ⟨s⟩)
  |none=>none
 |v=>AB i v
def qC(i:Nat):List Value→Option (List Value)
 |[]=>some []
 |v::r=>match zp i v with
  |some w=>match qC i r with
   |some s=>some (w::s)
   |none=>none
  |none=>none
def Ad(i:Nat):Value→Option Value
 | .tuple ⟨l⟩=>match qC i l with
  |some s=>some (.tuple ⟨s⟩)
  |none=>none
 |v=>zp i v
def EG:List Value→Option Nat
 |[]=>none
 | .pointer (some a)::_=>some a.block
 |_::r=>EG r
def eq:List Value→Option Nat
 |[]=>none
 | .agg ⟨l⟩::r=>match EG l with
  |some i=>some i
  |none=>eq r
 | .pointer (some a)::_=>some a.block
 |_::r=>eq r
section
variable {R:Rl}{i:Nat}
theorem AN(h:R 0 i){v w:Value}(q:Ja i v=some w):RF R w v:=by
 unfold Ja at q;split at q
 ·rename_i b;cases hb:Nat.beq b i with
  |false=>rw[hb] at q;cases q
  |true =>
   rw[hb,cond_true] at q;rw[Zg] at hb;subst hb;injection q with q;subst q;exact .ptr h
 ·injection q with q;subst q;exact .nilp
 ·injection q with q;subst q;exact .bool _
 ·injection q with q;subst q;exact .int _ _
 ·injection q with q;subst q;exact .str _
 ·cases q
theorem wL(h:R 0 i):∀{v w:List Value},wb i v=some w→All2 (RF R) w v
 |[],w,q=>by
  simp only[wb,zI] at q;subst q;exact .nil
 |a::r,w,q=>by
  simp only[wb] at q;split at q
  ·rename_i x hx;split at q
   ·rename_i s hs;injection q with q;subst q;exact .cons (AN h hx) (wL h hs)
   ·cases q
  ·cases q
theorem Hv(h:R 0 i){v w:Value}(q:MM i v=some w):RV R w v:=by
 unfold MM at q;split at q
 ·split at q
  ·rename_i s hs;injection q with q;subst q;exact .x (.agg (wL h hs))
  ·cases q
 ·exact .of_flat (AN h q)
theorem zi(h:R 0 i):∀{v w:List Value},Be i v=some w→All2 (RV R) w v
 |[],w,q=>by
  simp only[Be,zI] at q;subst q;exact .nil
 |a::r,w,q=>by
  simp only[Be] at q;split at q
  ·rename_i x hx;split at q
   ·rename_i s hs;injection q with q;subst q;exact .cons (Hv h hx) (zi h hs)
   ·cases q
  ·cases q
theorem wT(h:R 0 i){v w:Value}(q:AB i v=some w):RF R v w:=by
 unfold AB at q;split at q
 ·injection q with q;subst q;exact .ptr h
 ·injection q with q;subst q;exact .nilp
 ·injection q with q;subst q;exact .bool _
 ·injection q with q;subst q;exact .int _ _
 ·injection q with q;subst q;exact .str _
 ·cases q
theorem sy(h:R 0 i):∀{v w:List Value},rE i v=some w→All2 (RF R) v w
 |[],w,q=>by
  simp only[rE,zI] at q;subst q;exact .nil
 |a::r,w,q=>by
  simp only[rE] at q;split at q
  ·rename_i x hx;split at q
   ·rename_i s hs;injection q with q;subst q;exact .cons (wT h hx) (sy h hs)
   ·cases q
  ·cases q
theorem xd(h:R 0 i){v w:Value}(q:zp i v=some w):RX R v w:=by
 unfold zp at q;split at q
 ·split at q
  ·rename_i s hs;injection q with q;subst q;exact .agg (sy h hs)
  ·cases q
 ·exact .flat (wT h q)
theorem sv(h:R 0 i):∀{v w:List Value},qC i v=some w→All2 (RX R) v w
 |[],w,q=>by
  simp only[qC,zI] at q;subst q;exact .nil
 |a::r,w,q=>by
  simp only[qC] at q;split at q
  ·rename_i x hx;split at q
   ·rename_i s hs;injection q with q;subst q;exact .cons (xd h hx) (sv h hs)
   ·cases q
  ·cases q
theorem D1(h:R 0 i){v w:Value}(q:Ad i v=some w):RV R v w:=by
 unfold Ad at q;split at q
 ·split at q
  ·rename_i s hs;injection q with q;subst q;exact .tup (sv h hs)
  ·cases q
 ·exact .x (xd h q)
end
def rg:Value→Bool
 | .bool _ | .int _ _ | .string _ | .pointer none=>true
 |_=>false
def qI:Value→Bool
 | .agg ⟨l⟩=>l.all rg
 |v=>rg v
def fC:Value→Bool
 | .tuple ⟨l⟩=>l.all qI
 |v=>qI v
theorem sN{R:Rl}{v:Value}(h:rg v=true):RF R v v:=by
 unfold rg at h;split at h
 ·exact .bool _
 ·exact .int _ _
 ·exact .str _
 ·exact .nilp
 ·cases h
theorem qW{R:Rl}:∀{vs:List Value},vs.all rg=true→All2 (RF R) vs vs
 |[],_=>.nil
 |v::r,h=>by
  simp only[List.all_cons,Zi] at h;exact .cons (sN h.1) (qW h.2)
theorem tk{R:Rl}{v:Value}(h:qI v=true):RX R v v:=by
 unfold qI at h;split at h
 ·exact .agg (qW h)
 ·exact .flat (sN h)
theorem rP{R:Rl}:∀{vs:List Value},vs.all qI=true→All2 (RX R) vs vs
 |[],_=>.nil
 |v::r,h=>by
  simp only[List.all_cons,Zi] at h;exact .cons (tk h.1) (rP h.2)
theorem oz{R:Rl}{v:Value}(h:fC v=true):RV R v v:=by
 unfold fC at h;split at h
 ·exact .tup (rP h)
 ·exact .x (tk h)
theorem lS{R:Rl}:∀{vs:List Value},vs.all fC=true→All2 (RV R) vs vs
 |[],_=>.nil
 |v::r,h=>by
  simp only[List.all_cons,Zi] at h;exact .cons (oz h.1) (lS h.2)
abbrev Spec:=Ar→List Value→Option (Value×Ar)
def d6(spec:Spec)(spec0:List Value→Option Value):List Value→Hp Ar→Option (Value×Hp Ar):=fun vs h =>
 match eq vs with
 |none=>bif vs.all fC then(match spec0 vs with
  |some v=>bif fC v then some (v,h) else none
  |none=>none) else none
 |some i=>match aa i h.tbl with
  |some (.ext x)=>bif Nat.blt x.refuse 9223372036854775808 then(match Be i vs with
   |some vs0=>match spec x vs0 with
    |some (v0,x')=>match Ad i v0 with
     |some v=>some (v,⟨upd i (.ext x') h.tbl,h.next⟩)
     |none=>none
    |none=>none
   |none=>none) else none
  |_=>none
theorem iI{E:Ext}:tg (E0:=E) (E:=E) id:=fun _ _ _ _ _=>Iff.rfl
theorem eJ{call:aP Ar}(hC:bR (a8 Cls) P W0 call){k:Nat}{spec:Spec}{spec0:List Value→Option Value}
  (h1:∀x vs v x',x.refuse<9223372036854775808→spec x vs=some (v,x')→∃t n,call k vs ⟨[(0,.ext x)],1⟩=some (v,⟨t,n⟩)∧aa 0 t=some (.ext x'))
  (h0:∀vs v,vs.all fC=true→spec0 vs=some v→∃h',call k vs ⟨[],0⟩=some (v,h')) :
  aQ (a8 Cls) P W0 k (d6 spec spec0):=by
 intro vs h v h2 hr ρ φ w hG vs' hvs;unfold d6 at hr;split at hr
 ·cases hq:vs.all fC with
  |false=>rw[hq] at hr;cases hr
  |true =>
   rw[hq,cond_true] at hr;split at hr
   ·rename_i v1 hs;cases hq1:fC v1 with
    |false=>rw[hq1] at hr;cases hr
    |true =>
     rw[hq1,cond_true] at hr;injection hr with hr;injection hr with hr1 hr2;subst hr1;subst hr2;obtain⟨h',hrun⟩:=h0 vs v1 hq hs;refine tI (g:=id) iI hC hrun (h:=h) (h':=h) (σ:=fun _=>0) (τ:=fun t=>t) (m:=0) (fun _ hi=>absurd hi (Nat.not_lt_zero _)) (fun a b ha _ _=>absurd ha (Nat.not_lt_zero _)) (lS hq) ?_ (fun t ht=>absurd ht (by omega)) (fun t u ht=>absurd ht (by omega)) (oz hq1) rfl ?_ hG hvs
     ·intro j o hj;simp[aa] at hj
     ·intro k o hk;exact .inr ⟨hk,fun _ hi=>absurd hi (Nat.not_lt_zero _)⟩
   ·cases hr
 ·rename_i i hi;split at hr
  ·rename_i x hx;cases hf:Nat.blt x.refuse 9223372036854775808 with
   |false=>rw[hf] at hr;cases hr
   |true =>
    rw[hf,cond_true] at hr;rw[aD,Zt] at hf;split at hr
    ·rename_i vs0 hvs0;split at hr
     ·rename_i v0 x' hs;split at hr
      ·rename_i v1 hv1;injection hr with hr;injection hr with hr1 hr2;subst hr1;subst hr2;obtain⟨t,n,hrun,hlk⟩:=h1 x vs0 v0 x' hf hs;have hlt:i<h.next:=hG.lt hx;refine tI (g:=id) iI hC hrun (h:=h) (h':=⟨upd i (.ext x') h.tbl,h.next⟩) (σ:=fun _=>i) (τ:=fun t=>t+1) (m:=0) (fun _ _=>hlt) (fun a b ha hb _=>?_) ?_ ?_ (fun t ht=>absurd ht (by omega)) (fun t u ht=>absurd ht (by omega)) ?_ rfl ?_ hG hvs
       ·have ha:a<1:=ha;have hb:b<1:=hb;omega
       ·exact zi ⟨by show 0<1;omega,rfl⟩ hvs0
       ·intro j o hj;change aa j [(0,AObj.ext x)]=some o at hj;rw[zC] at hj;split at hj
        ·rename_i e;injection hj with hj;subst hj;have e:j=0:=e;subst e;exact⟨by show 0<1;omega,_,hx,RO.ext (E0:=a8 Cls) (E:=a8 Cls) (f:=id) x⟩
        ·simp[aa] at hj
       ·exact D1 (.inl ⟨by show 0<1;omega,rfl⟩) hv1
       ·intro k o hk;change aa k (upd i (.ext x') h.tbl)=some o at hk;rw[dk] at hk;split at hk
        ·rename_i e;subst e;rw[hx] at hk;injection hk with hk;subst hk;exact .inl ⟨0,_,.inl ⟨by show 0<1;omega,rfl⟩,hlk,RO.ext (E0:=a8 Cls) (E:=a8 Cls) (f:=id) x'⟩
        ·rename_i e;exact .inr ⟨hk,fun _ _ e2=>e e2.symm⟩
      ·cases hr
     ·cases hr
    ·cases hr
  ·cases hr
end Go.AI
namespace Go.AI
variable {P:Program}{W0:World}{Cls:Nat→Int→Prop}
structure B3 where
 i:Nat
 b:Nat
 r:Nat
def pN(q:B3):Value→Option Value
 | .pointer (some ⟨k,0,none⟩)=>bif Nat.beq k q.i then some (.pointer (some ⟨0,0,none⟩)) else bif Nat.beq k q.b then some (.pointer (some ⟨1,0,none⟩)) else bif Nat.beq k q.r then some (.pointer (some ⟨2,0,none⟩)) else none
 | .pointer none=>some (.pointer none)
 | .bool b=>some (.bool b)
 | .int k n=>some (.int k n)
 | .string s=>some (.string s)
 |_=>none
def aj(q:B3):List Value→Option (List Value)
 |[]=>some []
 |v::r=>match pN q v with
  |some w=>match aj q r with
   |some s=>some (w::s)
   |none=>none
  |none=>none
def Gl(q:B3):Value→Option Value
 | .agg ⟨l⟩=>match aj q l with
  |some s=>some (.agg ⟨s⟩)
  |none=>none
 |v=>pN q v
def fZ(q:B3):List Value→Option (List Value)
 |[]=>some []
 |v::r=>match Gl q v with
  |some w=>match fZ q r with
   |some s=>some (w::s)
   |none=>none
  |none=>none
def ub(q:B3):Value→Option Value
 | .pointer (some ⟨0,0,none⟩)=>some (.pointer (some ⟨q.i,0,none⟩))
 | .pointer (some ⟨1,0,none⟩)=>some (.pointer (some ⟨q.b,0,none⟩))
 | .pointer (some ⟨2,0,none⟩)=>some (.pointer (some ⟨q.r,0,none⟩))
 | .pointer none=>some (.pointer none)
 | .bool b=>some (.bool b)
 | .int k n=>some (.int k n)
 | .string s=>some (.string s)
 |_=>none
def mo(q:B3):List Value→Option (List Value)
 |[]=>some []
 |v::r=>match ub q v with
  |some w=>match mo q r with
   |some s=>some (w::s)
   |none=>none
  |none=>none
def uL(q:B3):Value→Option Value
 | .agg ⟨l⟩=>match mo q l with
  |some s=>some (.agg ⟨s⟩)
  |none=>none
 |v=>ub q v
def mR(q:B3):List Value→Option (List Value)
 |[]=>some []
 |v::r=>match uL q v with
  |some w=>match mR q r with
   |some s=>some (w::s)
   |none=>none
  |none=>none
def gR(q:B3):Value→Option Value
 | .tuple ⟨l⟩=>match mR q l with
  |some s=>some (.tuple ⟨s⟩)
  |none=>none
 |v=>uL q v
section
variable {R:Rl}{q:B3}
theorem xw(h0:R 0 q.i)(h1:R 1 q.b)(h2:R 2 q.r){v w:Value}(e:pN q v=some w):RF R w v:=by
 unfold pN at e;split at e
 ·rename_i k;cases hi:Nat.beq k q.i with
  |true =>
   rw[hi,cond_true] at e;rw[Zg] at hi;subst hi;injection e with e;subst e;exact .ptr h0
  |false =>
   rw[hi,cond_false] at e;cases hb:Nat.beq k q.b with
   |true =>
    rw[hb,cond_true] at e;rw[Zg] at hb;subst hb;injection e with e;subst e;exact .ptr h1
   |false =>
    rw[hb,cond_false] at e;cases hr:Nat.beq k q.r with
    |true =>
     rw[hr,cond_true] at e;rw[Zg] at hr;subst hr;injection e with e;subst e;exact .ptr h2
    |false=>rw[hr] at e;cases e
 ·injection e with e;subst e;exact .nilp
 ·injection e with e;subst e;exact .bool _
 ·injection e with e;subst e;exact .int _ _
 ·injection e with e;subst e;exact .str _
 ·cases e
theorem dN(h0:R 0 q.i)(h1:R 1 q.b)(h2:R 2 q.r):∀{v w:List Value},aj q v=some w→All2 (RF R) w v
 |[],w,e=>by
  simp only[aj,zI] at e;subst e;exact .nil
 |a::r,w,e=>by
  simp only[aj] at e;split at e
  ·rename_i x hx;split at e
   ·rename_i s hs;injection e with e;subst e;exact .cons (xw h0 h1 h2 hx) (dN h0 h1 h2 hs)
   ·cases e
  ·cases e
theorem EE(h0:R 0 q.i)(h1:R 1 q.b)(h2:R 2 q.r){v w:Value}(e:Gl q v=some w):RV R w v:=by
 unfold Gl at e;split at e
 ·split at e
  ·rename_i s hs;injection e with e;subst e;exact .x (.agg (dN h0 h1 h2 hs))
  ·cases e
 ·exact .of_flat (xw h0 h1 h2 e)
theorem nG(h0:R 0 q.i)(h1:R 1 q.b)(h2:R 2 q.r):∀{v w:List Value},fZ q v=some w→All2 (RV R) w v
 |[],w,e=>by
  simp only[fZ,zI] at e;subst e;exact .nil
 |a::r,w,e=>by
  simp only[fZ] at e;split at e
  ·rename_i x hx;split at e
   ·rename_i s hs;injection e with e;subst e;exact .cons (EE h0 h1 h2 hx) (nG h0 h1 h2 hs)
   ·cases e
  ·cases e
theorem sn(h0:R 0 q.i)(h1:R 1 q.b)(h2:R 2 q.r){v w:Value}(e:ub q v=some w):RF R v w:=by
 unfold ub at e;split at e
 ·injection e with e;subst e;exact .ptr h0
 ·injection e with e;subst e;exact .ptr h1
 ·injection e with e;subst e;exact .ptr h2
 ·injection e with e;subst e;exact .nilp
 ·injection e with e;subst e;exact .bool _
 ·injection e with e;subst e;exact .int _ _
 ·injection e with e;subst e;exact .str _
 ·cases e
theorem ri(h0:R 0 q.i)(h1:R 1 q.b)(h2:R 2 q.r):∀{v w:List Value},mo q v=some w→All2 (RF R) v w
 |[],w,e=>by
  simp only[mo,zI] at e;subst e;exact .nil
 |a::r,w,e=>by
  simp only[mo] at e;split at e
  ·rename_i x hx;split at e
   ·rename_i s hs;injection e with e;subst e;exact .cons (sn h0 h1 h2 hx) (ri h0 h1 h2 hs)
   ·cases e
  ·cases e
theorem sE(h0:R 0 q.i)(h1:R 1 q.b)(h2:R 2 q.r){v w:Value}(e:uL q v=some w):RX R v w:=by
 unfold uL at e;split at e
 ·split at e
  ·rename_i s hs;injection e with e;subst e;exact .agg (ri h0 h1 h2 hs)
  ·cases e
 ·exact .flat (sn h0 h1 h2 e)
theorem qy(h0:R 0 q.i)(h1:R 1 q.b)(h2:R 2 q.r):∀{v w:List Value},mR q v=some w→All2 (RX R) v w
 |[],w,e=>by
  simp only[mR,zI] at e;subst e;exact .nil
 |a::r,w,e=>by
  simp only[mR] at e;split at e
  ·rename_i x hx;split at e
   ·rename_i s hs;injection e with e;subst e;exact .cons (sE h0 h1 h2 hx) (qy h0 h1 h2 hs)
   ·cases e
  ·cases e
theorem Bp(h0:R 0 q.i)(h1:R 1 q.b)(h2:R 2 q.r){v w:Value}(e:gR q v=some w):RV R v w:=by
 unfold gR at e;split at e
 ·split at e
  ·rename_i s hs;injection e with e;subst e;exact .tup (qy h0 h1 h2 hs)
  ·cases e
 ·exact .x (sE h0 h1 h2 e)
end
theorem xS{q:B3}{v w:Value}(h:pN q v=some w):pN ⟨0,1,2⟩ w=some w:=by
 unfold pN at h;split at h
 ·rename_i k;cases hi:Nat.beq k q.i with
  |true=>rw[hi,cond_true] at h;injection h with h;subst h;rfl
  |false =>
   rw[hi,cond_false] at h;cases hb:Nat.beq k q.b with
   |true=>rw[hb,cond_true] at h;injection h with h;subst h;rfl
   |false =>
    rw[hb,cond_false] at h;cases hr:Nat.beq k q.r with
    |true=>rw[hr,cond_true] at h;injection h with h;subst h;rfl
    |false=>rw[hr] at h;cases h
 ·injection h with h;subst h;rfl
 ·injection h with h;subst h;rfl
 ·injection h with h;subst h;rfl
 ·injection h with h;subst h;rfl
 ·cases h
theorem fY{q:B3}:∀{v w:List Value},aj q v=some w→aj ⟨0,1,2⟩ w=some w
 |[],w,h=>by
  simp only[aj,zI] at h;subst h;rfl
 |a::r,w,h=>by
  simp only[aj] at h;split at h
  ·rename_i x hx;split at h
   ·rename_i s hs;injection h with h;subst h;simp only[aj,xS hx,fY hs]
   ·cases h
  ·cases h
abbrev pA:Value:=.pointer (some ⟨0,0,none⟩)
abbrev pB:Value:=.pointer (some ⟨1,0,none⟩)
abbrev pR:Value:=.pointer (some ⟨2,0,none⟩)
def sm3(x:Ar)(rr rb:List Value):LO:=[(2,.cells (pB::rr)),(1,.cells (pA::rb)),(0,.ext x)]
def lJ(vs:List Value)(tbl:LO):Option (B3×Ar×List Value×List Value) :=
 match eq vs with
 |some r=>match aa r tbl with
  |some (.cells (.pointer (some ⟨b,0,none⟩)::rr))=>match aa b tbl with
   |some (.cells (.pointer (some ⟨i,0,none⟩)::rb))=>match aa i tbl with
    |some (.ext x)=>bif Nat.beq r b then none else some (⟨i,b,r⟩,x,rr,rb)
    |_=>none
   |_=>none
  |_=>none
 |none=>none
def cH(spec:Spec)(spec0:List Value→Option Value):List Value→Hp Ar→Option (Value×Hp Ar):=fun vs h =>
 match eq vs with
 |none=>bif vs.all fC then(match spec0 vs with
  |some v=>bif fC v then some (v,h) else none
  |none=>none) else none
 |some _=>match lJ vs h.tbl with
  |some (q,x,rr,rb)=>bif Nat.blt x.refuse 9223372036854775808 then(match fZ q vs,aj q rr,aj q rb with
   |some vs0,some _,some _=>match spec x vs0 with
    |some (v0,x')=>match gR q v0 with
     |some v=>some (v,⟨upd q.i (.ext x') h.tbl,h.next⟩)
     |none=>none
    |none=>none
   |_,_,_=>none) else none
  |none=>none
theorem ew{call:aP Ar}(hC:bR (a8 Cls) P W0 call){k:Nat}{spec:Spec}{spec0:List Value→Option Value}
  (h1:∀x rr rb vs v x',x.refuse<9223372036854775808→aj ⟨0,1,2⟩ rr=some rr→aj ⟨0,1,2⟩ rb=some rb→spec x vs=some (v,x')→∃t n,call k vs ⟨sm3 x rr rb,3⟩=some (v,⟨t,n⟩)∧aa 0 t=some (.ext x')∧aa 1 t=some (.cells (pA::rb))∧aa 2 t=some (.cells (pB::rr)))
  (h0:∀vs v,vs.all fC=true→spec0 vs=some v→∃h',call k vs ⟨[],0⟩=some (v,h')) :
  aQ (a8 Cls) P W0 k (cH spec spec0):=by
 intro vs h v h2 hr ρ φ w hG vs' hvs;unfold cH at hr;split at hr
 ·cases hq:vs.all fC with
  |false=>rw[hq] at hr;cases hr
  |true =>
   rw[hq,cond_true] at hr;split at hr
   ·rename_i v1 hs;cases hq1:fC v1 with
    |false=>rw[hq1] at hr;cases hr
    |true =>
     rw[hq1,cond_true] at hr;injection hr with hr;injection hr with hr1 hr2;subst hr1;subst hr2;obtain⟨h',hrun⟩:=h0 vs v1 hq hs;refine tI (g:=id) iI hC hrun (h:=h) (h':=h) (σ:=fun _=>0) (τ:=fun t=>t) (m:=0) (fun _ hi=>absurd hi (Nat.not_lt_zero _)) (fun a b ha _ _=>absurd ha (Nat.not_lt_zero _)) (lS hq) ?_ (fun t ht=>absurd ht (by omega)) (fun t u ht=>absurd ht (by omega)) (oz hq1) rfl ?_ hG hvs
     ·intro j o hj;simp[aa] at hj
     ·intro k o hk;exact .inr ⟨hk,fun _ hi=>absurd hi (Nat.not_lt_zero _)⟩
   ·cases hr
 ·split at hr
  ·rename_i q x rr rb hfind;cases hf:Nat.blt x.refuse 9223372036854775808 with
   |false=>rw[hf] at hr;cases hr
   |true =>
    rw[hf,cond_true] at hr;rw[aD,Zt] at hf;split at hr
    ·rename_i vs0 rr0 rb0 hvs0 hrr hrb;split at hr
     ·rename_i v0 x' hs;split at hr
      ·rename_i v1 hv1;injection hr with hr;injection hr with hr1 hr2;subst hr1;subst hr2
       -- what was found
       have hfd:aa q.r h.tbl=some (.cells (.pointer (some ⟨q.b,0,none⟩)::rr))∧aa q.b h.tbl=some (.cells (.pointer (some ⟨q.i,0,none⟩)::rb))∧aa q.i h.tbl=some (.ext x)∧q.r≠q.b:=by
        unfold lJ at hfind;split at hfind
        ·rename_i r0 hfirst;split at hfind
         ·rename_i b rr1 hr1;split at hfind
          ·rename_i i rb1 hb1;split at hfind
           ·rename_i x1 hx1;cases hne:Nat.beq r0 b with
            |true=>rw[hne] at hfind;cases hfind
            |false =>
             rw[hne,cond_false] at hfind;injection hfind with hfind;injection hfind with e1 e2;injection e2 with e2 e3;injection e3 with e3 e4;subst e1;subst e2;subst e3;subst e4;refine⟨hr1,hb1,hx1,fun e=>?_⟩;have e:r0=b:=e;rw[e,Nat.beq_refl] at hne;cases hne
           ·cases hfind
          ·cases hfind
         ·cases hfind
        ·cases hfind
       obtain⟨f1,f2,f3,f4⟩:=hfd;obtain⟨t,n,hrun,hl0,hl1,hl2⟩:=h1 x rr0 rb0 vs0 v0 x' hf (fY hrr) (fY hrb) hs;have fib:q.i≠q.b:=fun e=>by rw[e,f2] at f3;cases f3
       have fir:q.i≠q.r:=fun e=>by rw[e,f1] at f3;cases f3
       have hσ0:rts (fun j=>match j with|0=>q.i|1=>q.b|_=>q.r) 3 0 q.i:=⟨by omega,rfl⟩;have hσ1:rts (fun j=>match j with|0=>q.i|1=>q.b|_=>q.r) 3 1 q.b:=⟨by omega,rfl⟩;have hσ2:rts (fun j=>match j with|0=>q.i|1=>q.b|_=>q.r) 3 2 q.r:=⟨by omega,rfl⟩;have hn0:rtn (fun j=>match j with|0=>q.i|1=>q.b|_=>q.r) 3 (fun t=>t+3) h.next 0 0 q.i:=.inl hσ0;have hn1:rtn (fun j=>match j with|0=>q.i|1=>q.b|_=>q.r) 3 (fun t=>t+3) h.next 0 1 q.b:=.inl hσ1;have hn2:rtn (fun j=>match j with|0=>q.i|1=>q.b|_=>q.r) 3 (fun t=>t+3) h.next 0 2 q.r:=.inl hσ2;have li:=hG.lt f3;have lb:=hG.lt f2;have lr:=hG.lt f1;refine tI (E0:=a8 Cls) (g:=id) iI hC hrun (h:=h) (h':=⟨upd q.i (.ext x') h.tbl,h.next⟩) (σ:=fun j=>match j with|0=>q.i|1=>q.b|_=>q.r) (τ:=fun t=>t+3) (m:=0) ?_ ?_ (nG hσ0 hσ1 hσ2 hvs0) ?_ (fun t ht=>absurd ht (by omega)) (fun t u ht=>absurd ht (by omega)) (Bp hn0 hn1 hn2 hv1) rfl ?_ hG hvs
       ·intro j hj
        match j with
        |0=>exact li
        |1=>exact lb
        |j+2=>exact lr
       ·intro a c ha hc e;have ha:a<3:=ha;have hc:c<3:=hc
        match a,c,ha,hc,e with
        |0,0,_,_,_=>rfl
        |1,1,_,_,_=>rfl
        |2,2,_,_,_=>rfl
        |0,1,_,_,e=>exact absurd e fib
        |0,2,_,_,e=>exact absurd e fir
        |1,0,_,_,e=>exact absurd e.symm fib
        |2,0,_,_,e=>exact absurd e.symm fir
        |1,2,_,_,e=>exact absurd e.symm f4
        |2,1,_,_,e=>exact absurd e f4
       ·intro j o hj;change aa j [(2,AObj.cells (pB::rr0)),(1,.cells (pA::rb0)),(0,.ext x)]=some o at hj;rw[zC,zC,zC] at hj;split at hj
        ·rename_i e;injection hj with hj;subst hj;have e:j=2:=e;subst e;exact⟨by show 2<3;omega,_,f1,.cells (.cons (.ptr hσ1) (dN hσ0 hσ1 hσ2 hrr))⟩
        ·split at hj
         ·rename_i e;injection hj with hj;subst hj;have e:j=1:=e;subst e;exact⟨by show 1<3;omega,_,f2,.cells (.cons (.ptr hσ0) (dN hσ0 hσ1 hσ2 hrb))⟩
         ·split at hj
          ·rename_i e;injection hj with hj;subst hj;have e:j=0:=e;subst e;exact⟨by show 0<3;omega,_,f3,RO.ext (E0:=a8 Cls) (E:=a8 Cls) (f:=id) x⟩
          ·simp[aa] at hj
       ·intro k o hk;change aa k (upd q.i (.ext x') h.tbl)=some o at hk;rw[dk] at hk;split at hk
        ·rename_i e;subst e;rw[f3] at hk;injection hk with hk;subst hk;exact .inl ⟨0,_,hn0,hl0,RO.ext (E0:=a8 Cls) (E:=a8 Cls) (f:=id) x'⟩
        ·rename_i e;by_cases eb:k=q.b
         ·subst eb;rw[f2] at hk;injection hk with hk;subst hk;exact .inl ⟨1,_,hn1,hl1,.cells (.cons (.ptr hn0) (dN hn0 hn1 hn2 hrb))⟩
         ·by_cases er:k=q.r
          ·subst er;rw[f1] at hk;injection hk with hk;subst hk;exact .inl ⟨2,_,hn2,hl2,.cells (.cons (.ptr hn1) (dN hn0 hn1 hn2 hrr))⟩
          ·refine .inr ⟨hk,fun j hj e2=>?_⟩
           match j with
           |0=>exact e e2.symm
           |1=>exact eb e2.symm
           |j+2=>exact er e2.symm
      ·cases hr
     ·cases hr
    ·cases hr
  ·cases hr
end Go.AI
namespace Go.AI
abbrev vI(n:Nat):Value:=.int .i64 (.ofNat n)
abbrev vU(n:Nat):Value:=.int .u64 (.ofNat n)
abbrev vT(l:List Value):Value:=.tuple ⟨l⟩
abbrev vA(l:List Value):Value:=.agg ⟨l⟩
abbrev vD(v:Value):Value×Value:=(v,v)
abbrev dI(n:Nat):=vD (vI n)
abbrev dU(n:Nat):=vD (vU n)
abbrev vK(v:Value):Value:=vT [v,vI 0]
inductive Act where
 |run (n:Nat)
 |call (v:Value) (x:Ar)
 |callR (v:Value) (x:Ar)
 |val (v:Value)
 |len (n:Nat)
 |cvt (v:Value)
 |fin
def FN(k:IntKind):Value→Option Value
 | .int _ n=>some (.int k (ai k n))
 |_=>none
inductive Ob where
 |call (kf:Nat) (x:Ar) (vs:List Value) (v:Value) (x':Ar)
 |callR (kf:Nat) (x:Ar) (rr rb vs:List Value) (v:Value) (x':Ar)
 |bin (op:BinOp) (e:EqK) (u w v:Value)
 |len (s:ByteArray) (n:Nat)
 |cv (k:IntKind) (u v:Value)
 |same (l:List (Value×Value))
def mK:List (Value×Value)→Prop
 |[]=>True
 |p::r=>p.1=p.2∧mK r
def Ob.holds(hook:dS Ar):Ob→Prop
 | .call kf x vs v x'=>x.refuse<9223372036854775808∧∃spec spec0,hook kf=some (d6 spec spec0)∧spec x vs=some (v,x')
 | .callR kf x rr rb vs v x'=>x.refuse<9223372036854775808∧aj ⟨0,1,2⟩ rr=some rr∧aj ⟨0,1,2⟩ rb=some rb∧∃spec spec0,hook kf=some (cH spec spec0)∧spec x vs=some (v,x')
 | .bin op e u w v=>bu op e u w=some v
 | .len s n=>s.size=n
 | .cv k u v=>FN k u=some v
 | .same l=>mK l
def iR(hook:dS Ar):List Ob→Prop
 |[]=>True
 |o::r=>o.holds hook∧iR hook r
theorem fm:∀{a b:List (Value×Value)},mK (a++b)→mK a∧mK b
 |[],_,h=>⟨trivial,h⟩
 |_::_,_,h=>⟨⟨h.1,(fm h.2).1⟩,(fm h.2).2⟩
theorem eS(a:Int):bz a a=true:=by rw[d7];simp
def Lk:Value→Value→Option (List (Value×Value))
 | .bool a,.bool b=>some [(.bool a,.bool b)]
 | .int j a,.int k b=>if j=k then some [(.int j a,.int k b)] else none
 | .string a,.string b=>some [(.string a,.string b)]
 |u,w=>bif ceq u w then some [] else none
theorem IL{u w:Value}{l:List (Value×Value)}(h:Lk u w=some l)(hs:mK l):ceq u w=true:=by
 unfold Lk at h;split at h
 ·injection h with h;subst h;have:=hs.1;injection this with e;subst e;simp[ceq]
 ·split at h
  ·injection h with h;subst h;have:=hs.1;injection this with e1 e2;subst e2;rename_i e;subst e;simp[ceq,eS]
  ·cases h
 ·injection h with h;subst h;have:=hs.1;injection this with e;subst e;exact jB _
 ·cases hc:ceq u w with
  |true=>rfl
  |false=>rw[hc] at h;cases h
def Aa:List Value→List Value→Option (List (Value×Value))
 |[],[]=>some []
 |a::x,b::y=>match Lk a b with
  |some l=>match Aa x y with
   |some r=>some (l++r)
   |none=>none
  |none=>none
 |_,_=>none
theorem ve:∀{x y:List Value} {l:List (Value×Value)},Aa x y=some l→mK l→dC x y=true
 |[],[],_,_,_=>rfl
 |[],_::_,_,h,_=>by cases h
 |_::_,[],_,h,_=>by cases h
 |a::x,b::y,l,h,hs=>by
  simp only[Aa] at h;split at h
  ·rename_i l1 h1;split at h
   ·rename_i l2 h2;injection h with h;subst h;have hs:=fm hs;simp only[dC,IL h1 hs.1,ve h2 hs.2,Bool.and_self]
   ·cases h
  ·cases h
def uu(ad:Addr)(n:Nat)(r:List Value)(lo hi:Nat):List (Mem Ar)→Option (List (Value×Value))
 |[]=>some []
 |m::ms=>match(bif Nat.ble lo ms.length&&Nat.ble ms.length hi then(match m.load ad n with|some s=>Aa r s|none=>none) else some []) with
  |some l=>match uu ad n r lo hi ms with
   |some l'=>some (l++l')
   |none=>none
  |none=>none
theorem sF{ad:Addr}{n:Nat}{r:List Value}{lo hi:Nat}:∀{ms:List (Mem Ar)} {l:List (Value×Value)},uu ad n r lo hi ms=some l→mK l→bn (.ld ad n) r lo hi ms=true
 |[],_,_,_=>rfl
 |m::ms,l,h,hs=>by
  simp only[uu] at h;split at h
  ·rename_i l1 h1;split at h
   ·rename_i l2 h2;injection h with h;subst h;have hs:=fm hs;simp only[bn,sF h2 hs.2,Bool.and_true];cases hb:(Nat.ble lo ms.length&&Nat.ble ms.length hi) with
    |false=>rfl
    |true =>
     rw[hb,cond_true] at h1;rw[cond_true];split at h1
     ·rename_i s hl;rw[hl];exact ve h1 hs.1
     ·cases h1
   ·cases h
  ·cases h
def wq(bf:List (List Nat))(Z:DS Ar):List (Nat×Rq×List Value)→Option (List (Value×Value))
 |[]=>some []
 |(_,.mp _ _ _ _,_)::_=>none
 |(k,.ld ad n,r)::t=>match uu ad n r (dG (fun c=>bC bf c k) Z.chain) (dG (fun c=>!bC bf k c) Z.chain) Z.snaps with
  |some l=>match wq bf Z t with
   |some l'=>some (l++l')
   |none=>none
  |none=>none
theorem vH{bf:List (List Nat)}{Z:DS Ar}:∀{t:List (Nat×Rq×List Value)} {l:List (Value×Value)},wq bf Z t=some l→mK l→bi bf Z t=true
 |[],_,_,_=>rfl
 |(_,.mp _ _ _ _,_)::_,_,h,_=>by simp only[wq] at h;cases h
 |(k,.ld ad n,r)::t,l,h,hs=>by
  simp only[wq] at h;split at h
  ·rename_i l1 h1;split at h
   ·rename_i l2 h2;injection h with h;subst h;have hs:=fm hs;simp only[bi,sF h1 hs.1,vH h2 hs.2,Bool.and_self]
   ·cases h
  ·cases h
section
variable (F:Nat→Option IFn)(clean:Nat→Bool)(hook:dS Ar)
def M7(env:LV)(m:Mem Ar)(f:Opd)(xs:List Opd)(v0:Value)(x':Ar):Option (Value×Hp Ar×Ob) :=
 match evo env f with
 |some (.func (.func kf) _ caps)=>match evs env xs with
  |some vs=>match eq (vs++caps.toList) with
   |some i=>match aa i m.tbl with
    |some (.ext x)=>match Be i (vs++caps.toList) with
     |some vs0=>match Ad i v0 with
      |some v=>some (v,⟨upd i (.ext x') m.tbl,m.next⟩,.call kf x vs0 v0 x')
      |none=>none
     |none=>none
    |_=>none
   |none=>none
  |none=>none
 |_=>none
theorem IV{env:LV}{m:Mem Ar}{f:Opd}{xs:List Opd}{v0 v:Value}{x':Ar}{h:Hp Ar}{o:Ob}{n:Nat}(ha:M7 env m f xs v0 x'=some (v,h,o))(ho:o.holds hook):kw (run F clean hook (n+1)) env m f xs=some (v,h):=by
 unfold M7 at ha;split at ha
 ·rename_i kf fst caps hf;split at ha
  ·rename_i vs hxs;split at ha
   ·rename_i i hi;split at ha
    ·rename_i x hx;split at ha
     ·rename_i vs0 hc;split at ha
      ·rename_i v1 hb;injection ha with ha;injection ha with h1 h2;injection h2 with h2 h3;subst h1;subst h2;subst h3;obtain⟨hr,spec,spec0,hh,hs⟩:=ho;have hq:Nat.blt x.refuse 9223372036854775808=true:=by rw[aD];exact Zh hr
       simp only[kw,hf,hxs];rw[fQ hh];simp only[d6,hi,hx,hq,cond_true,hc,hs,hb]
      ·cases ha
     ·cases ha
    ·cases ha
   ·cases ha
  ·cases ha
 ·cases ha
def LH(env:LV)(m:Mem Ar)(f:Opd)(xs:List Opd)(v0:Value)(x':Ar):Option (Value×Hp Ar×Ob) :=
 match evo env f with
 |some (.func (.func kf) _ caps)=>match evs env xs with
  |some vs=>match eq (vs++caps.toList) with
   |some _=>match lJ (vs++caps.toList) m.tbl with
    |some (⟨0,1,2⟩,x,rr,rb)=>match fZ ⟨0,1,2⟩ (vs++caps.toList) with
     |some vs0=>match gR ⟨0,1,2⟩ v0 with
      |some v=>some (v,⟨upd 0 (.ext x') m.tbl,m.next⟩,.callR kf x rr rb vs0 v0 x')
      |none=>none
     |none=>none
    |_=>none
   |none=>none
  |none=>none
 |_=>none
theorem Jh{env:LV}{m:Mem Ar}{f:Opd}{xs:List Opd}{v0 v:Value}{x':Ar}{h:Hp Ar}{o:Ob}{n:Nat}(ha:LH env m f xs v0 x'=some (v,h,o))(ho:o.holds hook):kw (run F clean hook (n+1)) env m f xs=some (v,h):=by
 unfold LH at ha;split at ha
 ·rename_i kf fst caps hf;split at ha
  ·rename_i vs hxs;split at ha
   ·rename_i i hi;split at ha
    ·rename_i x rr rb hx;split at ha
     ·rename_i vs0 hc;split at ha
      ·rename_i v1 hb;injection ha with ha;injection ha with h1 h2;injection h2 with h2 h3;subst h1;subst h2;subst h3;obtain⟨hr,hrr,hrb,spec,spec0,hh,hs⟩:=ho;have hq:Nat.blt x.refuse 9223372036854775808=true:=by rw[aD];exact Zh hr
       simp only[kw,hf,hxs];rw[fQ hh];simp only[cH,hi,hx,hq,cond_true,hc,hrr,hrb,hs,hb]
      ·cases ha
     ·cases ha
    ·cases ha
   ·cases ha
  ·cases ha
 ·cases ha
def tj:Fm Ar→Option Row
 | .ops l=>some l
 | .code (.ops l)=>some l
 |_=>none
variable {F clean hook}
theorem lj{fr:Fm Ar}{l:Row}(h:tj fr=some l)(fs:List (Fm Ar))(n:Nat)(e:LV)(m:Mem Ar):den F clean hook (fr::fs) n .norm e m=den F clean hook (.ops l::fs) n .norm e m:=by
 unfold tj at h;split at h
 ·injection h with h;subst h;rfl
 ·injection h with h;subst h;rename_i l;show((bP (run F clean hook n) n (.ops l) e m).bind fun r=>den F clean hook fs n r.1 r.2.1 r.2.2)=((aY (run F clean hook n) l e m).bind fun r=>den F clean hook fs n .norm r.1 r.2);simp only[bP];cases aY (run F clean hook n) l e m<;>rfl
 ·cases h
abbrev Ans:=LV→Mem Ar→Opd→List Opd→Value→Ar→Option (Value×Hp Ar×Ob)
def Av(ans:Ans)(s:Ms Ar)(v0:Value)(x':Ar):Option (Ms Ar×Ob) :=
 match s with
 |⟨n+1,fr::fs,.norm,env,m⟩=>match tj fr with
  |some ((g,.call d f xs)::l)=>match wanted env g with
   |some true=>match ans env m f xs v0 x' with
    |some (v,h,o)=>some (⟨n+1,.ops l::fs,.norm,bD d v env,⟨m.loc,h.tbl,h.next⟩⟩,o)
    |none=>none
   |_=>none
  |some _=>none
  |none=>match fr with
   | .drw l0 bf ((g,.call d f xs)::r) base j e0 Z=>match wanted (bq bf (aH 0 l0) e0 Z.vals j) g with
    |some true=>bif Z.chain.all (fun c=>bC bf c j) then(match Z.snaps with
     |m0::_=>match ans (bq bf (aH 0 l0) e0 Z.vals j) (bT base (g9 bf Z.chain Z.fls j) m0) f xs v0 x' with
      |some (v,h,o)=>some (⟨n+1,.drw l0 bf r base (Nat.succ j) e0 (Z.next j d v ⟨(bT base (g9 bf Z.chain Z.fls j) m0).loc,h.tbl,h.next⟩)::fs,.norm,[],⟨[],[],0⟩⟩,o)
      |none=>none
     |[]=>none) else none
    |_=>none
   |_=>none
 |_=>none
theorem se{ans:Ans}(hans:∀{env:LV} {m:Mem Ar} {f:Opd} {xs:List Opd} {v0 v:Value} {x':Ar} {h:Hp Ar} {o:Ob} {n:Nat},ans env m f xs v0 x'=some (v,h,o)→o.holds hook→kw (run F clean hook (n+1)) env m f xs=some (v,h)){s s':Ms Ar}{v0:Value}{x':Ar}{o:Ob}(h:Av ans s v0 x'=some (s',o))(ho:o.holds hook):s.den F clean hook=s'.den F clean hook:=by
 unfold Av at h;split at h
 ·rename_i n fr fs env m;split at h
  ·rename_i g d f xs l hrow;split at h
   ·rename_i hw;split at h
    ·rename_i v hp o' ha;injection h with h;injection h with h1 h2;subst h1;subst h2;have hc:=hans (n:=n) ha ho;show den F clean hook (fr::fs) (n+1) .norm env m=_;rw[lj hrow];show((aY (run F clean hook (n+1)) ((g,.call d f xs)::l) env m).bind fun r=>den F clean hook fs (n+1) .norm r.1 r.2)=_;simp only[aY,hw,io,hc,Option.map];rfl
    ·cases h
   ·cases h
  ·cases h
  ·split at h
   ·rename_i l0 bf g d f xs r base j e0 Z hrow;split at h
    ·rename_i hw;cases hch:Z.chain.all fun c=>bC bf c j with
     |false=>rw[hch] at h;cases h
     |true =>
      rw[hch,cond_true] at h;split at h
      ·rename_i m0 ms hsn;split at h
       ·rename_i v hp o' ha;injection h with h;injection h with h1 h2;subst h1;subst h2;have hc:=hans (n:=n) ha ho;show((d8 (run F clean hook (n+1)) bf base (aH 0 l0) e0 j ((g,.call d f xs)::r) Z).bind fun Z'=>(lz bf base e0 Z').bind fun r=>den F clean hook fs (n+1) .norm r.1 r.2)=((d8 (run F clean hook (n+1)) bf base (aH 0 l0) e0 (Nat.succ j) r _).bind fun Z'=>(lz bf base e0 Z').bind fun r=>den F clean hook fs (n+1) .norm r.1 r.2);have hk:ce (.call d f xs) = .chain:=rfl;have hp2:vm (bq bf (aH 0 l0) e0 Z.vals j) bf base j Z.fls (.call d f xs)=none:=rfl;simp only[d8,dD,hw,hk,hp2,hch,cond_true,hsn,io,hc,Option.map,DS.next];rfl
       ·cases h
      ·cases h
    ·cases h
   ·cases h
 ·cases h
def Jx:Ms Ar→Value→Ar→Option (Ms Ar×Ob):=Av M7
def Jn:Ms Ar→Value→Ar→Option (Ms Ar×Ob):=Av LH
theorem CC{s s':Ms Ar}{v0:Value}{x':Ar}{o:Ob}(h:Jx s v0 x'=some (s',o))(ho:o.holds hook):s.den F clean hook=s'.den F clean hook:=se (fun h ho=>IV F clean hook h ho) h ho
theorem Do{s s':Ms Ar}{v0:Value}{x':Ar}{o:Ob}(h:Jn s v0 x'=some (s',o))(ho:o.holds hook):s.den F clean hook=s'.den F clean hook:=se (fun h ho=>Jh F clean hook h ho) h ho
def FQ(s:Ms Ar)(b:Value):Option (Ms Ar×Ob) :=
 match s with
 |⟨n,fr::fs,.norm,env,m⟩=>match tj fr with
  |some ((g,.pure d (.bin op e x y))::l)=>match wanted env g with
   |some true=>match evo env x with
    |some u=>match evo env y with
     |some w=>some (⟨n,.ops l::fs,.norm,(d,b)::env,m⟩,.bin op e u w b)
     |none=>none
    |none=>none
   |_=>none
  |some _=>none
  |none=>match fr with
   | .drw l0 bf ((g,.pure d (.bin op e x y))::r) base j e0 Z=>match wanted (bq bf (aH 0 l0) e0 Z.vals j) g with
    |some true=>match evo (bq bf (aH 0 l0) e0 Z.vals j) x with
     |some u=>match evo (bq bf (aH 0 l0) e0 Z.vals j) y with
      |some w=>some (⟨n,.drw l0 bf r base (Nat.succ j) e0 ⟨(j,some d,b)::Z.vals,Z.snaps,Z.chain,Z.fls,Z.lds⟩::fs,.norm,env,m⟩,.bin op e u w b)
      |none=>none
     |none=>none
    |_=>none
   |_=>none
 |_=>none
theorem BM{s s':Ms Ar}{b:Value}{o:Ob}(h:FQ s b=some (s',o))(ho:o.holds hook):s.den F clean hook=s'.den F clean hook:=by
 unfold FQ at h;split at h
 ·rename_i n fr fs env m;split at h
  ·rename_i g d op e x y l hrow;split at h
   ·rename_i hw;split at h
    ·rename_i u hu;split at h
     ·rename_i w hw2;injection h with h;injection h with h1 h2;subst h1;subst h2;have ho:bu op e u w=some b:=ho;show den F clean hook (fr::fs) n .norm env m=_;rw[lj hrow];show((aY (run F clean hook n) ((g,.pure d (.bin op e x y))::l) env m).bind fun r=>den F clean hook fs n .norm r.1 r.2)=_;simp only[aY,hw,bh,aw,hu,hw2,ho];rfl
     ·cases h
    ·cases h
   ·cases h
  ·cases h
  ·split at h
   ·rename_i l0 bf g d op e x y r base j e0 Z hrow;split at h
    ·rename_i hw;split at h
     ·rename_i u hu;split at h
      ·rename_i w hw2;injection h with h;injection h with h1 h2;subst h1;subst h2;have ho:bu op e u w=some b:=ho;show((d8 (run F clean hook n) bf base (aH 0 l0) e0 j ((g,.pure d (.bin op e x y))::r) Z).bind fun Z'=>(lz bf base e0 Z').bind fun r=>den F clean hook fs n .norm r.1 r.2)=((d8 (run F clean hook n) bf base (aH 0 l0) e0 (Nat.succ j) r _).bind fun Z'=>(lz bf base e0 Z').bind fun r=>den F clean hook fs n .norm r.1 r.2);have hk:ce (.pure d (.bin op e x y)) = .pure (.bin op e x y):=rfl;simp only[d8,dD,hw,hk,aw,hu,hw2,ho];rfl
      ·cases h
     ·cases h
    ·cases h
   ·cases h
 ·cases h
def D0(s:Ms Ar)(b:Value):Option (Ms Ar×Ob) :=
 match s with
 |⟨n,fr::fs,.norm,env,m⟩=>match tj fr with
  |some ((g,.pure d (.conv k x))::l)=>match wanted env g with
   |some true=>match evo env x with
    |some u=>some (⟨n,.ops l::fs,.norm,(d,b)::env,m⟩,.cv k u b)
    |none=>none
   |_=>none
  |_=>none
 |_=>none
theorem Dg{s s':Ms Ar}{b:Value}{o:Ob}(h:D0 s b=some (s',o))(ho:o.holds hook):s.den F clean hook=s'.den F clean hook:=by
 unfold D0 at h;split at h
 ·rename_i n fr fs env m;split at h
  ·rename_i g d k x l hrow;split at h
   ·rename_i hw;split at h
    ·rename_i u hu;injection h with h;injection h with h1 h2;subst h1;subst h2;have ho:FN k u=some b:=ho;show den F clean hook (fr::fs) n .norm env m=_;rw[lj hrow];show((aY (run F clean hook n) ((g,.pure d (.conv k x))::l) env m).bind fun r=>den F clean hook fs n .norm r.1 r.2)=_;unfold FN at ho;split at ho
     ·injection ho with ho;subst ho;simp only[aY,hw,bh,aw,hu];rfl
     ·cases ho
    ·cases h
   ·cases h
  ·cases h
 ·cases h
def FV(s:Ms Ar)(k:Nat):Option (Ms Ar×Ob) :=
 match s with
 |⟨n,fr::fs,.norm,env,m⟩=>match tj fr with
  |some ((g,.pure d (.lens x))::l)=>match wanted env g with
   |some true=>match evo env x with
    |some (.string u)=>some (⟨n,.ops l::fs,.norm,(d,.int .i64 (.ofNat k))::env,m⟩,.len u k)
    |_=>none
   |_=>none
  |_=>none
 |_=>none
theorem CM{s s':Ms Ar}{k:Nat}{o:Ob}(h:FV s k=some (s',o))(ho:o.holds hook):s.den F clean hook=s'.den F clean hook:=by
 unfold FV at h;split at h
 ·rename_i n fr fs env m;split at h
  ·rename_i g d x l hrow;split at h
   ·rename_i hw;split at h
    ·rename_i u hu;injection h with h;injection h with h1 h2;subst h1;subst h2;have ho:u.size=k:=ho;subst ho;show den F clean hook (fr::fs) n .norm env m=_;rw[lj hrow];show((aY (run F clean hook n) ((g,.pure d (.lens x))::l) env m).bind fun r=>den F clean hook fs n .norm r.1 r.2)=_;simp only[aY,hw,bh,aw,hu];rfl
    ·cases h
   ·cases h
  ·cases h
 ·cases h
def Fi(s:Ms Ar):Option (Ms Ar×Ob) :=
 match s with
 |⟨n,.drw _ bf [] base _ e0 Z::fs,.norm,_,_⟩=>match wq bf Z Z.lds with
  |some l=>match Z.snaps with
   |mu::_=>some (⟨n,fs,.norm,dh Z.vals++e0,bT base (Z.fls.filter fun f=>Z.chain.all fun c=>!bC bf f.1 c) mu⟩,.same l)
   |[]=>none
  |none=>none
 |_=>none
theorem CP{s s':Ms Ar}{o:Ob}(h:Fi s=some (s',o))(ho:o.holds hook):s.den F clean hook=s'.den F clean hook:=by
 unfold Fi at h;split at h
 ·rename_i n l0 bf base j e0 Z fs env m;split at h
  ·rename_i l hl;split at h
   ·rename_i mu ms hsn;injection h with h;injection h with h1 h2;subst h1;subst h2;have hh:=vH hl ho;show((d8 (run F clean hook n) bf base (aH 0 l0) e0 j [] Z).bind fun Z'=>(lz bf base e0 Z').bind fun r=>den F clean hook fs n .norm r.1 r.2)=_;simp only[d8,lz,hh,cond_true,hsn,bm];rfl
   ·cases h
  ·cases h
 ·cases h
variable (F clean hook)
def dV:List Act→Ms Ar→List Ob→Option (Ms Ar×List Ob)
 |[],s,l=>some (s,l)
 | .run n::r,s,l=>match bQ F clean hook n s with
  |some s'=>dV r s' l
  |none=>none
 | .call v x::r,s,l=>match Jx s v x with
  |some (s',o)=>dV r s' (o::l)
  |none=>none
 | .callR v x::r,s,l=>match Jn s v x with
  |some (s',o)=>dV r s' (o::l)
  |none=>none
 | .val b::r,s,l=>match FQ s b with
  |some (s',o)=>dV r s' (o::l)
  |none=>none
 | .len n::r,s,l=>match FV s n with
  |some (s',o)=>dV r s' (o::l)
  |none=>none
 | .cvt b::r,s,l=>match D0 s b with
  |some (s',o)=>dV r s' (o::l)
  |none=>none
 | .fin::r,s,l=>match Fi s with
  |some (s',o)=>dV r s' (o::l)
  |none=>none
variable {F clean hook}
theorem cZ:∀{acts:List Act} {s s':Ms Ar} {l l':List Ob},dV F clean hook acts s l=some (s',l')→iR hook l'→s.den F clean hook=s'.den F clean hook∧iR hook l
 |[],s,s',l,l',h,ho=>by
  injection h with h;injection h with h1 h2;subst h1;subst h2;exact⟨rfl,ho⟩
 | .run n::r,s,s',l,l',h,ho=>by
  simp only[dV] at h;split at h
  ·rename_i s1 h1;obtain⟨h2,h3⟩:=cZ h ho;exact⟨(aE h1).trans h2,h3⟩
  ·cases h
 | .call v x::r,s,s',l,l',h,ho=>by
  simp only[dV] at h;split at h
  ·rename_i s1 o h1;obtain⟨h2,h3⟩:=cZ h ho;exact⟨(CC h1 h3.1).trans h2,h3.2⟩
  ·cases h
 | .callR v x::r,s,s',l,l',h,ho=>by
  simp only[dV] at h;split at h
  ·rename_i s1 o h1;obtain⟨h2,h3⟩:=cZ h ho;exact⟨(Do h1 h3.1).trans h2,h3.2⟩
  ·cases h
 | .val b::r,s,s',l,l',h,ho=>by
  simp only[dV] at h;split at h
  ·rename_i s1 o h1;obtain⟨h2,h3⟩:=cZ h ho;exact⟨(BM h1 h3.1).trans h2,h3.2⟩
  ·cases h
 | .len b::r,s,s',l,l',h,ho=>by
  simp only[dV] at h;split at h
  ·rename_i s1 o h1;obtain⟨h2,h3⟩:=cZ h ho;exact⟨(CM h1 h3.1).trans h2,h3.2⟩
  ·cases h
 | .cvt b::r,s,s',l,l',h,ho=>by
  simp only[dV] at h;split at h
  ·rename_i s1 o h1;obtain⟨h2,h3⟩:=cZ h ho;exact⟨(Dg h1 h3.1).trans h2,h3.2⟩
  ·cases h
 | .fin::r,s,s',l,l',h,ho=>by
  simp only[dV] at h;split at h
  ·rename_i s1 o h1;obtain⟨h2,h3⟩:=cZ h ho;exact⟨(CP h1 h3.1).trans h2,h3.2⟩
  ·cases h
def eF(lv f:Nat)(vs:List Value)(h:Hp Ar):Ms Ar:=⟨lv,[.ops [(none,.call (some 0) (.c (.func (.func f) #[] #[])) (vs.map .c))]],.norm,[],⟨[],h.tbl,h.next⟩⟩
theorem EQ{env:LV}:∀vs:List Value,evs env (vs.map .c)=some vs
 |[]=>rfl
 |v::r=>by simp only[List.map_cons,evs,evo,EQ r]
theorem bU(lv f:Nat)(vs:List Value)(h:Hp Ar):(eF lv f vs h).den F clean hook=run F clean hook lv f vs h:=by
 show((aY (run F clean hook lv) [(none,.call (some 0) (.c (.func (.func f) #[] #[])) (vs.map .c))] [] ⟨[],h.tbl,h.next⟩).bind fun q=>(aa 0 q.1).map fun v=>(v,(⟨q.2.tbl,q.2.next⟩:Hp Ar)))=_;have he:(vs++(#[]:Array Value).toList)=vs:=List.append_nil vs;simp only[aY,wanted,bh,evo,EQ,he];obtain⟨tb,nx⟩:=h;dsimp only;cases run F clean hook lv f vs ⟨tb,nx⟩<;>rfl
variable (F clean hook)
def bp(acts:List Act)(lv f:Nat)(vs:List Value)(x:Ar):Option (Value×Ar×List Ob) :=
 match dV F clean hook acts (eF lv f vs ⟨[(0,.ext x)],1⟩) [] with
 |some (⟨_,[],_,env,m⟩,l)=>match aa 0 env with
  |some v=>match aa 0 m.tbl with
   |some (.ext x')=>some (v,x',l)
   |_=>none
  |none=>none
 |_=>none
variable {F clean hook}
theorem aC{acts:List Act}{lv f:Nat}{vs:List Value}{x x':Ar}{v:Value}{l:List Ob}(h:bp F clean hook acts lv f vs x=some (v,x',l))(ho:iR hook l):∃t n,run F clean hook lv f vs ⟨[(0,.ext x)],1⟩=some (v,⟨t,n⟩)∧aa 0 t=some (.ext x'):=by
 unfold bp at h;split at h
 ·rename_i lv' xx env m l' hs;split at h
  ·rename_i v1 hv;split at h
   ·rename_i x1 hx;injection h with h;injection h with h1 h2;injection h2 with h2 h3;subst h1;subst h2;subst h3;have hd:=(cZ hs ho).1;rw[bU] at hd;exact⟨m.tbl,m.next,hd.trans (Ms.a hv),hx⟩
   ·cases h
  ·cases h
 ·cases h
variable (F clean hook)
def eA(acts:List Act)(lv f:Nat)(vs:List Value):Option (Value×List Ob) :=
 match dV F clean hook acts (eF lv f vs ⟨[],0⟩) [] with
 |some (⟨_,[],_,env,_⟩,l)=>match aa 0 env with
  |some v=>some (v,l)
  |none=>none
 |_=>none
variable {F clean hook}
theorem cy{acts:List Act}{lv f:Nat}{vs:List Value}{v:Value}{l:List Ob}(h:eA F clean hook acts lv f vs=some (v,l))(ho:iR hook l):∃h',run F clean hook lv f vs ⟨[],0⟩=some (v,h'):=by
 unfold eA at h;split at h
 ·rename_i lv' xx env m l' hs;split at h
  ·rename_i v1 hv;injection h with h;injection h with h1 h2;subst h1;subst h2;have hd:=(cZ hs ho).1;rw[bU] at hd;exact⟨_,hd.trans (Ms.a hv)⟩
  ·cases h
 ·cases h
variable (F clean hook)
def aU(acts:List Act)(lv f:Nat)(vs:List Value)(x:Ar)(rr rb:List Value):Option (Value×Ar×List Value×List Value×List Ob) :=
 match dV F clean hook acts (eF lv f vs ⟨sm3 x rr rb,3⟩) [] with
 |some (⟨_,[],_,env,m⟩,l)=>match aa 0 env with
  |some v=>match aa 0 m.tbl,aa 1 m.tbl,aa 2 m.tbl with
   |some (.ext x'),some (.cells b'),some (.cells r')=>some (v,x',b',r',l)
   |_,_,_=>none
  |none=>none
 |_=>none
variable {F clean hook}
theorem av{acts:List Act}{lv f:Nat}{vs rr rb b' r':List Value}{x x':Ar}{v:Value}{l:List Ob}(h:aU F clean hook acts lv f vs x rr rb=some (v,x',b',r',l))(ho:iR hook l) :
  ∃t n,run F clean hook lv f vs ⟨sm3 x rr rb,3⟩=some (v,⟨t,n⟩)∧aa 0 t=some (.ext x')∧aa 1 t=some (.cells b')∧aa 2 t=some (.cells r'):=by
 unfold aU at h;split at h
 ·rename_i lv' xx env m l' hs;split at h
  ·rename_i v1 hv;split at h
   ·rename_i x1 b1 r1 hx hb hr;injection h with h;injection h with h1 h2;injection h2 with h2 h3;injection h3 with h3 h4;injection h4 with h4 h5;subst h1;subst h2;subst h3;subst h4;subst h5;have hd:=(cZ hs ho).1;rw[bU] at hd;exact⟨m.tbl,m.next,hd.trans (Ms.a hv),hx,hb,hr⟩
   ·cases h
  ·cases h
 ·cases h
theorem aX{lv f:Nat}{vs b r:List Value}{h:Hp Ar}{v v':Value}{x x':Ar}(hr:∃t n,run F clean hook lv f vs h=some (v,⟨t,n⟩)∧aa 0 t=some (.ext x)∧aa 1 t=some (.cells b)∧aa 2 t=some (.cells r))(hv:v=v')(hx:x=x'):∃t n,run F clean hook lv f vs h=some (v',⟨t,n⟩)∧aa 0 t=some (.ext x')∧aa 1 t=some (.cells b)∧aa 2 t=some (.cells r):=by
 subst hv;subst hx;exact hr
theorem fj{lv f:Nat}{vs:List Value}{h:Hp Ar}{v v':Value}(hr:∃h',run F clean hook lv f vs h=some (v,h'))(hv:v=v'):∃h',run F clean hook lv f vs h=some (v',h'):=by
 subst hv;exact hr
theorem bO{lv f:Nat}{vs:List Value}{h:Hp Ar}{v v':Value}{x x':Ar}(hr:∃t n,run F clean hook lv f vs h=some (v,⟨t,n⟩)∧aa 0 t=some (.ext x))(hv:v=v')(hx:x=x'):∃t n,run F clean hook lv f vs h=some (v',⟨t,n⟩)∧aa 0 t=some (.ext x'):=by
 subst hv;subst hx;exact hr
theorem aA{op:BinOp}{e:EqK}{u w:Value}{b c:Bool}(h1:bu op e u w=some (.bool c))(h2:c=b):bu op e u w=some (.bool b):=h2▸h1
end
end Go.AI
namespace Go.AI
abbrev vwC(a s:Int):Value:=.agg ⟨[pA,.int .i64 a,.int .i64 s]⟩
abbrev vW(a n:Nat):Value:=vwC (.ofNat a) (.ofNat n)
abbrev vwZ:Value:=.agg ⟨[.pointer none,i0 0,i0 0]⟩
abbrev jX(l:List UInt8):Value:=.string ⟨⟨l⟩⟩
abbrev fz(n:Nat):Value:=.int .u64 (Int.ofNat n)
def eO(m:Int):Bool:=bz m (.ofNat 1)||(bz m (.ofNat 2)||(bz m (.ofNat 4)||bz m (.ofNat 8)))
theorem rJ(n:Nat):eO (.ofNat n)=da n:=by
 simp only[eO,da,bz];cases Nat.beq n 1<;>cases Nat.beq n 2<;>cases Nat.beq n 4<;>cases Nat.beq n 8<;>rfl
def bA(x:Ar)(a n:Int):Nat:=match cE x.pages a n with
 |0=>0
 |_+1=>3
def qu(x:Ar):Int→Int→List UInt8
 | .ofNat a,.ofNat n=>match bd x.pages a n with
  |0=>dq x.pages (cP n) a n
  |_+1=>[]
 |_,_=>[]
theorem yE{x:Ar}{a n:Int}:fJ x [.int .i64 a,.int .i64 n]=some (.tuple ⟨[jX (qu x a n),ah (bA x a n)]⟩,x):=by
 cases a with
 |negSucc a=>rfl
 |ofNat a =>
  cases n with
  |negSucc n=>rfl
  |ofNat n =>
   simp only[fJ,qu,bA,cE];cases bd x.pages a n<;>rfl
def lK(x:Ar)(a n:Int):Nat:=bif eO n then bA x a n else 2
def de(x:Ar):Int→Int→Nat
 | .ofNat a,.ofNat n=>bif da n then(match bd x.pages a n with
  |0=>sA x.pages a n
  |_+1=>0) else 0
 |_,_=>0
theorem Cj{x:Ar}{a n:Int}:oS x [.int .i64 a,.int .i64 n]=some (.tuple ⟨[fz (de x a n),ah (lK x a n)]⟩,x):=by
 cases n with
 |negSucc n=>cases a<;>rfl
 |ofNat n =>
  simp only[oS,lK,rJ];cases hw:da n with
  |false=>cases a<;>simp[de,hw]
  |true =>
   cases a with
   |negSucc a=>rfl
   |ofNat a =>
    simp only[de,hw,cond_true,bA,cE];cases bd x.pages a n<;>rfl
def jd(x:Ar)(a n:Int)(v:Nat):Ar:=match a,n with
 | .ofNat a,.ofNat n=>bif da n then(match bd x.pages a n with
  |0=>⟨qZ x.pages a n v,x.armed,x.refuse⟩
  |_+1=>x) else x
 |_,_=>x
theorem xP{x:Ar}{a n:Int}{v:Nat}(hv:Nat.blt v 18446744073709551616=true):jb x [.int .i64 a,.int .i64 n,.int .u64 (.ofNat v)]=some (ah (lK x a n),jd x a n v):=by
 cases n with
 |negSucc n=>simp only[jb,hv,cond_true];cases a<;>rfl
 |ofNat n =>
  simp only[jb,lK,rJ,hv,cond_true];cases hw:da n with
  |false=>cases a<;>simp[jd,hw]
  |true =>
   cases a with
   |negSucc a=>rfl
   |ofNat a =>
    simp only[jd,hw,cond_true,bA,cE];cases bd x.pages a n<;>rfl
def Ae(x:Ar)(a n:Int)(b:Nat):Ar:=match a,n with
 | .ofNat a,.ofNat n=>match bd x.pages a n with
  |0=>⟨lL b (cP n) x.pages a n,x.armed,x.refuse⟩
  |_+1=>x
 |_,_=>x
theorem BT{x:Ar}{a n:Int}{b:Nat}(hb:Nat.blt b 256=true):oY x [.int .i64 a,.int .i64 n,.int .u8 (.ofNat b)]=some (ah (bA x a n),Ae x a n b):=by
 simp only[oY,hb,cond_true];cases a with
 |negSucc a=>rfl
 |ofNat a =>
  cases n with
  |negSucc n=>rfl
  |ofNat n =>
   simp only[Ae,bA,cE];cases bd x.pages a n<;>rfl
def Ig(x:Ar)(a:Int)(s:ByteArray):Ar:=match a with
 | .ofNat a=>match bd x.pages a s.data.toList.length with
  |0=>⟨pj (cP s.data.toList.length) x.pages a s.data.toList,x.armed,x.refuse⟩
  |_+1=>x
 |_=>x
theorem GS{x:Ar}{a:Int}{s:ByteArray}:po x [.int .i64 a,.string s]=some (ah (bA x a (.ofNat s.data.toList.length)),Ig x a s):=by
 cases a with
 |negSucc a=>rfl
 |ofNat a =>
  simp only[po,Ig,bA,cE];cases bd x.pages a s.data.toList.length<;>rfl
theorem yU{l:List (Option Nat)}:∀(c p:Nat),(∀i,i<c→∃P,bt l (p+i)=some P)→lu l p c=true
 |0,p,_=>rfl
 |c+1,p,h=>by
  obtain⟨P,hP⟩:=h 0 (by omega);rw[Nat.add_zero] at hP;simp only[lu,hP];exact yU c (p+1) fun i hi=>by
   obtain⟨Q,hQ⟩:=h (i+1) (by omega);exact⟨Q,by rw[← hQ];congr 1;omega⟩
theorem qz{l:List (Option Nat)}{a k:Nat}(h:There l a k):bd l a k=0:=by
 unfold bd;have h1:Nat.ble (Nat.add a k) (Nat.mul l.length 4096)=true:=by rw[Zk];exact h.1
 rw[h1,cond_true];rcases Nat.eq_zero_or_pos k with h0|h0
 ·subst h0;rfl
 ·have h2:Nat.beq k 0=false:=by rw[← Zl,Zg];omega
  have h3:lu l (a / 4096) ((a+k-1) / 4096-a / 4096+1)=true:=yU _ _ fun i hi=>h.2 h0 _ (by omega) (by
   have:a / 4096≤(a+k-1) / 4096:=Nat.div_le_div_right (by omega);omega)
  rw[h2,cond_false];show(bif lu l (a / 4096) ((a+k-1) / 4096-a / 4096+1) then 0 else 3)=0;rw[h3];rfl
theorem C9{l:List (Option Nat)}{a k b m:Nat}(ht:There l a k)(h1:b+m≤k):There l (a+b) m:=by
 refine⟨by have:=ht.1;omega,fun hm q q1 q2=>ht.2 (by omega) q ?_ ?_⟩
 ·exact ZE (Nat.div_le_div_right (by omega)) q1
 ·exact ZE q2 (Nat.div_le_div_right (by omega))
theorem bytesE_zero{x:Ar}{a k:Nat}:bA x (.ofNat a) (.ofNat k)=0↔bd x.pages a k=0:=by
 simp only[bA,cE];cases bd x.pages a k<;>simp
theorem lY{x:Ar}{a k b m:Nat}(h:bA x (.ofNat a) (.ofNat k)=0)(h1:b+m≤k):bA x (.ofNat (a+b)) (.ofNat m)=0 :=
 bytesE_zero.2 (qz (C9 (eo (bytesE_zero.1 h)) h1))
def f9(S:Ar→List Value→Option (Value×Ar)):Spec
 |x,.pointer (some ⟨0,0,none⟩)::r=>bif r.all fq then(match S x r with
  |some (v,x')=>bif fq v then some (v,x') else none
  |none=>none) else none
 |_,_=>none
theorem oO{P:Program}{W0:World}{Cls:Nat→Int→Prop}{hk:List (aK Ar)}(hok:∀y∈hk,aQ (a8 Cls) P W0 y.1 y.2){k:Nat}{S:Ar→List Value→Option (Value×Ar)}(hh:ab hk k=some (jG S)):aQ (a8 Cls) P W0 k (d6 (f9 S) fun _=>none):=by
 refine eJ (f7 hok) (fun x vs v x' hx hs=>?_) (fun _ _ _ h=>by cases h);unfold f9 at hs;split at hs
 ·rename_i r;cases hr:r.all fq with
  |false=>rw[hr] at hs;cases hs
  |true =>
   rw[hr,cond_true] at hs;split at hs
   ·rename_i v1 x1 h1;cases hp:fq v1 with
    |false=>rw[hp] at hs;cases hs
    |true =>
     rw[hp,cond_true] at hs;injection hs with hs;injection hs with e1 e2;subst e1;subst e2;refine⟨_,1,?_,(zS (t:=[(0,AObj.ext x)]) (i:=0) (o:=.ext x) (o':=.ext x1) rfl)⟩;have hq:Nat.blt x.refuse 9223372036854775808=true:=by rw[aD];exact Zh hx
     have hl:aa 0 [(0,AObj.ext x)]=some (AObj.ext x):=rfl;rw[hh];simp only[jG,hl,hr,hq,Bool.and_self,cond_true,h1,hp]
   ·cases hs
 ·cases hs
theorem qY{x:Ar}{a n:Int}:f9 fJ x [.pointer (some ⟨0,0,none⟩),.int .i64 a,.int .i64 n]=some (.tuple ⟨[jX (qu x a n),ah (bA x a n)]⟩,x):=by
 simp only[f9,yE];rfl
theorem Bs{x:Ar}{a n:Int}:f9 oS x [.pointer (some ⟨0,0,none⟩),.int .i64 a,.int .i64 n]=some (.tuple ⟨[fz (de x a n),ah (lK x a n)]⟩,x):=by
 simp only[f9,Cj];rfl
theorem yn{x:Ar}{a n:Int}{v:Nat}(hv:Nat.blt v 18446744073709551616=true):f9 jb x [.pointer (some ⟨0,0,none⟩),.int .i64 a,.int .i64 n,.int .u64 (.ofNat v)]=some (ah (lK x a n),jd x a n v):=by
 simp only[f9,xP hv];rfl
theorem BI{x:Ar}{a n:Int}{b:Nat}(hb:Nat.blt b 256=true):f9 oY x [.pointer (some ⟨0,0,none⟩),.int .i64 a,.int .i64 n,.int .u8 (.ofNat b)]=some (ah (bA x a n),Ae x a n b):=by
 simp only[f9,BT hb];rfl
theorem Fw{x:Ar}{a:Int}{s:ByteArray}:f9 po x [.pointer (some ⟨0,0,none⟩),.int .i64 a,.string s]=some (ah (bA x a (.ofNat s.data.toList.length)),Ig x a s):=by
 simp only[f9,GS];rfl
def fK(s b m:Int):Nat:=bif eY b (.ofNat 0)||(eY m (.ofNat 0)||(eY s m||eY (ai .i64 (s-m)) b)) then 3 else 0
def ep:Spec
 |x,[.agg ⟨[.pointer (some ⟨0,0,none⟩),.int .i64 _,.int .i64 s]⟩,.int .i64 b,.int .i64 m]=>some (ah (fK s b m),x)
 |_,_=>none
def nC:List Value→Option Nat
 |[]=>some 0
 | .int _ _::r=>(nC r).map Nat.succ
 |_=>none
def lC(n:Nat)(r:Value):List Value→Option Value
 | .agg ⟨[.pointer none,.int .i64 _,.int .i64 _]⟩::l=>match nC l with
  |some k=>bif Nat.beq k n then some r else none
  |none=>none
 |_=>none
def kg:Spec
 |x,[.agg ⟨[.pointer (some ⟨0,0,none⟩),.int .i64 _,.int .i64 _]⟩,.int .i64 m]=>some (ah (bif eO m then 0 else 2),x)
 |_,_=>none
def cz:Spec
 |x,[.agg ⟨[.pointer (some ⟨0,0,none⟩),.int .i64 a,.int .i64 s]⟩,.int .i64 b,.int .i64 m]=>bif eO m then(match fK s b m with
  |0=>some (.tuple ⟨[fz (de x (ai .i64 (a+b)) m),ah (lK x (ai .i64 (a+b)) m)]⟩,x)
  |e+1=>some (.tuple ⟨[fz 0,ah (e+1)]⟩,x)) else some (.tuple ⟨[fz 0,ah 2]⟩,x)
 |_,_=>none
def cU:Spec
 |x,[.agg ⟨[.pointer (some ⟨0,0,none⟩),.int .i64 a,.int .i64 s]⟩,.int .i64 b,.int .i64 m,.int .u64 (.ofNat v)]=>bif Nat.blt v 18446744073709551616 then(bif eO m then(match fK s b m with
  |0=>some (ah (lK x (ai .i64 (a+b)) m),jd x (ai .i64 (a+b)) m v)
  |e+1=>some (ah (e+1),x)) else some (ah 2,x)) else none
 |_,_=>none
def iX:Spec
 |x,[.agg ⟨[.pointer (some ⟨0,0,none⟩),.int .i64 a,.int .i64 s]⟩,.int .i64 b,.int .i64 m]=>match fK s b m with
  |0=>some (.tuple ⟨[jX (qu x (ai .i64 (a+b)) m),ah (bA x (ai .i64 (a+b)) m)]⟩,x)
  |e+1=>some (.tuple ⟨[jX [],ah (e+1)]⟩,x)
 |_,_=>none
def xO:Spec
 |x,[.agg ⟨[.pointer (some ⟨0,0,none⟩),.int .i64 a,.int .i64 s]⟩,.int .i64 b,.string t]=>match fK s b (.ofNat t.data.toList.length) with
  |0=>some (ah (bA x (ai .i64 (a+b)) (.ofNat t.data.toList.length)),Ig x (ai .i64 (a+b)) t)
  |e+1=>some (ah (e+1),x)
 |_,_=>none
def tZ:Spec
 |x,[.agg ⟨[.pointer (some ⟨0,0,none⟩),.int .i64 a,.int .i64 s]⟩,.int .i64 b,.int .i64 m,.int .u8 (.ofNat c)]=>bif Nat.blt c 256 then(match fK s b m with
  |0=>some (ah (bA x (ai .i64 (a+b)) m),Ae x (ai .i64 (a+b)) m c)
  |e+1=>some (ah (e+1),x)) else none
 |_,_=>none
def fa:Spec
 |x,[.pointer (some ⟨0,0,none⟩),.int .i64 a,.int .i64 s]=>match bA x a s with
  |0=>some (.tuple ⟨[vwC a s,ah 0]⟩,x)
  |e+1=>some (.tuple ⟨[vwZ,ah (e+1)]⟩,x)
 |_,_=>none
def nB:Spec
 |x,[.agg ⟨[.pointer (some ⟨0,0,none⟩),.int .i64 a,.int .i64 s]⟩,.int .i64 b,.int .i64 m]=>match fK s b m with
  |0=>fa x [pA,.int .i64 (ai .i64 (a+b)),.int .i64 m]
  |e+1=>some (.tuple ⟨[vwZ,ah (e+1)]⟩,x)
 |_,_=>none
end Go.AI
namespace Go.AI
open Go.Proofs
variable {W0:World}{Cls:Nat→Int→Prop}
abbrev RS(hk:List (aK Ar)):aP Ar:=run F1 ac (ab hk) 1000
abbrev RQ(hk:List (aK Ar))(f:Nat)(vs:List Value)(x:Ar)(rr rb:List Value)(v:Value)(x':Ar):Prop:=∃t n,RS hk f vs ⟨sm3 x rr rb,3⟩=some (v,⟨t,n⟩)∧aa 0 t=some (.ext x')∧aa 1 t=some (.cells (pA::rb))∧aa 2 t=some (.cells (pB::rr))
theorem eV{hk:List (aK Ar)}(h:∀y∈hk,aQ (a8 Cls) PZ W0 y.1 y.2):bR (a8 Cls) PZ W0 (RS hk):=eE (esc:=jR) j6 (f7 h) 1000
theorem gK{n:Nat}{r v:Value}{vs:List Value}(h:lC n r vs=some v):∃a b l,vs = .agg ⟨[.pointer none,.int .i64 a,.int .i64 b]⟩::l∧nC l=some n∧v=r:=by
 unfold lC at h;split at h
 ·rename_i a b l;split at h
  ·rename_i k hk;cases hn:Nat.beq k n with
   |false=>rw[hn] at h;cases h
   |true =>
    rw[hn,cond_true] at h;rw[Zg] at hn;injection h with h;subst hn;exact⟨a,b,l,rfl,hk,h.symm⟩
  ·cases h
 ·cases h
theorem NT{l:List Value}(h:nC l=some 1):∃k a,l=[.int k a]:=by
 match l,h with
 |[.int k a],_=>exact⟨k,a,rfl⟩
 | .int _ _::.int _ _::r,h=>simp[nC] at h
theorem AA{l:List Value}(h:nC l=some 2):∃k a j b,l=[.int k a,.int j b]:=by
 match l,h with
 |[.int k a,.int j b],_=>exact⟨k,a,j,b,rfl⟩
 | .int _ _::.int _ _::.int _ _::r,h=>simp[nC] at h
theorem Kh{l:List Value}(h:nC l=some 3):∃k a j b i c,l=[.int k a,.int j b,.int i c]:=by
 match l,h with
 |[.int k a,.int j b,.int i c],_=>exact⟨k,a,j,b,i,c,rfl⟩
 | .int _ _::.int _ _::.int _ _::.int _ _::r,h=>simp[nC] at h
def hAl:List (aK Ar):=(116,d6 (f9 fJ) (fun _=>none))::(96,d6 (f9 oS) (fun _=>none))::(82,d6 (f9 jb) (fun _=>none))::(80,d6 (f9 oY) (fun _=>none))::(127,d6 (f9 po) (fun _=>none))::(247,d6 (f9 zf) (fun _=>none))::(101,d6 (f9 Ji) (fun _=>none))::(102,d6 (f9 nq) (fun _=>none))::hAr
theorem ua:∀y∈hAl,aQ (a8 Cls) PZ W0 y.1 y.2 :=
 bk (E:=(a8 Cls)) (bk (E:=(a8 Cls)) (bk (E:=(a8 Cls)) (bk (E:=(a8 Cls)) (bk (E:=(a8 Cls)) (bk (E:=(a8 Cls)) (bk (E:=(a8 Cls)) (bk (E:=(a8 Cls)) (js) (oO js rfl)) (oO js rfl)) (oO js rfl)) (oO js rfl)) (oO js rfl)) (oO js rfl)) (oO js rfl)) (oO js rfl)
end Go.AI
namespace Go.AI
variable {x:Ar}
def lQ(o:Int):Int:=bif eY o (.ofNat 0)||eY (.ofNat 10) o then .ofNat 0 else match om .shl .i64 (.ofNat 4096) o with
 |some z=>z
 |none=>.ofNat 0
def tP:List Value→Option Value
 |[.int .i64 o]=>some (.int .i64 (lQ o))
 |_=>none
theorem kE{a b:Nat}(h:a<4611686018427387904)(hb:b<4294967296):ai .i64 (Int.ofNat a+Int.ofNat b)=Int.ofNat (a+b):=by
 rw[gA]
 ·rfl
 ·simp only[zO];omega
 ·simp only[zO];omega
theorem tC{a k b m:Nat}(h:bA x (.ofNat a) (.ofNat k)=0)(h1:b+m≤k)(hm:eO (.ofNat m)=true):lK x (.ofNat (a+b)) (.ofNat m)=0:=by
 simp only[lK,hm,cond_true,lY h h1]
theorem gJ{a s b m:Nat}(h:bA x (.ofNat a) (.ofNat s)=0)(ha:a<4611686018427387904)(hb:b<4294967296)(h1:b+m≤s)(hm:eO (.ofNat m)=true)(hv:fK (.ofNat s) (.ofNat b) (.ofNat m)=0) :
  cz x [vwC (.ofNat a) (.ofNat s),i0 b,i0 m]=some (.tuple ⟨[fz (de x (.ofNat (a+b)) (.ofNat m)),ah 0]⟩,x):=by
 simp only[cz,hm,cond_true,hv,kE ha hb,tC h h1 hm]
theorem A1{a s b m:Nat}(h:bA x (.ofNat a) (.ofNat s)=0)(ha:a<4611686018427387904)(hb:b<4294967296)(h1:b+m≤s)(hv:fK (.ofNat s) (.ofNat b) (.ofNat m)=0) :
  iX x [vwC (.ofNat a) (.ofNat s),i0 b,i0 m]=some (.tuple ⟨[jX (qu x (.ofNat (a+b)) (.ofNat m)),ah 0]⟩,x):=by
 simp only[iX,hv,kE ha hb,lY h h1]
theorem CS{a s b m v:Nat}(h:bA x (.ofNat a) (.ofNat s)=0)(ha:a<4611686018427387904)(hb:b<4294967296)(h1:b+m≤s)(hm:eO (.ofNat m)=true)(hv:fK (.ofNat s) (.ofNat b) (.ofNat m)=0)(hz:Nat.blt v 18446744073709551616=true) :
  cU x [vwC (.ofNat a) (.ofNat s),i0 b,i0 m,.int .u64 (.ofNat v)]=some (ah 0,jd x (.ofNat (a+b)) (.ofNat m) v):=by
 simp only[cU,hm,cond_true,hv,kE ha hb,tC h h1 hm,hz]
abbrev ckC(a o:Int)(w:Nat)(n:Int):Value:=.agg ⟨[.int .i64 a,.int .i64 o,.int .u64 (.ofNat w),.int .i64 n]⟩
abbrev ckZ:Value:=ckC (.ofNat 0) (.ofNat 0) 0 (.ofNat 0)
def mL(a l0:Nat)(o n:Int):Bool:=!bz (.ofNat l0) (.ofNat 1263421507)||(!bz (.ofNat (Nat.mod a 4096)) (.ofNat 0)||(bz (lQ o) (.ofNat 0)||eY n (.ofNat 0)))
def ckO(x:Ar)(a:Nat):Int:=ai .i64 (.ofNat (de x (.ofNat (a+4)) (.ofNat 4)))
def ckW(x:Ar)(a:Nat):Nat:=de x (.ofNat (a+8)) (.ofNat 8)
def ckN(x:Ar)(a:Nat):Int:=ai .i64 (.ofNat (de x (.ofNat (a+16)) (.ofNat 8)))
def ckE(x:Ar):Int→Nat
 | .negSucc _=>3
 | .ofNat a=>match bA x (.ofNat a) (.ofNat 32) with
  |e+1=>e+1
  |0=>bif mL a (de x (.ofNat (a+0)) (.ofNat 4)) (ckO x a) (ckN x a) then 7 else 0
def fx:Spec
 |x,[.pointer (some ⟨0,0,none⟩),.int .i64 (.negSucc _)]=>some (.tuple ⟨[ckZ,ah 3]⟩,x)
 |x,[.pointer (some ⟨0,0,none⟩),.int .i64 (.ofNat a)]=>match bA x (.ofNat a) (.ofNat 32) with
  |e+1=>some (.tuple ⟨[ckZ,ah (e+1)]⟩,x)
  |0=>bif Nat.blt a 4611686018427387904 then some (bif mL a (de x (.ofNat (a+0)) (.ofNat 4)) (ckO x a) (ckN x a) then .tuple ⟨[ckZ,ah 7]⟩ else .tuple ⟨[ckC (.ofNat a) (ckO x a) (ckW x a) (ckN x a),ah 0]⟩,x) else none
 |_,_=>none
end Go.AI
namespace Go.AI
open Go.Proofs
variable {W0:World}{Cls:Nat→Int→Prop}
theorem AX{x:Ar}{a s b m:Int}:bp F1 ac (ab hAl)
 [.run 16,.val (.bool true),.run 48]
 1000 79 [vwC a s,.int .i64 b,.int .i64 m] x=some ((vI 3),x,[.bin .lss .no (.int .i64 b) (vI 0) (.bool true)]):=by kernel_rfl
theorem Cg{x:Ar}{a s b m:Int}:bp F1 ac (ab hAl)
 [.run 16,.val (.bool false),.run 2,.val (.bool true),.run 48]
 1000 79 [vwC a s,.int .i64 b,.int .i64 m] x=some ((vI 3),x,[.bin .lss .no (.int .i64 m) (vI 0) (.bool true),.bin .lss .no (.int .i64 b) (vI 0) (.bool false)]):=by kernel_rfl
theorem Cd{x:Ar}{a s b m:Int}:bp F1 ac (ab hAl)
 [.run 16,.val (.bool false),.run 2,.val (.bool false),.run 5,.val (.bool true),.run 48]
 1000 79 [vwC a s,.int .i64 b,.int .i64 m] x=some ((vI 3),x,[.bin .gtr .no (.int .i64 m) (.int .i64 s) (.bool true),.bin .lss .no (.int .i64 m) (vI 0) (.bool false),.bin .lss .no (.int .i64 b) (vI 0) (.bool false)]):=by kernel_rfl
theorem Cb{x:Ar}{a s b m:Int}:bp F1 ac (ab hAl)
 [.run 16,.val (.bool false),.run 2,.val (.bool false),.run 5,.val (.bool false),.run 6,.val (.int .i64 (ai IntKind.i64 (s-m))),.val (.bool true),.run 16]
 1000 79 [vwC a s,.int .i64 b,.int .i64 m] x=some ((vI 3),x,[.bin .gtr .no (.int .i64 b) (.int .i64 (ai IntKind.i64 (s-m))) (.bool true),.bin .sub .no (.int .i64 s) (.int .i64 m) (.int .i64 (ai IntKind.i64 (s-m))),.bin .gtr .no (.int .i64 m) (.int .i64 s) (.bool false),.bin .lss .no (.int .i64 m) (vI 0) (.bool false),.bin .lss .no (.int .i64 b) (vI 0) (.bool false)]):=by kernel_rfl
theorem BW{x:Ar}{a s b m:Int}:bp F1 ac (ab hAl)
 [.run 16,.val (.bool false),.run 2,.val (.bool false),.run 5,.val (.bool false),.run 6,.val (.int .i64 (ai IntKind.i64 (s-m))),.val (.bool false),.run 16]
 1000 79 [vwC a s,.int .i64 b,.int .i64 m] x=some ((vI 0),x,[.bin .gtr .no (.int .i64 b) (.int .i64 (ai IntKind.i64 (s-m))) (.bool false),.bin .sub .no (.int .i64 s) (.int .i64 m) (.int .i64 (ai IntKind.i64 (s-m))),.bin .gtr .no (.int .i64 m) (.int .i64 s) (.bool false),.bin .lss .no (.int .i64 m) (vI 0) (.bool false),.bin .lss .no (.int .i64 b) (vI 0) (.bool false)]):=by kernel_rfl
theorem IK{x:Ar}{a s b m:Int}(_hx:x.refuse<9223372036854775808)  : ∃t nx,RS hAl 79 [vwC a s,.int .i64 b,.int .i64 m] ⟨[(0,.ext x)],1⟩=some (ah (fK s b m),⟨t,nx⟩)∧aa 0 t=some (.ext x):=by
 unfold fK;cases hb1:eY b (Int.ofNat 0) with
 |true =>
  refine bO (aC (AX (x:=x) (a:=a) (s:=s) (b:=b) (m:=m)) ?_) ?_ ?_
  ·repeat' first|exact trivial|assumption|exact aA rfl (by assumption)|exact⟨_,_,rfl,by first|assumption|rfl⟩|apply And.intro|rfl
  all_goals first|rfl|(simp only[cond_true, *,zT,cond_false]<;>rfl)
 |false =>
  cases hb2:eY m (Int.ofNat 0) with
  |true =>
   refine bO (aC (Cg (x:=x) (a:=a) (s:=s) (b:=b) (m:=m)) ?_) ?_ ?_
   ·repeat' first|exact trivial|assumption|exact aA rfl (by assumption)|exact⟨_,_,rfl,by first|assumption|rfl⟩|apply And.intro|rfl
   all_goals first|rfl|(simp only[cond_true, *,zT,cond_false]<;>rfl)
  |false =>
   cases hb3:eY s m with
   |true =>
    refine bO (aC (Cd (x:=x) (a:=a) (s:=s) (b:=b) (m:=m)) ?_) ?_ ?_
    ·repeat' first|exact trivial|assumption|exact aA rfl (by assumption)|exact⟨_,_,rfl,by first|assumption|rfl⟩|apply And.intro|rfl
    all_goals first|rfl|(simp only[cond_true, *,zT,cond_false]<;>rfl)
   |false =>
    cases hb4:eY (ai IntKind.i64 (s-m)) b with
    |true =>
     refine bO (aC (Cb (x:=x) (a:=a) (s:=s) (b:=b) (m:=m)) ?_) ?_ ?_
     ·repeat' first|exact trivial|assumption|exact aA rfl (by assumption)|exact⟨_,_,rfl,by first|assumption|rfl⟩|apply And.intro|rfl
     all_goals first|rfl|(simp only[cond_true, *,zT,cond_false]<;>rfl)
    |false =>
     refine bO (aC (BW (x:=x) (a:=a) (s:=s) (b:=b) (m:=m)) ?_) ?_ ?_
     ·repeat' first|exact trivial|assumption|exact aA rfl (by assumption)|exact⟨_,_,rfl,by first|assumption|rfl⟩|apply And.intro|rfl
     all_goals first|rfl|(simp only[cond_true, *,zT,cond_false]<;>rfl)
theorem Ht{x x':Ar}{vs:List Value}{v:Value}(hx:x.refuse<9223372036854775808)(hs:ep x vs=some (v,x')):∃t n,RS hAl 79 vs ⟨[(0,.ext x)],1⟩=some (v,⟨t,n⟩)∧aa 0 t=some (.ext x'):=by
 unfold ep at hs;split at hs
 ·injection hs with hs;injection hs with h1 h2;subst h1;subst h2;exact IK hx
 ·cases hs
theorem Bc{p q a b:Int}{k1 k2:IntKind}:eA F1 ac (ab hAl)
 [.run 48]
 1000 79 [.agg ⟨[.pointer none,.int .i64 p,.int .i64 q]⟩,.int k1 a,.int k2 b]=some ((vI 1),[]):=by kernel_rfl
theorem Hc{p q a b:Int}{k1 k2:IntKind}  : ∃h',RS hAl 79 [.agg ⟨[.pointer none,.int .i64 p,.int .i64 q]⟩,.int k1 a,.int k2 b] ⟨[],0⟩=some (ah 1,h'):=by
 refine fj (cy (Bc (p:=p) (q:=q) (a:=a) (b:=b) (k1:=k1) (k2:=k2)) ?_) ?_
 ·repeat' first|exact trivial|assumption|exact aA rfl (by assumption)|exact⟨_,_,rfl,by first|assumption|rfl⟩|apply And.intro|rfl
 ·first|rfl|(simp only[cond_true, *,zT,cond_false]<;>rfl)
theorem HI{vs:List Value}{v:Value}(hs:lC 2 (ah 1) vs=some v):∃h',RS hAl 79 vs ⟨[],0⟩=some (v,h'):=by
 obtain⟨p,q,l,rfl,hl,rfl⟩:=gK hs;obtain⟨_,_,_,_,rfl⟩:=AA hl;exact Hc
theorem C3{x:Ar}{a s m:Int}:bp F1 ac (ab hAl)
 [.run 17,.val (.bool true),.run 16]
 1000 81 [vwC a s,.int .i64 m] x=some ((vI 0),x,[.bin .eql .no (.int .i64 m) (vI 1) (.bool true)]):=by kernel_rfl
theorem BA{x:Ar}{a s m:Int}:bp F1 ac (ab hAl)
 [.run 17,.val (.bool false),.run 5,.val (.bool true),.run 16]
 1000 81 [vwC a s,.int .i64 m] x=some ((vI 0),x,[.bin .eql .no (.int .i64 m) (vI 2) (.bool true),.bin .eql .no (.int .i64 m) (vI 1) (.bool false)]):=by kernel_rfl
theorem Co{x:Ar}{a s m:Int}:bp F1 ac (ab hAl)
 [.run 17,.val (.bool false),.run 5,.val (.bool false),.run 5,.val (.bool true),.run 16]
 1000 81 [vwC a s,.int .i64 m] x=some ((vI 0),x,[.bin .eql .no (.int .i64 m) (vI 4) (.bool true),.bin .eql .no (.int .i64 m) (vI 2) (.bool false),.bin .eql .no (.int .i64 m) (vI 1) (.bool false)]):=by kernel_rfl
theorem C2{x:Ar}{a s m:Int}:bp F1 ac (ab hAl)
 [.run 17,.val (.bool false),.run 5,.val (.bool false),.run 5,.val (.bool false),.run 4,.val (.bool true),.run 16]
 1000 81 [vwC a s,.int .i64 m] x=some ((vI 0),x,[.bin .eql .no (.int .i64 m) (vI 8) (.bool true),.bin .eql .no (.int .i64 m) (vI 4) (.bool false),.bin .eql .no (.int .i64 m) (vI 2) (.bool false),.bin .eql .no (.int .i64 m) (vI 1) (.bool false)]):=by kernel_rfl
theorem Cv{x:Ar}{a s m:Int}:bp F1 ac (ab hAl)
 [.run 17,.val (.bool false),.run 5,.val (.bool false),.run 5,.val (.bool false),.run 4,.val (.bool false),.run 16]
 1000 81 [vwC a s,.int .i64 m] x=some ((vI 2),x,[.bin .eql .no (.int .i64 m) (vI 8) (.bool false),.bin .eql .no (.int .i64 m) (vI 4) (.bool false),.bin .eql .no (.int .i64 m) (vI 2) (.bool false),.bin .eql .no (.int .i64 m) (vI 1) (.bool false)]):=by kernel_rfl
theorem Ia{x:Ar}{a s m:Int}(_hx:x.refuse<9223372036854775808)  : ∃t nx,RS hAl 81 [vwC a s,.int .i64 m] ⟨[(0,.ext x)],1⟩=some (ah (bif eO m then 0 else 2),⟨t,nx⟩)∧aa 0 t=some (.ext x):=by
 unfold eO;cases hb1:bz m (Int.ofNat 1) with
 |true =>
  refine bO (aC (C3 (x:=x) (a:=a) (s:=s) (m:=m)) ?_) ?_ ?_
  ·repeat' first|exact trivial|assumption|exact aA rfl (by assumption)|exact⟨_,_,rfl,by first|assumption|rfl⟩|apply And.intro|rfl
  all_goals first|rfl|(simp only[cond_true, *,zT,cond_false]<;>rfl)
 |false =>
  cases hb2:bz m (Int.ofNat 2) with
  |true =>
   refine bO (aC (BA (x:=x) (a:=a) (s:=s) (m:=m)) ?_) ?_ ?_
   ·repeat' first|exact trivial|assumption|exact aA rfl (by assumption)|exact⟨_,_,rfl,by first|assumption|rfl⟩|apply And.intro|rfl
   all_goals first|rfl|(simp only[cond_true, *,zT,cond_false]<;>rfl)
  |false =>
   cases hb3:bz m (Int.ofNat 4) with
   |true =>
    refine bO (aC (Co (x:=x) (a:=a) (s:=s) (m:=m)) ?_) ?_ ?_
    ·repeat' first|exact trivial|assumption|exact aA rfl (by assumption)|exact⟨_,_,rfl,by first|assumption|rfl⟩|apply And.intro|rfl
    all_goals first|rfl|(simp only[cond_true, *,zT,cond_false]<;>rfl)
   |false =>
    cases hb4:bz m (Int.ofNat 8) with
    |true =>
     refine bO (aC (C2 (x:=x) (a:=a) (s:=s) (m:=m)) ?_) ?_ ?_
     ·repeat' first|exact trivial|assumption|exact aA rfl (by assumption)|exact⟨_,_,rfl,by first|assumption|rfl⟩|apply And.intro|rfl
     all_goals first|rfl|(simp only[cond_true, *,zT,cond_false]<;>rfl)
    |false =>
     refine bO (aC (Cv (x:=x) (a:=a) (s:=s) (m:=m)) ?_) ?_ ?_
     ·repeat' first|exact trivial|assumption|exact aA rfl (by assumption)|exact⟨_,_,rfl,by first|assumption|rfl⟩|apply And.intro|rfl
     all_goals first|rfl|(simp only[cond_true, *,zT,cond_false]<;>rfl)
theorem Ir{x x':Ar}{vs:List Value}{v:Value}(hx:x.refuse<9223372036854775808)(hs:kg x vs=some (v,x')):∃t n,RS hAl 81 vs ⟨[(0,.ext x)],1⟩=some (v,⟨t,n⟩)∧aa 0 t=some (.ext x'):=by
 unfold kg at hs;split at hs
 ·injection hs with hs;injection hs with h1 h2;subst h1;subst h2;exact Ia hx
 ·cases hs
theorem Dj{p q a:Int}{k1:IntKind}:eA F1 ac (ab hAl)
 [.run 48]
 1000 81 [.agg ⟨[.pointer none,.int .i64 p,.int .i64 q]⟩,.int k1 a]=some ((vI 1),[]):=by kernel_rfl
theorem IX{p q a:Int}{k1:IntKind}  : ∃h',RS hAl 81 [.agg ⟨[.pointer none,.int .i64 p,.int .i64 q]⟩,.int k1 a] ⟨[],0⟩=some (ah 1,h'):=by
 refine fj (cy (Dj (p:=p) (q:=q) (a:=a) (k1:=k1)) ?_) ?_
 ·repeat' first|exact trivial|assumption|exact aA rfl (by assumption)|exact⟨_,_,rfl,by first|assumption|rfl⟩|apply And.intro|rfl
 ·first|rfl|(simp only[cond_true, *,zT,cond_false]<;>rfl)
theorem HJ{vs:List Value}{v:Value}(hs:lC 1 (ah 1) vs=some v):∃h',RS hAl 81 vs ⟨[],0⟩=some (v,h'):=by
 obtain⟨p,q,l,rfl,hl,rfl⟩:=gK hs;obtain⟨_,_,rfl⟩:=NT hl;exact IX
theorem Lu{x:Ar}{a s:Int}{bs:List UInt8}{E:Nat}:bp F1 ac (ab hAl)
 [.run 10,.call (vT [.string (.mk (.mk (bs))),vI E]) x,.run 8,.val (.bool true),.run 16]
 1000 69 [pA,.int .i64 a,.int .i64 s] x=some ((vT [vA [.pointer none,vI 0,vI 0],vI E]),x,[.bin .neq .no (vI E) (vI 0) (.bool true),.call 116 x [pA,.int .i64 a,.int .i64 s] (vT [.string (.mk (.mk (bs))),vI E]) x]):=by kernel_rfl
theorem K9{x:Ar}{a s:Int}{bs:List UInt8}{E:Nat}:bp F1 ac (ab hAl)
 [.run 10,.call (vT [.string (.mk (.mk (bs))),vI E]) x,.run 8,.val (.bool false),.run 16]
 1000 69 [pA,.int .i64 a,.int .i64 s] x=some ((vK (vA [pA,.int .i64 a,.int .i64 s])),x,[.bin .neq .no (vI E) (vI 0) (.bool false),.call 116 x [pA,.int .i64 a,.int .i64 s] (vT [.string (.mk (.mk (bs))),vI E]) x]):=by kernel_rfl
theorem Ql{x:Ar}{a s:Int}{bs:List UInt8}{E:Nat}(hx:x.refuse<9223372036854775808)(hA:f9 fJ x [pA,.int .i64 a,.int .i64 s]=some (.tuple ⟨[jX bs,ah E]⟩,x)):∃t nx,RS hAl 69 [pA,.int .i64 a,.int .i64 s] ⟨[(0,.ext x)],1⟩=some (bif !bz (.ofNat E) (.ofNat 0) then .tuple ⟨[vwZ,ah E]⟩ else .tuple ⟨[vwC a s,ah 0]⟩,⟨t,nx⟩)∧aa 0 t=some (.ext x):=by
 cases hb1:!bz (Int.ofNat E) (Int.ofNat 0) with
 |true =>
  refine bO (aC (Lu (x:=x) (a:=a) (s:=s) (bs:=bs) (E:=E)) ?_) ?_ ?_
  ·repeat' first|exact trivial|assumption|exact aA rfl (by assumption)|exact⟨_,_,rfl,by first|assumption|rfl⟩|apply And.intro|rfl
  all_goals first|rfl|(simp only[cond_true, *,zT,cond_false]<;>rfl)
 |false =>
  refine bO (aC (K9 (x:=x) (a:=a) (s:=s) (bs:=bs) (E:=E)) ?_) ?_ ?_
  ·repeat' first|exact trivial|assumption|exact aA rfl (by assumption)|exact⟨_,_,rfl,by first|assumption|rfl⟩|apply And.intro|rfl
  all_goals first|rfl|(simp only[cond_true, *,zT,cond_false]<;>rfl)
theorem PU{x x':Ar}{vs:List Value}{v:Value}(hx:x.refuse<9223372036854775808)(hs:fa x vs=some (v,x')):∃t n,RS hAl 69 vs ⟨[(0,.ext x)],1⟩=some (v,⟨t,n⟩)∧aa 0 t=some (.ext x'):=by
 unfold fa at hs;split at hs
 ·rename_i a s;have h:=Ql hx (qY (x:=x) (a:=a) (n:=s));cases hc:bA x a s with
  |zero=>rw[hc] at hs h;injection hs with hs;injection hs with h1 h2;subst h1;subst h2;exact h
  |succ e=>rw[hc] at hs h;injection hs with hs;injection hs with h1 h2;subst h1;subst h2;exact h
 ·cases hs
def hV0:List (aK Ar):=(79,d6 ep (lC 2 (ah 1)))::(81,d6 kg (lC 1 (ah 1)))::(69,d6 fa (fun _=>none))::hAl
theorem nL:∀y∈hV0,aQ (a8 Cls) PZ W0 y.1 y.2 :=
 bk (E:=(a8 Cls)) (bk (E:=(a8 Cls)) (bk (E:=(a8 Cls)) (ua) (eJ (eV ua) (fun _ _ _ _ hx hs=>PU hx hs) (fun _ _ _ hs=>by cases hs))) (eJ (eV ua) (fun _ _ _ _ hx hs=>Ir hx hs) (fun _ _ _ hs=>HJ hs))) (eJ (eV ua) (fun _ _ _ _ hx hs=>Ht hx hs) (fun _ _ _ hs=>HI hs))
end Go.AI
namespace Go.AI
open Go.Proofs
variable {W0:World}{Cls:Nat→Int→Prop}
theorem GC{x:Ar}{a s b m:Int}{W:Nat}:bp F1 ac (ab hV0)
 [.run 10,.call (vI W) x,.run 4,.val (.bool true),.run 16]
 1000 56 [vwC a s,.int .i64 b,.int .i64 m] x=some ((vT [vU 0,vI W]),x,[.bin .neq .no (vI W) (vI 0) (.bool true),.call 81 x [vA [pA,.int .i64 a,.int .i64 s],.int .i64 m] (vI W) x]):=by kernel_rfl
theorem Er{x:Ar}{a s b m:Int}{W C:Nat}:bp F1 ac (ab hV0)
 [.run 10,.call (vI W) x,.run 4,.val (.bool false),.run 8,.call (vI C) x,.run 4,.val (.bool true),.run 16]
 1000 56 [vwC a s,.int .i64 b,.int .i64 m] x=some ((vT [vU 0,vI C]),x,[.bin .neq .no (vI C) (vI 0) (.bool true),.call 79 x [vA [pA,.int .i64 a,.int .i64 s],.int .i64 b,.int .i64 m] (vI C) x,.bin .neq .no (vI W) (vI 0) (.bool false),.call 81 x [vA [pA,.int .i64 a,.int .i64 s],.int .i64 m] (vI W) x]):=by kernel_rfl
theorem GG{x:Ar}{a s b m:Int}{W C V E:Nat}:bp F1 ac (ab hV0)
 [.run 10,.call (vI W) x,.run 4,.val (.bool false),.run 8,.call (vI C) x,.run 4,.val (.bool false),.run 9,.val (.int .i64 (ai IntKind.i64 (a+b))),.run 1,.call (vT [vU V,vI E]) x,.run 16]
 1000 56 [vwC a s,.int .i64 b,.int .i64 m] x=some ((vT [vU V,vI E]),x,[.call 96 x [pA,.int .i64 (ai IntKind.i64 (a+b)),.int .i64 m] (vT [vU V,vI E]) x,.bin .add .no (.int .i64 a) (.int .i64 b) (.int .i64 (ai IntKind.i64 (a+b))),.bin .neq .no (vI C) (vI 0) (.bool false),.call 79 x [vA [pA,.int .i64 a,.int .i64 s],.int .i64 b,.int .i64 m] (vI C) x,.bin .neq .no (vI W) (vI 0) (.bool false),.call 81 x [vA [pA,.int .i64 a,.int .i64 s],.int .i64 m] (vI W) x]):=by kernel_rfl
theorem Ld{x:Ar}{a s b m:Int}{W C V E:Nat}(hx:x.refuse<9223372036854775808)(hW:kg x [vwC a s,.int .i64 m]=some (ah W,x))(hC:ep x [vwC a s,.int .i64 b,.int .i64 m]=some (ah C,x))(hA:f9 oS x [pA,.int .i64 (ai .i64 (a+b)),.int .i64 m]=some (.tuple ⟨[fz V,ah E]⟩,x)):∃t nx,RS hV0 56 [vwC a s,.int .i64 b,.int .i64 m] ⟨[(0,.ext x)],1⟩=some (bif !bz (.ofNat W) (.ofNat 0) then .tuple ⟨[fz 0,ah W]⟩ else bif !bz (.ofNat C) (.ofNat 0) then .tuple ⟨[fz 0,ah C]⟩ else .tuple ⟨[fz V,ah E]⟩,⟨t,nx⟩)∧aa 0 t=some (.ext x):=by
 cases hb1:!bz (Int.ofNat W) (Int.ofNat 0) with
 |true =>
  refine bO (aC (GC (x:=x) (a:=a) (s:=s) (b:=b) (m:=m) (W:=W)) ?_) ?_ ?_
  ·repeat' first|exact trivial|assumption|exact aA rfl (by assumption)|exact⟨_,_,rfl,by first|assumption|rfl⟩|apply And.intro|rfl
  all_goals first|rfl|(simp only[cond_true, *,zT,cond_false]<;>rfl)
 |false =>
  cases hb2:!bz (Int.ofNat C) (Int.ofNat 0) with
  |true =>
   refine bO (aC (Er (x:=x) (a:=a) (s:=s) (b:=b) (m:=m) (W:=W) (C:=C)) ?_) ?_ ?_
   ·repeat' first|exact trivial|assumption|exact aA rfl (by assumption)|exact⟨_,_,rfl,by first|assumption|rfl⟩|apply And.intro|rfl
   all_goals first|rfl|(simp only[cond_true, *,zT,cond_false]<;>rfl)
  |false =>
   refine bO (aC (GG (x:=x) (a:=a) (s:=s) (b:=b) (m:=m) (W:=W) (C:=C) (V:=V) (E:=E)) ?_) ?_ ?_
   ·repeat' first|exact trivial|assumption|exact aA rfl (by assumption)|exact⟨_,_,rfl,by first|assumption|rfl⟩|apply And.intro|rfl
   all_goals first|rfl|(simp only[cond_true, *,zT,cond_false]<;>rfl)
theorem A2{x:Ar}{a s b m:Int}{z W:Nat}:bp F1 ac (ab hV0)
 [.run 9,.call (vI W) x,.run 4,.val (.bool true),.run 16]
 1000 42 [vwC a s,.int .i64 b,.int .i64 m,.int .u64 (.ofNat z)] x=some ((vI W),x,[.bin .neq .no (vI W) (vI 0) (.bool true),.call 81 x [vA [pA,.int .i64 a,.int .i64 s],.int .i64 m] (vI W) x]):=by kernel_rfl
theorem Br{x:Ar}{a s b m:Int}{z W C:Nat}:bp F1 ac (ab hV0)
 [.run 9,.call (vI W) x,.run 4,.val (.bool false),.run 8,.call (vI C) x,.run 4,.val (.bool true),.run 16]
 1000 42 [vwC a s,.int .i64 b,.int .i64 m,.int .u64 (.ofNat z)] x=some ((vI C),x,[.bin .neq .no (vI C) (vI 0) (.bool true),.call 79 x [vA [pA,.int .i64 a,.int .i64 s],.int .i64 b,.int .i64 m] (vI C) x,.bin .neq .no (vI W) (vI 0) (.bool false),.call 81 x [vA [pA,.int .i64 a,.int .i64 s],.int .i64 m] (vI W) x]):=by kernel_rfl
theorem BS{x X:Ar}{a s b m:Int}{z W C E:Nat}:bp F1 ac (ab hV0)
 [.run 9,.call (vI W) x,.run 4,.val (.bool false),.run 8,.call (vI C) x,.run 4,.val (.bool false),.run 9,.val (.int .i64 (ai IntKind.i64 (a+b))),.run 2,.call (vI E) X,.run 16]
 1000 42 [vwC a s,.int .i64 b,.int .i64 m,.int .u64 (.ofNat z)] x=some ((vI E),X,[.call 82 x [pA,.int .i64 (ai IntKind.i64 (a+b)),.int .i64 m,vU z] (vI E) X,.bin .add .no (.int .i64 a) (.int .i64 b) (.int .i64 (ai IntKind.i64 (a+b))),.bin .neq .no (vI C) (vI 0) (.bool false),.call 79 x [vA [pA,.int .i64 a,.int .i64 s],.int .i64 b,.int .i64 m] (vI C) x,.bin .neq .no (vI W) (vI 0) (.bool false),.call 81 x [vA [pA,.int .i64 a,.int .i64 s],.int .i64 m] (vI W) x]):=by kernel_rfl
theorem HH{x X:Ar}{a s b m:Int}{z W C E:Nat}(hx:x.refuse<9223372036854775808)(hW:kg x [vwC a s,.int .i64 m]=some (ah W,x))(hC:ep x [vwC a s,.int .i64 b,.int .i64 m]=some (ah C,x))(hA:f9 jb x [pA,.int .i64 (ai .i64 (a+b)),.int .i64 m,.int .u64 (.ofNat z)]=some (ah E,X)):∃t nx,RS hV0 42 [vwC a s,.int .i64 b,.int .i64 m,.int .u64 (.ofNat z)] ⟨[(0,.ext x)],1⟩=some (bif !bz (.ofNat W) (.ofNat 0) then ah W else bif !bz (.ofNat C) (.ofNat 0) then ah C else ah E,⟨t,nx⟩)∧aa 0 t=some (.ext (bif !bz (.ofNat W) (.ofNat 0) then x else bif !bz (.ofNat C) (.ofNat 0) then x else X)):=by
 cases hb1:!bz (Int.ofNat W) (Int.ofNat 0) with
 |true =>
  refine bO (aC (A2 (x:=x) (a:=a) (s:=s) (b:=b) (m:=m) (z:=z) (W:=W)) ?_) ?_ ?_
  ·repeat' first|exact trivial|assumption|exact aA rfl (by assumption)|exact⟨_,_,rfl,by first|assumption|rfl⟩|apply And.intro|rfl
  all_goals first|rfl|(simp only[cond_true, *,zT,cond_false]<;>rfl)
 |false =>
  cases hb2:!bz (Int.ofNat C) (Int.ofNat 0) with
  |true =>
   refine bO (aC (Br (x:=x) (a:=a) (s:=s) (b:=b) (m:=m) (z:=z) (W:=W) (C:=C)) ?_) ?_ ?_
   ·repeat' first|exact trivial|assumption|exact aA rfl (by assumption)|exact⟨_,_,rfl,by first|assumption|rfl⟩|apply And.intro|rfl
   all_goals first|rfl|(simp only[cond_true, *,zT,cond_false]<;>rfl)
  |false =>
   refine bO (aC (BS (x:=x) (X:=X) (a:=a) (s:=s) (b:=b) (m:=m) (z:=z) (W:=W) (C:=C) (E:=E)) ?_) ?_ ?_
   ·repeat' first|exact trivial|assumption|exact aA rfl (by assumption)|exact⟨_,_,rfl,by first|assumption|rfl⟩|apply And.intro|rfl
   all_goals first|rfl|(simp only[cond_true, *,zT,cond_false]<;>rfl)
theorem Bl{x:Ar}{a s b m:Int}{C:Nat}:bp F1 ac (ab hV0)
 [.run 11,.call (vI C) x,.run 4,.val (.bool true),.run 16]
 1000 131 [vwC a s,.int .i64 b,.int .i64 m] x=some ((vT [.string (.mk (.mk [])),vI C]),x,[.bin .neq .no (vI C) (vI 0) (.bool true),.call 79 x [vA [pA,.int .i64 a,.int .i64 s],.int .i64 b,.int .i64 m] (vI C) x]):=by kernel_rfl
theorem CB{x:Ar}{a s b m:Int}{bs:List UInt8}{C E:Nat}:bp F1 ac (ab hV0)
 [.run 11,.call (vI C) x,.run 4,.val (.bool false),.run 9,.val (.int .i64 (ai IntKind.i64 (a+b))),.run 1,.call (vT [.string (.mk (.mk (bs))),vI E]) x,.run 16]
 1000 131 [vwC a s,.int .i64 b,.int .i64 m] x=some ((vT [.string (.mk (.mk (bs))),vI E]),x,[.call 116 x [pA,.int .i64 (ai IntKind.i64 (a+b)),.int .i64 m] (vT [.string (.mk (.mk (bs))),vI E]) x,.bin .add .no (.int .i64 a) (.int .i64 b) (.int .i64 (ai IntKind.i64 (a+b))),.bin .neq .no (vI C) (vI 0) (.bool false),.call 79 x [vA [pA,.int .i64 a,.int .i64 s],.int .i64 b,.int .i64 m] (vI C) x]):=by kernel_rfl
theorem Hi{x:Ar}{a s b m:Int}{bs:List UInt8}{C E:Nat}(hx:x.refuse<9223372036854775808)(hC:ep x [vwC a s,.int .i64 b,.int .i64 m]=some (ah C,x))(hA:f9 fJ x [pA,.int .i64 (ai .i64 (a+b)),.int .i64 m]=some (.tuple ⟨[jX bs,ah E]⟩,x)):∃t nx,RS hV0 131 [vwC a s,.int .i64 b,.int .i64 m] ⟨[(0,.ext x)],1⟩=some (bif !bz (.ofNat C) (.ofNat 0) then .tuple ⟨[jX [],ah C]⟩ else .tuple ⟨[jX bs,ah E]⟩,⟨t,nx⟩)∧aa 0 t=some (.ext x):=by
 cases hb1:!bz (Int.ofNat C) (Int.ofNat 0) with
 |true =>
  refine bO (aC (Bl (x:=x) (a:=a) (s:=s) (b:=b) (m:=m) (C:=C)) ?_) ?_ ?_
  ·repeat' first|exact trivial|assumption|exact aA rfl (by assumption)|exact⟨_,_,rfl,by first|assumption|rfl⟩|apply And.intro|rfl
  all_goals first|rfl|(simp only[cond_true, *,zT,cond_false]<;>rfl)
 |false =>
  refine bO (aC (CB (x:=x) (a:=a) (s:=s) (b:=b) (m:=m) (bs:=bs) (C:=C) (E:=E)) ?_) ?_ ?_
  ·repeat' first|exact trivial|assumption|exact aA rfl (by assumption)|exact⟨_,_,rfl,by first|assumption|rfl⟩|apply And.intro|rfl
  all_goals first|rfl|(simp only[cond_true, *,zT,cond_false]<;>rfl)
theorem Ge{x:Ar}{a s b m:Int}{z C:Nat}:bp F1 ac (ab hV0)
 [.run 10,.call (vI C) x,.run 4,.val (.bool true),.run 16]
 1000 41 [vwC a s,.int .i64 b,.int .i64 m,.int .u8 (.ofNat z)] x=some ((vI C),x,[.bin .neq .no (vI C) (vI 0) (.bool true),.call 79 x [vA [pA,.int .i64 a,.int .i64 s],.int .i64 b,.int .i64 m] (vI C) x]):=by kernel_rfl
theorem Fp{x X:Ar}{a s b m:Int}{z C E:Nat}:bp F1 ac (ab hV0)
 [.run 10,.call (vI C) x,.run 4,.val (.bool false),.run 9,.val (.int .i64 (ai IntKind.i64 (a+b))),.run 2,.call (vI E) X,.run 16]
 1000 41 [vwC a s,.int .i64 b,.int .i64 m,.int .u8 (.ofNat z)] x=some ((vI E),X,[.call 80 x [pA,.int .i64 (ai IntKind.i64 (a+b)),.int .i64 m,.int .u8 (.ofNat (z))] (vI E) X,.bin .add .no (.int .i64 a) (.int .i64 b) (.int .i64 (ai IntKind.i64 (a+b))),.bin .neq .no (vI C) (vI 0) (.bool false),.call 79 x [vA [pA,.int .i64 a,.int .i64 s],.int .i64 b,.int .i64 m] (vI C) x]):=by kernel_rfl
theorem KC{x X:Ar}{a s b m:Int}{z C E:Nat}(hx:x.refuse<9223372036854775808)(hC:ep x [vwC a s,.int .i64 b,.int .i64 m]=some (ah C,x))(hA:f9 oY x [pA,.int .i64 (ai .i64 (a+b)),.int .i64 m,.int .u8 (.ofNat z)]=some (ah E,X)):∃t nx,RS hV0 41 [vwC a s,.int .i64 b,.int .i64 m,.int .u8 (.ofNat z)] ⟨[(0,.ext x)],1⟩=some (bif !bz (.ofNat C) (.ofNat 0) then ah C else ah E,⟨t,nx⟩)∧aa 0 t=some (.ext (bif !bz (.ofNat C) (.ofNat 0) then x else X)):=by
 cases hb1:!bz (Int.ofNat C) (Int.ofNat 0) with
 |true =>
  refine bO (aC (Ge (x:=x) (a:=a) (s:=s) (b:=b) (m:=m) (z:=z) (C:=C)) ?_) ?_ ?_
  ·repeat' first|exact trivial|assumption|exact aA rfl (by assumption)|exact⟨_,_,rfl,by first|assumption|rfl⟩|apply And.intro|rfl
  all_goals first|rfl|(simp only[cond_true, *,zT,cond_false]<;>rfl)
 |false =>
  refine bO (aC (Fp (x:=x) (X:=X) (a:=a) (s:=s) (b:=b) (m:=m) (z:=z) (C:=C) (E:=E)) ?_) ?_ ?_
  ·repeat' first|exact trivial|assumption|exact aA rfl (by assumption)|exact⟨_,_,rfl,by first|assumption|rfl⟩|apply And.intro|rfl
  all_goals first|rfl|(simp only[cond_true, *,zT,cond_false]<;>rfl)
theorem Il{x:Ar}{a s b:Int}{u:List UInt8}{C:Nat}:bp F1 ac (ab hV0)
 [.run 10,.len (List.length u),.call (vI C) x,.run 4,.val (.bool true),.run 16]
 1000 89 [vwC a s,.int .i64 b,jX u] x=some ((vI C),x,[.bin .neq .no (vI C) (vI 0) (.bool true),.call 79 x [vA [pA,.int .i64 a,.int .i64 s],.int .i64 b,vI (List.length u)] (vI C) x,.len (.mk (.mk (u))) (List.length u)]):=by kernel_rfl
theorem Io{x X:Ar}{a s b:Int}{u:List UInt8}{C E:Nat}:bp F1 ac (ab hV0)
 [.run 10,.len (List.length u),.call (vI C) x,.run 4,.val (.bool false),.run 9,.val (.int .i64 (ai IntKind.i64 (a+b))),.run 1,.call (vI E) X,.run 16]
 1000 89 [vwC a s,.int .i64 b,jX u] x=some ((vI E),X,[.call 127 x [pA,.int .i64 (ai IntKind.i64 (a+b)),.string (.mk (.mk (u)))] (vI E) X,.bin .add .no (.int .i64 a) (.int .i64 b) (.int .i64 (ai IntKind.i64 (a+b))),.bin .neq .no (vI C) (vI 0) (.bool false),.call 79 x [vA [pA,.int .i64 a,.int .i64 s],.int .i64 b,vI (List.length u)] (vI C) x,.len (.mk (.mk (u))) (List.length u)]):=by kernel_rfl
theorem O1{x X:Ar}{a s b:Int}{u:List UInt8}{C E:Nat}(hx:x.refuse<9223372036854775808)(hC:ep x [vwC a s,.int .i64 b,.int .i64 (.ofNat u.length)]=some (ah C,x))(hA:f9 po x [pA,.int .i64 (ai .i64 (a+b)),jX u]=some (ah E,X)):∃t nx,RS hV0 89 [vwC a s,.int .i64 b,jX u] ⟨[(0,.ext x)],1⟩=some (bif !bz (.ofNat C) (.ofNat 0) then ah C else ah E,⟨t,nx⟩)∧aa 0 t=some (.ext (bif !bz (.ofNat C) (.ofNat 0) then x else X)):=by
 cases hb1:!bz (Int.ofNat C) (Int.ofNat 0) with
 |true =>
  refine bO (aC (Il (x:=x) (a:=a) (s:=s) (b:=b) (u:=u) (C:=C)) ?_) ?_ ?_
  ·repeat' first|exact trivial|assumption|exact aA rfl (by assumption)|exact⟨_,_,rfl,by first|assumption|rfl⟩|apply And.intro|rfl
  all_goals first|rfl|(simp only[cond_true, *,zT,cond_false]<;>rfl)
 |false =>
  refine bO (aC (Io (x:=x) (X:=X) (a:=a) (s:=s) (b:=b) (u:=u) (C:=C) (E:=E)) ?_) ?_ ?_
  ·repeat' first|exact trivial|assumption|exact aA rfl (by assumption)|exact⟨_,_,rfl,by first|assumption|rfl⟩|apply And.intro|rfl
  all_goals first|rfl|(simp only[cond_true, *,zT,cond_false]<;>rfl)
theorem Dx{p q a b:Int}{k1 k2:IntKind}:eA F1 ac (ab hV0)
 [.run 48]
 1000 56 [.agg ⟨[.pointer none,.int .i64 p,.int .i64 q]⟩,.int k1 a,.int k2 b]=some ((vT [vU 0,vI 1]),[]):=by kernel_rfl
theorem Lg{p q a b:Int}{k1 k2:IntKind}  : ∃h',RS hV0 56 [.agg ⟨[.pointer none,.int .i64 p,.int .i64 q]⟩,.int k1 a,.int k2 b] ⟨[],0⟩=some (.tuple ⟨[fz 0,ah 1]⟩,h'):=by
 refine fj (cy (Dx (p:=p) (q:=q) (a:=a) (b:=b) (k1:=k1) (k2:=k2)) ?_) ?_
 ·repeat' first|exact trivial|assumption|exact aA rfl (by assumption)|exact⟨_,_,rfl,by first|assumption|rfl⟩|apply And.intro|rfl
 ·first|rfl|(simp only[cond_true, *,zT,cond_false]<;>rfl)
theorem M3{vs:List Value}{v:Value}(hs:lC 2 (.tuple ⟨[fz 0,ah 1]⟩) vs=some v):∃h',RS hV0 56 vs ⟨[],0⟩=some (v,h'):=by
 obtain⟨p,q,l,rfl,hl,rfl⟩:=gK hs;obtain⟨_,_,_,_,rfl⟩:=AA hl;exact Lg
theorem BP{p q a b c:Int}{k1 k2 k3:IntKind}:eA F1 ac (ab hV0)
 [.run 48]
 1000 42 [.agg ⟨[.pointer none,.int .i64 p,.int .i64 q]⟩,.int k1 a,.int k2 b,.int k3 c]=some ((vI 1),[]):=by kernel_rfl
theorem IC{p q a b c:Int}{k1 k2 k3:IntKind}  : ∃h',RS hV0 42 [.agg ⟨[.pointer none,.int .i64 p,.int .i64 q]⟩,.int k1 a,.int k2 b,.int k3 c] ⟨[],0⟩=some (ah 1,h'):=by
 refine fj (cy (BP (p:=p) (q:=q) (a:=a) (b:=b) (c:=c) (k1:=k1) (k2:=k2) (k3:=k3)) ?_) ?_
 ·repeat' first|exact trivial|assumption|exact aA rfl (by assumption)|exact⟨_,_,rfl,by first|assumption|rfl⟩|apply And.intro|rfl
 ·first|rfl|(simp only[cond_true, *,zT,cond_false]<;>rfl)
theorem Ih{vs:List Value}{v:Value}(hs:lC 3 (ah 1) vs=some v):∃h',RS hV0 42 vs ⟨[],0⟩=some (v,h'):=by
 obtain⟨p,q,l,rfl,hl,rfl⟩:=gK hs;obtain⟨_,_,_,_,_,_,rfl⟩:=Kh hl;exact IC
theorem BK{p q a b:Int}{k1 k2:IntKind}:eA F1 ac (ab hV0)
 [.run 48]
 1000 131 [.agg ⟨[.pointer none,.int .i64 p,.int .i64 q]⟩,.int k1 a,.int k2 b]=some ((vT [.string (.mk (.mk [])),vI 1]),[]):=by kernel_rfl
theorem IP{p q a b:Int}{k1 k2:IntKind}  : ∃h',RS hV0 131 [.agg ⟨[.pointer none,.int .i64 p,.int .i64 q]⟩,.int k1 a,.int k2 b] ⟨[],0⟩=some (.tuple ⟨[jX [],ah 1]⟩,h'):=by
 refine fj (cy (BK (p:=p) (q:=q) (a:=a) (b:=b) (k1:=k1) (k2:=k2)) ?_) ?_
 ·repeat' first|exact trivial|assumption|exact aA rfl (by assumption)|exact⟨_,_,rfl,by first|assumption|rfl⟩|apply And.intro|rfl
 ·first|rfl|(simp only[cond_true, *,zT,cond_false]<;>rfl)
theorem He{vs:List Value}{v:Value}(hs:lC 2 (.tuple ⟨[jX [],ah 1]⟩) vs=some v):∃h',RS hV0 131 vs ⟨[],0⟩=some (v,h'):=by
 obtain⟨p,q,l,rfl,hl,rfl⟩:=gK hs;obtain⟨_,_,_,_,rfl⟩:=AA hl;exact IP
theorem FM{p q a b c:Int}{k1 k2 k3:IntKind}:eA F1 ac (ab hV0)
 [.run 48]
 1000 41 [.agg ⟨[.pointer none,.int .i64 p,.int .i64 q]⟩,.int k1 a,.int k2 b,.int k3 c]=some ((vI 1),[]):=by kernel_rfl
theorem Lo{p q a b c:Int}{k1 k2 k3:IntKind}  : ∃h',RS hV0 41 [.agg ⟨[.pointer none,.int .i64 p,.int .i64 q]⟩,.int k1 a,.int k2 b,.int k3 c] ⟨[],0⟩=some (ah 1,h'):=by
 refine fj (cy (FM (p:=p) (q:=q) (a:=a) (b:=b) (c:=c) (k1:=k1) (k2:=k2) (k3:=k3)) ?_) ?_
 ·repeat' first|exact trivial|assumption|exact aA rfl (by assumption)|exact⟨_,_,rfl,by first|assumption|rfl⟩|apply And.intro|rfl
 ·first|rfl|(simp only[cond_true, *,zT,cond_false]<;>rfl)
theorem L3{vs:List Value}{v:Value}(hs:lC 3 (ah 1) vs=some v):∃h',RS hV0 41 vs ⟨[],0⟩=some (v,h'):=by
 obtain⟨p,q,l,rfl,hl,rfl⟩:=gK hs;obtain⟨_,_,_,_,_,_,rfl⟩:=Kh hl;exact Lo
theorem Lm{x x':Ar}{vs:List Value}{v:Value}(hx:x.refuse<9223372036854775808)(hs:cz x vs=some (v,x')):∃t n,RS hV0 56 vs ⟨[(0,.ext x)],1⟩=some (v,⟨t,n⟩)∧aa 0 t=some (.ext x'):=by
 unfold cz at hs;split at hs
 ·rename_i a s b m;have h:=Ld hx (x:=x) (a:=a) (s:=s) (b:=b) (m:=m) (W:=bif eO m then 0 else 2) (C:=fK s b m) rfl rfl Bs;cases hw:eO m with
  |false=>simp only[hw,cond_false] at hs;injection hs with hs;injection hs with h1 h2;subst h1;subst h2;rw[hw] at h;exact h
  |true =>
   simp only[hw,cond_true] at hs;cases hc:fK s b m with
   |zero=>simp only[hc] at hs;injection hs with hs;injection hs with h1 h2;subst h1;subst h2;rw[hw,hc] at h;exact h
   |succ e=>simp only[hc] at hs;injection hs with hs;injection hs with h1 h2;subst h1;subst h2;rw[hw,hc] at h;exact h
 ·cases hs
theorem Hr{x x':Ar}{vs:List Value}{v:Value}(hx:x.refuse<9223372036854775808)(hs:cU x vs=some (v,x')):∃t n,RS hV0 42 vs ⟨[(0,.ext x)],1⟩=some (v,⟨t,n⟩)∧aa 0 t=some (.ext x'):=by
 unfold cU at hs;split at hs
 ·rename_i a s b m z;cases hz:Nat.blt z 18446744073709551616 with
  |false=>simp only[hz,cond_false] at hs;cases hs
  |true =>
  simp only[hz,cond_true] at hs;have h:=HH hx (x:=x) (a:=a) (s:=s) (b:=b) (m:=m) (z:=z) (W:=bif eO m then 0 else 2) (C:=fK s b m) rfl rfl (yn hz);cases hw:eO m with
  |false=>simp only[hw,cond_false] at hs;injection hs with hs;injection hs with h1 h2;subst h1;subst h2;rw[hw] at h;exact h
  |true =>
   simp only[hw,cond_true] at hs;cases hc:fK s b m with
   |zero=>simp only[hc] at hs;injection hs with hs;injection hs with h1 h2;subst h1;subst h2;rw[hw,hc] at h;exact h
   |succ e=>simp only[hc] at hs;injection hs with hs;injection hs with h1 h2;subst h1;subst h2;rw[hw,hc] at h;exact h
 ·cases hs
theorem HV{x x':Ar}{vs:List Value}{v:Value}(hx:x.refuse<9223372036854775808)(hs:iX x vs=some (v,x')):∃t n,RS hV0 131 vs ⟨[(0,.ext x)],1⟩=some (v,⟨t,n⟩)∧aa 0 t=some (.ext x'):=by
 unfold iX at hs;split at hs
 ·rename_i a s b m;have h:=Hi hx (x:=x) (a:=a) (s:=s) (b:=b) (m:=m) (C:=fK s b m) rfl qY;cases hc:fK s b m with
  |zero=>simp only[hc] at hs;injection hs with hs;injection hs with h1 h2;subst h1;subst h2;rw[hc] at h;exact h
  |succ e=>simp only[hc] at hs;injection hs with hs;injection hs with h1 h2;subst h1;subst h2;rw[hc] at h;exact h
 ·cases hs
theorem M6{x x':Ar}{vs:List Value}{v:Value}(hx:x.refuse<9223372036854775808)(hs:tZ x vs=some (v,x')):∃t n,RS hV0 41 vs ⟨[(0,.ext x)],1⟩=some (v,⟨t,n⟩)∧aa 0 t=some (.ext x'):=by
 unfold tZ at hs;split at hs
 ·rename_i a s b m z;cases hz:Nat.blt z 256 with
  |false=>simp only[hz,cond_false] at hs;cases hs
  |true =>
  simp only[hz,cond_true] at hs;have h:=KC hx (x:=x) (a:=a) (s:=s) (b:=b) (m:=m) (z:=z) (C:=fK s b m) rfl (BI hz);cases hc:fK s b m with
  |zero=>simp only[hc] at hs;injection hs with hs;injection hs with h1 h2;subst h1;subst h2;rw[hc] at h;exact h
  |succ e=>simp only[hc] at hs;injection hs with hs;injection hs with h1 h2;subst h1;subst h2;rw[hc] at h;exact h
 ·cases hs
theorem Nd{x x':Ar}{vs:List Value}{v:Value}(hx:x.refuse<9223372036854775808)(hs:xO x vs=some (v,x')):∃t n,RS hV0 89 vs ⟨[(0,.ext x)],1⟩=some (v,⟨t,n⟩)∧aa 0 t=some (.ext x'):=by
 unfold xO at hs;split at hs
 ·rename_i a s b u;obtain⟨⟨u⟩⟩:=u;have h:=O1 hx (x:=x) (a:=a) (s:=s) (b:=b) (u:=u) (C:=fK s b (.ofNat u.length)) rfl Fw;cases hc:fK s b (.ofNat u.length) with
  |zero=>simp only[hc] at hs;injection hs with hs;injection hs with h1 h2;subst h1;subst h2;rw[hc] at h;exact h
  |succ e=>simp only[hc] at hs;injection hs with hs;injection hs with h1 h2;subst h1;subst h2;rw[hc] at h;exact h
 ·cases hs
def hV1:List (aK Ar):=(56,d6 cz (lC 2 (.tuple ⟨[fz 0,ah 1]⟩)))::(42,d6 cU (lC 3 (ah 1)))::(131,d6 iX (lC 2 (.tuple ⟨[jX [],ah 1]⟩)))::(89,d6 xO (fun _=>none))::(41,d6 tZ (lC 3 (ah 1)))::hV0
theorem Ez:∀y∈hV1,aQ (a8 Cls) PZ W0 y.1 y.2 :=
 bk (E:=(a8 Cls)) (bk (E:=(a8 Cls)) (bk (E:=(a8 Cls)) (bk (E:=(a8 Cls)) (bk (E:=(a8 Cls)) (nL) (eJ (eV nL) (fun _ _ _ _ hx hs=>M6 hx hs) (fun _ _ _ hs=>L3 hs))) (eJ (eV nL) (fun _ _ _ _ hx hs=>Nd hx hs) (fun _ _ _ hs=>by cases hs))) (eJ (eV nL) (fun _ _ _ _ hx hs=>HV hx hs) (fun _ _ _ hs=>He hs))) (eJ (eV nL) (fun _ _ _ _ hx hs=>Hr hx hs) (fun _ _ _ hs=>Ih hs))) (eJ (eV nL) (fun _ _ _ _ hx hs=>Lm hx hs) (fun _ _ _ hs=>M3 hs))
end Go.AI
namespace Go.AI
open Go.Proofs
variable {W0:World}{Cls:Nat→Int→Prop}
theorem FB{a1:Nat}:eA F1 ac (ab hV1)
 [.run 10,.val (.bool true),.run 16]
 1000 95 [i0 a1]=some ((vI 0),[.bin .gtr .no (vI a1) (vI 10) (.bool true)]):=by kernel_rfl
theorem Fz{a1:Nat}:eA F1 ac (ab hV1)
 [.run 10,.val (.bool false),.run 6,.val (.int .i64 (ai IntKind.i64   (Int.ofNat     (Nat.mul 4096 (Nat.pow 2 (bif Nat.blt a1 (IntKind.bits IntKind.i64) then a1 else IntKind.bits IntKind.i64)))))),.run 16]
 1000 95 [i0 a1]=some ((.int .i64 (ai IntKind.i64   (Int.ofNat     (Nat.mul 4096 (Nat.pow 2 (bif Nat.blt a1 (IntKind.bits IntKind.i64) then a1 else IntKind.bits IntKind.i64)))))),[.bin .shl .no (vI 4096) (vI a1) (.int .i64 (ai IntKind.i64   (Int.ofNat     (Nat.mul 4096 (Nat.pow 2 (bif Nat.blt a1 (IntKind.bits IntKind.i64) then a1 else IntKind.bits IntKind.i64)))))),.bin .gtr .no (vI a1) (vI 10) (.bool false)]):=by kernel_rfl
theorem KH{a1:Nat}  : ∃h',RS hV1 95 [i0 a1] ⟨[],0⟩=some (.int .i64 (lQ (.ofNat a1)),h'):=by
 unfold lQ;cases hb1:eY (Int.ofNat 10) (Int.ofNat a1) with
 |true =>
  refine fj (cy (FB (a1:=a1)) ?_) ?_
  ·repeat' first|exact trivial|assumption|exact aA rfl (by assumption)|exact⟨_,_,rfl,by first|assumption|rfl⟩|apply And.intro|rfl
  ·first|rfl|(simp only[cond_true, *,zT,cond_false]<;>rfl)
 |false =>
  refine fj (cy (Fz (a1:=a1)) ?_) ?_
  ·repeat' first|exact trivial|assumption|exact aA rfl (by assumption)|exact⟨_,_,rfl,by first|assumption|rfl⟩|apply And.intro|rfl
  ·first|rfl|(simp only[cond_true, *,zT,cond_false]<;>rfl)
theorem GU{a1:Nat}:eA F1 ac (ab hV1)
 [.run 48]
 1000 95 [.int .i64 (.negSucc a1)]=some ((vI 0),[]):=by kernel_rfl
theorem MC{a1:Nat}  : ∃h',RS hV1 95 [.int .i64 (.negSucc a1)] ⟨[],0⟩=some (.int .i64 (lQ (.negSucc a1)),h'):=by
 unfold lQ;refine fj (cy (GU (a1:=a1)) ?_) ?_
 ·repeat' first|exact trivial|assumption|exact aA rfl (by assumption)|exact⟨_,_,rfl,by first|assumption|rfl⟩|apply And.intro|rfl
 ·first|rfl|(simp only[cond_true, *,zT,cond_false]<;>rfl)
theorem OL{vs:List Value}{v:Value}(hs:tP vs=some v):∃h',RS hV1 95 vs ⟨[],0⟩=some (v,h'):=by
 unfold tP at hs;split at hs
 ·rename_i o;injection hs with hs;subst hs;cases o with
  |ofNat o=>exact KH
  |negSucc o=>exact MC
 ·cases hs
def hV2:List (aK Ar):=(95,d6 (fun _ _=>none) tP)::hV1
theorem GF:∀y∈hV2,aQ (a8 Cls) PZ W0 y.1 y.2 :=
 bk (E:=(a8 Cls)) Ez (eJ (eV Ez) (fun _ _ _ _ _ hs=>by cases hs) fun _ _ _ hs=>OL hs)
end Go.AI
namespace Go.AI
open Go.Proofs
variable {W0:World}{Cls:Nat→Int→Prop}
theorem xU{x:Ar}{a:Int}{e:Nat}:bp F1 ac (ab hV2)
 [.run 8,.call (vT [vA [.pointer none,vI 0,vI 0],vI (e+1)]) x,.run 48]
 1000 55 [pA,.int .i64 a] x=some ((vT [vA [vI 0,vI 0,vU 0,vI 0],vI (e+1)]),x,[.call 69 x [pA,.int .i64 a,vI 32] (vT [vA [.pointer none,vI 0,vI 0],vI (e+1)]) x]):=by kernel_rfl
theorem wR{x:Ar}{a:Int}{e:Nat}(hx:x.refuse<9223372036854775808)(hO:fa x [pA,.int .i64 a,i0 32]=some (.tuple ⟨[vwZ,ah (e+1)]⟩,x)):∃t nx,RS hV2 55 [pA,.int .i64 a] ⟨[(0,.ext x)],1⟩=some (.tuple ⟨[ckZ,ah (e+1)]⟩,⟨t,nx⟩)∧aa 0 t=some (.ext x):=by
 refine bO (aC (xU (x:=x) (a:=a) (e:=e)) ?_) ?_ ?_
 ·repeat' first|exact trivial|assumption|exact aA rfl (by assumption)|exact⟨_,_,rfl,by first|assumption|rfl⟩|apply And.intro|rfl
 all_goals first|rfl|(simp only[cond_true, *,zT,cond_false]<;>rfl)
theorem C0{x:Ar}{a1 w0 w1 w2 w3:Nat}{bs:List UInt8}:bp F1 ac (ab hV2)
 [.run 8,.call (vK (vW a1 32)) x,.run 401,.call (vK (.string (.mk (.mk (bs))))) x,.run 5,.fin,.run 152,.call (vK (vU w0)) x,.run 4,.fin,.run 176,.call (vK (vU w1)) x,.run 4,.fin,.run 199,.call (vK (vU w2)) x,.run 4,.fin,.run 222,.call (vK (vU w3)) x,.run 4,.fin,.run 41,.fin,.run 17,.fin,.run 5,.val (.bool true),.run 48]
 1000 55 [pA,i0 a1] x=some ((vT [vA [vI 0,vI 0,vU 0,vI 0],vI 7]),x,[.bin .neq .no (vU w0) (vU 1263421507) (.bool true),.same [dU w3,dU w2,dU w1],.same [dI a1,dI 32,dI a1,dI 32],.same [dI 8,dI 8,dI a1,dI 32,dI a1,dI 32],.call 56 x [vW a1 32,vI 16,vI 8] (vK (vU w3)) x,.same [dI 8,dI 8,dI a1,dI 32,dI a1,dI 32],.call 56 x [vW a1 32,vI 8,vI 8] (vK (vU w2)) x,.same [dI 4,dI 4,dI a1,dI 32,dI a1,dI 32],.call 56 x [vW a1 32,vI 4,vI 4] (vK (vU w1)) x,.same [dI 4,dI 4,dI a1,dI 32,dI a1,dI 32],.call 56 x [vW a1 32,vI 0,vI 4] (vK (vU w0)) x,.same [dI a1,dI 32,dI a1,dI 32],.call 131 x [vW a1 32,vI 0,vI 24] (vK (.string (.mk (.mk (bs))))) x,.call 69 x [pA,vI a1,vI 32] (vK (vW a1 32)) x]):=by kernel_rfl
theorem A6{x:Ar}{a1 w0 w1 w2 w3:Nat}{bs:List UInt8}:bp F1 ac (ab hV2)
 [.run 8,.call (vK (vW a1 32)) x,.run 401,.call (vK (.string (.mk (.mk (bs))))) x,.run 5,.fin,.run 152,.call (vK (vU w0)) x,.run 4,.fin,.run 176,.call (vK (vU w1)) x,.run 4,.fin,.run 199,.call (vK (vU w2)) x,.run 4,.fin,.run 222,.call (vK (vU w3)) x,.run 4,.fin,.run 41,.fin,.run 17,.fin,.run 5,.val (.bool false),.run 2,.val (vI (Nat.mod a1 4096)),.val (.bool true),.run 48]
 1000 55 [pA,i0 a1] x=some ((vT [vA [vI 0,vI 0,vU 0,vI 0],vI 7]),x,[.bin .neq .no (vI (Nat.mod a1 4096)) (vI 0) (.bool true),.bin .rem .no (vI a1) (vI 4096) (vI (Nat.mod a1 4096)),.bin .neq .no (vU w0) (vU 1263421507) (.bool false),.same [dU w3,dU w2,dU w1],.same [dI a1,dI 32,dI a1,dI 32],.same [dI 8,dI 8,dI a1,dI 32,dI a1,dI 32],.call 56 x [vW a1 32,vI 16,vI 8] (vK (vU w3)) x,.same [dI 8,dI 8,dI a1,dI 32,dI a1,dI 32],.call 56 x [vW a1 32,vI 8,vI 8] (vK (vU w2)) x,.same [dI 4,dI 4,dI a1,dI 32,dI a1,dI 32],.call 56 x [vW a1 32,vI 4,vI 4] (vK (vU w1)) x,.same [dI 4,dI 4,dI a1,dI 32,dI a1,dI 32],.call 56 x [vW a1 32,vI 0,vI 4] (vK (vU w0)) x,.same [dI a1,dI 32,dI a1,dI 32],.call 131 x [vW a1 32,vI 0,vI 24] (vK (.string (.mk (.mk (bs))))) x,.call 69 x [pA,vI a1,vI 32] (vK (vW a1 32)) x]):=by kernel_rfl
theorem Cu{x:Ar}{a1 w0 w1 w2 w3:Nat}{bs:List UInt8}:bp F1 ac (ab hV2)
 [.run 8,.call (vK (vW a1 32)) x,.run 401,.call (vK (.string (.mk (.mk (bs))))) x,.run 5,.fin,.run 152,.call (vK (vU w0)) x,.run 4,.fin,.run 176,.call (vK (vU w1)) x,.run 4,.fin,.run 199,.call (vK (vU w2)) x,.run 4,.fin,.run 222,.call (vK (vU w3)) x,.run 4,.fin,.run 41,.fin,.run 17,.fin,.run 5,.val (.bool false),.run 2,.val (vI (Nat.mod a1 4096)),.val (.bool false),.run 5,.val (.bool true),.run 48]
 1000 55 [pA,i0 a1] x=some ((vT [vA [vI 0,vI 0,vU 0,vI 0],vI 7]),x,[.bin .eql .no (.int .i64 (lQ (ai IntKind.i64 (Int.ofNat w1)))) (vI 0) (.bool true),.bin .neq .no (vI (Nat.mod a1 4096)) (vI 0) (.bool false),.bin .rem .no (vI a1) (vI 4096) (vI (Nat.mod a1 4096)),.bin .neq .no (vU w0) (vU 1263421507) (.bool false),.same [dU w3,dU w2,dU w1],.same [dI a1,dI 32,dI a1,dI 32],.same [dI 8,dI 8,dI a1,dI 32,dI a1,dI 32],.call 56 x [vW a1 32,vI 16,vI 8] (vK (vU w3)) x,.same [dI 8,dI 8,dI a1,dI 32,dI a1,dI 32],.call 56 x [vW a1 32,vI 8,vI 8] (vK (vU w2)) x,.same [dI 4,dI 4,dI a1,dI 32,dI a1,dI 32],.call 56 x [vW a1 32,vI 4,vI 4] (vK (vU w1)) x,.same [dI 4,dI 4,dI a1,dI 32,dI a1,dI 32],.call 56 x [vW a1 32,vI 0,vI 4] (vK (vU w0)) x,.same [dI a1,dI 32,dI a1,dI 32],.call 131 x [vW a1 32,vI 0,vI 24] (vK (.string (.mk (.mk (bs))))) x,.call 69 x [pA,vI a1,vI 32] (vK (vW a1 32)) x]):=by kernel_rfl
theorem Dd{x:Ar}{a1 w0 w1 w2 w3:Nat}{bs:List UInt8}:bp F1 ac (ab hV2)
 [.run 8,.call (vK (vW a1 32)) x,.run 401,.call (vK (.string (.mk (.mk (bs))))) x,.run 5,.fin,.run 152,.call (vK (vU w0)) x,.run 4,.fin,.run 176,.call (vK (vU w1)) x,.run 4,.fin,.run 199,.call (vK (vU w2)) x,.run 4,.fin,.run 222,.call (vK (vU w3)) x,.run 4,.fin,.run 41,.fin,.run 17,.fin,.run 5,.val (.bool false),.run 2,.val (vI (Nat.mod a1 4096)),.val (.bool false),.run 5,.val (.bool false),.run 4,.val (.bool true),.run 16]
 1000 55 [pA,i0 a1] x=some ((vT [vA [vI 0,vI 0,vU 0,vI 0],vI 7]),x,[.bin .lss .no (.int .i64 (ai IntKind.i64 (Int.ofNat w3))) (vI 0) (.bool true),.bin .eql .no (.int .i64 (lQ (ai IntKind.i64 (Int.ofNat w1)))) (vI 0) (.bool false),.bin .neq .no (vI (Nat.mod a1 4096)) (vI 0) (.bool false),.bin .rem .no (vI a1) (vI 4096) (vI (Nat.mod a1 4096)),.bin .neq .no (vU w0) (vU 1263421507) (.bool false),.same [dU w3,dU w2,dU w1],.same [dI a1,dI 32,dI a1,dI 32],.same [dI 8,dI 8,dI a1,dI 32,dI a1,dI 32],.call 56 x [vW a1 32,vI 16,vI 8] (vK (vU w3)) x,.same [dI 8,dI 8,dI a1,dI 32,dI a1,dI 32],.call 56 x [vW a1 32,vI 8,vI 8] (vK (vU w2)) x,.same [dI 4,dI 4,dI a1,dI 32,dI a1,dI 32],.call 56 x [vW a1 32,vI 4,vI 4] (vK (vU w1)) x,.same [dI 4,dI 4,dI a1,dI 32,dI a1,dI 32],.call 56 x [vW a1 32,vI 0,vI 4] (vK (vU w0)) x,.same [dI a1,dI 32,dI a1,dI 32],.call 131 x [vW a1 32,vI 0,vI 24] (vK (.string (.mk (.mk (bs))))) x,.call 69 x [pA,vI a1,vI 32] (vK (vW a1 32)) x]):=by kernel_rfl
theorem CQ{x:Ar}{a1 w0 w1 w2 w3:Nat}{bs:List UInt8}:bp F1 ac (ab hV2)
 [.run 8,.call (vK (vW a1 32)) x,.run 401,.call (vK (.string (.mk (.mk (bs))))) x,.run 5,.fin,.run 152,.call (vK (vU w0)) x,.run 4,.fin,.run 176,.call (vK (vU w1)) x,.run 4,.fin,.run 199,.call (vK (vU w2)) x,.run 4,.fin,.run 222,.call (vK (vU w3)) x,.run 4,.fin,.run 41,.fin,.run 17,.fin,.run 5,.val (.bool false),.run 2,.val (vI (Nat.mod a1 4096)),.val (.bool false),.run 5,.val (.bool false),.run 4,.val (.bool false),.run 16]
 1000 55 [pA,i0 a1] x=some ((vK (vA [vI a1,.int .i64 (ai IntKind.i64 (Int.ofNat w1)),vU w2,.int .i64 (ai IntKind.i64 (Int.ofNat w3))])),x,[.bin .lss .no (.int .i64 (ai IntKind.i64 (Int.ofNat w3))) (vI 0) (.bool false),.bin .eql .no (.int .i64 (lQ (ai IntKind.i64 (Int.ofNat w1)))) (vI 0) (.bool false),.bin .neq .no (vI (Nat.mod a1 4096)) (vI 0) (.bool false),.bin .rem .no (vI a1) (vI 4096) (vI (Nat.mod a1 4096)),.bin .neq .no (vU w0) (vU 1263421507) (.bool false),.same [dU w3,dU w2,dU w1],.same [dI a1,dI 32,dI a1,dI 32],.same [dI 8,dI 8,dI a1,dI 32,dI a1,dI 32],.call 56 x [vW a1 32,vI 16,vI 8] (vK (vU w3)) x,.same [dI 8,dI 8,dI a1,dI 32,dI a1,dI 32],.call 56 x [vW a1 32,vI 8,vI 8] (vK (vU w2)) x,.same [dI 4,dI 4,dI a1,dI 32,dI a1,dI 32],.call 56 x [vW a1 32,vI 4,vI 4] (vK (vU w1)) x,.same [dI 4,dI 4,dI a1,dI 32,dI a1,dI 32],.call 56 x [vW a1 32,vI 0,vI 4] (vK (vU w0)) x,.same [dI a1,dI 32,dI a1,dI 32],.call 131 x [vW a1 32,vI 0,vI 24] (vK (.string (.mk (.mk (bs))))) x,.call 69 x [pA,vI a1,vI 32] (vK (vW a1 32)) x]):=by kernel_rfl
theorem I8{x:Ar}{a1 w0 w1 w2 w3:Nat}{bs:List UInt8}(hx:x.refuse<9223372036854775808)(hO:fa x [pA,i0 a1,i0 32]=some (.tuple ⟨[vwC (.ofNat a1) (.ofNat 32),ah 0]⟩,x))(hB:iX x [vwC (.ofNat a1) (.ofNat 32),i0 0,i0 24]=some (.tuple ⟨[jX bs,ah 0]⟩,x))(h0:cz x [vwC (.ofNat a1) (.ofNat 32),i0 0,i0 4]=some (.tuple ⟨[fz w0,ah 0]⟩,x))(h4:cz x [vwC (.ofNat a1) (.ofNat 32),i0 4,i0 4]=some (.tuple ⟨[fz w1,ah 0]⟩,x))(h8:cz x [vwC (.ofNat a1) (.ofNat 32),i0 8,i0 8]=some (.tuple ⟨[fz w2,ah 0]⟩,x))(h16:cz x [vwC (.ofNat a1) (.ofNat 32),i0 16,i0 8]=some (.tuple ⟨[fz w3,ah 0]⟩,x)):∃t nx,RS hV2 55 [pA,i0 a1] ⟨[(0,.ext x)],1⟩=some (bif mL a1 w0 (ai .i64 (.ofNat w1)) (ai .i64 (.ofNat w3)) then .tuple ⟨[ckZ,ah 7]⟩ else .tuple ⟨[ckC (.ofNat a1) (ai .i64 (.ofNat w1)) w2 (ai .i64 (.ofNat w3)),ah 0]⟩,⟨t,nx⟩)∧aa 0 t=some (.ext x):=by
 unfold mL;cases hb1:!bz (Int.ofNat w0) (Int.ofNat 1263421507) with
 |true =>
  refine bO (aC (C0 (x:=x) (a1:=a1) (w0:=w0) (w1:=w1) (w2:=w2) (w3:=w3) (bs:=bs)) ?_) ?_ ?_
  ·repeat' first|exact trivial|assumption|exact aA rfl (by assumption)|exact⟨_,_,rfl,by first|assumption|rfl⟩|apply And.intro|rfl
  all_goals first|rfl|(simp only[cond_true, *,zT,cond_false]<;>rfl)
 |false =>
  cases hb2:!bz (Int.ofNat (Nat.mod a1 4096)) (Int.ofNat 0) with
  |true =>
   refine bO (aC (A6 (x:=x) (a1:=a1) (w0:=w0) (w1:=w1) (w2:=w2) (w3:=w3) (bs:=bs)) ?_) ?_ ?_
   ·repeat' first|exact trivial|assumption|exact aA rfl (by assumption)|exact⟨_,_,rfl,by first|assumption|rfl⟩|apply And.intro|rfl
   all_goals first|rfl|(simp only[cond_true, *,zT,cond_false]<;>rfl)
  |false =>
   cases hb3:bz (lQ (ai IntKind.i64 (Int.ofNat w1))) (Int.ofNat 0) with
   |true =>
    refine bO (aC (Cu (x:=x) (a1:=a1) (w0:=w0) (w1:=w1) (w2:=w2) (w3:=w3) (bs:=bs)) ?_) ?_ ?_
    ·repeat' first|exact trivial|assumption|exact aA rfl (by assumption)|exact⟨_,_,rfl,by first|assumption|rfl⟩|apply And.intro|rfl
    all_goals first|rfl|(simp only[cond_true, *,zT,cond_false]<;>rfl)
   |false =>
    cases hb4:eY (ai IntKind.i64 (Int.ofNat w3)) (Int.ofNat 0) with
    |true =>
     refine bO (aC (Dd (x:=x) (a1:=a1) (w0:=w0) (w1:=w1) (w2:=w2) (w3:=w3) (bs:=bs)) ?_) ?_ ?_
     ·repeat' first|exact trivial|assumption|exact aA rfl (by assumption)|exact⟨_,_,rfl,by first|assumption|rfl⟩|apply And.intro|rfl
     all_goals first|rfl|(simp only[cond_true, *,zT,cond_false]<;>rfl)
    |false =>
     refine bO (aC (CQ (x:=x) (a1:=a1) (w0:=w0) (w1:=w1) (w2:=w2) (w3:=w3) (bs:=bs)) ?_) ?_ ?_
     ·repeat' first|exact trivial|assumption|exact aA rfl (by assumption)|exact⟨_,_,rfl,by first|assumption|rfl⟩|apply And.intro|rfl
     all_goals first|rfl|(simp only[cond_true, *,zT,cond_false]<;>rfl)
theorem IZ{x x':Ar}{vs:List Value}{v:Value}(hx:x.refuse<9223372036854775808)(hs:fx x vs=some (v,x')):∃t n,RS hV2 55 vs ⟨[(0,.ext x)],1⟩=some (v,⟨t,n⟩)∧aa 0 t=some (.ext x'):=by
 unfold fx at hs;split at hs
 ·injection hs with hs;injection hs with h1 h2;subst h1;subst h2;exact wR (e:=2) hx rfl
 ·rename_i a;cases he:bA x (.ofNat a) (.ofNat 32) with
  |succ e =>
   simp only[he] at hs;injection hs with hs;injection hs with h1 h2;subst h1;subst h2;exact wR hx (by simp only[fa,he])
  |zero =>
   simp only[he] at hs;cases hb:Nat.blt a 4611686018427387904 with
   |false=>simp only[hb,cond_false] at hs;cases hs
   |true =>
    simp only[hb,cond_true] at hs;injection hs with hs;injection hs with h1 h2;subst h1;subst h2;rw[aD,Zt] at hb;exact I8 hx (by simp only[fa,he]) (A1 he hb (by decide) (by decide) rfl) (gJ he hb (by decide) (by decide) rfl rfl) (gJ he hb (by decide) (by decide) rfl rfl) (gJ he hb (by decide) (by decide) rfl rfl) (gJ he hb (by decide) (by decide) rfl rfl)
 ·cases hs
def hV3:List (aK Ar):=(55,d6 fx (fun _=>none))::hV2
theorem GI:∀y∈hV3,aQ (a8 Cls) PZ W0 y.1 y.2 :=
 bk (E:=(a8 Cls)) (GF) (eJ (eV GF) (fun _ _ _ _ hx hs=>IZ hx hs) (fun _ _ _ hs=>by cases hs))
end Go.AI
namespace Go.AI
open Go.Proofs
variable {W0:World}{Cls:Nat→Int→Prop}
theorem FD{x:Ar}{a s b m:Int}{C:Nat}:bp F1 ac (ab hV3)
 [.run 11,.call (vI C) x,.run 4,.val (.bool true),.run 16]
 1000 76 [vwC a s,.int .i64 b,.int .i64 m] x=some ((vT [vA [.pointer none,vI 0,vI 0],vI C]),x,[.bin .neq .no (vI C) (vI 0) (.bool true),.call 79 x [vA [pA,.int .i64 a,.int .i64 s],.int .i64 b,.int .i64 m] (vI C) x]):=by kernel_rfl
theorem GP{x:Ar}{a s b m:Int}{C:Nat}:bp F1 ac (ab hV3)
 [.run 11,.call (vI C) x,.run 4,.val (.bool false),.run 9,.val (.int .i64 (ai IntKind.i64 (a+b))),.run 1,.call (vK (vA [pA,.int .i64 (ai IntKind.i64 (a+b)),.int .i64 m])) x,.run 16]
 1000 76 [vwC a s,.int .i64 b,.int .i64 m] x=some ((vK (vA [pA,.int .i64 (ai IntKind.i64 (a+b)),.int .i64 m])),x,[.call 69 x [pA,.int .i64 (ai IntKind.i64 (a+b)),.int .i64 m] (vK (vA [pA,.int .i64 (ai IntKind.i64 (a+b)),.int .i64 m])) x,.bin .add .no (.int .i64 a) (.int .i64 b) (.int .i64 (ai IntKind.i64 (a+b))),.bin .neq .no (vI C) (vI 0) (.bool false),.call 79 x [vA [pA,.int .i64 a,.int .i64 s],.int .i64 b,.int .i64 m] (vI C) x]):=by kernel_rfl
theorem DM{x:Ar}{a s b m:Int}{C:Nat}(hx:x.refuse<9223372036854775808)(hC:ep x [vwC a s,.int .i64 b,.int .i64 m]=some (ah C,x))(hO:fa x [pA,.int .i64 (ai .i64 (a+b)),.int .i64 m]=some (.tuple ⟨[vwC (ai .i64 (a+b)) m,ah 0]⟩,x)):∃t nx,RS hV3 76 [vwC a s,.int .i64 b,.int .i64 m] ⟨[(0,.ext x)],1⟩=some (bif !bz (.ofNat C) (.ofNat 0) then .tuple ⟨[vwZ,ah C]⟩ else .tuple ⟨[vwC (ai .i64 (a+b)) m,ah 0]⟩,⟨t,nx⟩)∧aa 0 t=some (.ext x):=by
 cases hb1:!bz (Int.ofNat C) (Int.ofNat 0) with
 |true =>
  refine bO (aC (FD (x:=x) (a:=a) (s:=s) (b:=b) (m:=m) (C:=C)) ?_) ?_ ?_
  ·repeat' first|exact trivial|assumption|exact aA rfl (by assumption)|exact⟨_,_,rfl,by first|assumption|rfl⟩|apply And.intro|rfl
  all_goals first|rfl|(simp only[cond_true, *,zT,cond_false]<;>rfl)
 |false =>
  refine bO (aC (GP (x:=x) (a:=a) (s:=s) (b:=b) (m:=m) (C:=C)) ?_) ?_ ?_
  ·repeat' first|exact trivial|assumption|exact aA rfl (by assumption)|exact⟨_,_,rfl,by first|assumption|rfl⟩|apply And.intro|rfl
  all_goals first|rfl|(simp only[cond_true, *,zT,cond_false]<;>rfl)
theorem Ck{x:Ar}{a s b m:Int}{C:Nat}:bp F1 ac (ab hV3)
 [.run 11,.call (vI C) x,.run 4,.val (.bool true),.run 16]
 1000 76 [vwC a s,.int .i64 b,.int .i64 m] x=some ((vT [vA [.pointer none,vI 0,vI 0],vI C]),x,[.bin .neq .no (vI C) (vI 0) (.bool true),.call 79 x [vA [pA,.int .i64 a,.int .i64 s],.int .i64 b,.int .i64 m] (vI C) x]):=by kernel_rfl
theorem Bn{x:Ar}{a s b m:Int}{C e:Nat}:bp F1 ac (ab hV3)
 [.run 11,.call (vI C) x,.run 4,.val (.bool false),.run 9,.val (.int .i64 (ai IntKind.i64 (a+b))),.run 1,.call (vT [vA [.pointer none,vI 0,vI 0],vI (e+1)]) x,.run 16]
 1000 76 [vwC a s,.int .i64 b,.int .i64 m] x=some ((vT [vA [.pointer none,vI 0,vI 0],vI (e+1)]),x,[.call 69 x [pA,.int .i64 (ai IntKind.i64 (a+b)),.int .i64 m] (vT [vA [.pointer none,vI 0,vI 0],vI (e+1)]) x,.bin .add .no (.int .i64 a) (.int .i64 b) (.int .i64 (ai IntKind.i64 (a+b))),.bin .neq .no (vI C) (vI 0) (.bool false),.call 79 x [vA [pA,.int .i64 a,.int .i64 s],.int .i64 b,.int .i64 m] (vI C) x]):=by kernel_rfl
theorem Aw{x:Ar}{a s b m:Int}{C e:Nat}(hx:x.refuse<9223372036854775808)(hC:ep x [vwC a s,.int .i64 b,.int .i64 m]=some (ah C,x))(hO:fa x [pA,.int .i64 (ai .i64 (a+b)),.int .i64 m]=some (.tuple ⟨[vwZ,ah (e+1)]⟩,x)):∃t nx,RS hV3 76 [vwC a s,.int .i64 b,.int .i64 m] ⟨[(0,.ext x)],1⟩=some (bif !bz (.ofNat C) (.ofNat 0) then .tuple ⟨[vwZ,ah C]⟩ else .tuple ⟨[vwZ,ah (e+1)]⟩,⟨t,nx⟩)∧aa 0 t=some (.ext x):=by
 cases hb1:!bz (Int.ofNat C) (Int.ofNat 0) with
 |true =>
  refine bO (aC (Ck (x:=x) (a:=a) (s:=s) (b:=b) (m:=m) (C:=C)) ?_) ?_ ?_
  ·repeat' first|exact trivial|assumption|exact aA rfl (by assumption)|exact⟨_,_,rfl,by first|assumption|rfl⟩|apply And.intro|rfl
  all_goals first|rfl|(simp only[cond_true, *,zT,cond_false]<;>rfl)
 |false =>
  refine bO (aC (Bn (x:=x) (a:=a) (s:=s) (b:=b) (m:=m) (C:=C) (e:=e)) ?_) ?_ ?_
  ·repeat' first|exact trivial|assumption|exact aA rfl (by assumption)|exact⟨_,_,rfl,by first|assumption|rfl⟩|apply And.intro|rfl
  all_goals first|rfl|(simp only[cond_true, *,zT,cond_false]<;>rfl)
theorem KT{x x':Ar}{vs:List Value}{v:Value}(hx:x.refuse<9223372036854775808)(hs:nB x vs=some (v,x')):∃t n,RS hV3 76 vs ⟨[(0,.ext x)],1⟩=some (v,⟨t,n⟩)∧aa 0 t=some (.ext x'):=by
 unfold nB at hs;split at hs
 ·rename_i a s b m;have hC:ep x [vwC a s,.int .i64 b,.int .i64 m]=some (ah (fK s b m),x):=rfl;cases hc:fK s b m with
  |succ k =>
   simp only[hc] at hs;injection hs with hs;injection hs with h1 h2;subst h1;subst h2;rw[hc] at hC;cases he:bA x (ai .i64 (a+b)) m with
   |zero=>exact DM hx hC (by simp only[fa,he])
   |succ e=>exact Aw (e:=e) hx hC (by simp only[fa,he])
  |zero =>
   simp only[hc] at hs;rw[hc] at hC;cases he:bA x (ai .i64 (a+b)) m with
   |zero=>simp only[fa,he] at hs;injection hs with hs;injection hs with h1 h2;subst h1;subst h2;exact DM hx hC (by simp only[fa,he])
   |succ e=>simp only[fa,he] at hs;injection hs with hs;injection hs with h1 h2;subst h1;subst h2;exact Aw (e:=e) hx hC (by simp only[fa,he])
 ·cases hs
theorem DR{p q a b:Int}{k1 k2:IntKind}:eA F1 ac (ab hV3)
 [.run 48]
 1000 76 [.agg ⟨[.pointer none,.int .i64 p,.int .i64 q]⟩,.int k1 a,.int k2 b]=some ((vT [vA [.pointer none,vI 0,vI 0],vI 1]),[]):=by kernel_rfl
theorem L4{p q a b:Int}{k1 k2:IntKind}  : ∃h',RS hV3 76 [.agg ⟨[.pointer none,.int .i64 p,.int .i64 q]⟩,.int k1 a,.int k2 b] ⟨[],0⟩=some (.tuple ⟨[vwZ,ah 1]⟩,h'):=by
 refine fj (cy (DR (p:=p) (q:=q) (a:=a) (b:=b) (k1:=k1) (k2:=k2)) ?_) ?_
 ·repeat' first|exact trivial|assumption|exact aA rfl (by assumption)|exact⟨_,_,rfl,by first|assumption|rfl⟩|apply And.intro|rfl
 ·first|rfl|(simp only[cond_true, *,zT,cond_false]<;>rfl)
theorem Mt{vs:List Value}{v:Value}(hs:lC 2 (.tuple ⟨[vwZ,ah 1]⟩) vs=some v):∃h',RS hV3 76 vs ⟨[],0⟩=some (v,h'):=by
 obtain⟨p,q,l,rfl,hl,rfl⟩:=gK hs;obtain⟨_,_,_,_,rfl⟩:=AA hl;exact L4
def hV4:List (aK Ar):=(76,d6 nB (lC 2 (.tuple ⟨[vwZ,ah 1]⟩)))::hV3
theorem yr:∀y∈hV4,aQ (a8 Cls) PZ W0 y.1 y.2 :=
 bk (E:=(a8 Cls)) (GI) (eJ (eV GI) (fun _ _ _ _ hx hs=>KT hx hs) (fun _ _ _ hs=>Mt hs))
end Go.AI
