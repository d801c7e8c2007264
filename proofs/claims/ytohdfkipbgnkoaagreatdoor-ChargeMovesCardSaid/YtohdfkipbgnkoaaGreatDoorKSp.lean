/- A node at an address; its numbers: what is said of them. No program is named here. -/
import Derived.Test.YtohdfkipbgnkoaaGreatDoorKV
set_option maxHeartbeats 1600000
set_option maxRecDepth 100000
namespace Go.AI
variable {x:Ar}
abbrev ndC(a w:Nat):Value:=.agg ⟨[pR,pA,i0 (a+160),i0 32,.int .u64 (.ofNat w),pA,i0 (a+160),i0 32,i0 1024,pA,i0 (a+32),i0 992]⟩
abbrev ndZ:Value:=.agg ⟨[.pointer none,.pointer none,i0 0,i0 0,.int .u64 (.ofNat 0),.pointer none,i0 0,i0 0,i0 0,.pointer none,i0 0,i0 0]⟩
def zA(w w0 w1:Nat)(n:Int):Bool:=bz (.ofNat w) (.ofNat 0)||(!bz (.ofNat w0) (.ofNat 1162104654)||(!bz n (.ofNat 0)||!bz (.ofNat w1) (.ofNat w)))
def ndE(x:Ar)(a:Nat):Nat:=bif zA (ckW x a) (de x (.ofNat (a+136)) (.ofNat 8)) (de x (.ofNat (a+32)) (.ofNat 8)) (ckN x a) then 7 else 0
def dX(x:Ar):Int→Option Nat
 | .negSucc _=>some 3
 | .ofNat a=>match bA x (.ofNat a) (.ofNat 32) with
  |e+1=>some (e+1)
  |0=>bif Nat.blt a 4611686018427387904 then(bif mL a (de x (.ofNat (a+0)) (.ofNat 4)) (ckO x a) (ckN x a) then some 7 else some (ndE x a)) else none
def dT(x:Ar)(a:Int)(z:Nat→Value)(f:Nat→Value):Option (Value×Ar):=match dX x a with
 |some (e+1)=>some (z (e+1),x)
 |some 0=>match a with
  | .ofNat a=>some (f a,x)
  |_=>none
 |none=>none
def aZ:Spec
 |x,[.pointer (some ⟨2,0,none⟩),.int .i64 a]=>dT x a (fun e=>.tuple ⟨[ndZ,ah e]⟩) fun a=>.tuple ⟨[ndC a (ckW x a),ah 0]⟩
 |_,_=>none
def nP:List Value→Option Value
 |[.pointer none,.int .i64 _]=>some (.tuple ⟨[ndZ,ah 1]⟩)
 |_=>none
theorem ya{l:List (Option Nat)}{a:Nat}(h:bd l a 32=0)(ha:a % 4096=0):bd l a 4096=0:=by
 have ht:=eo h;obtain⟨P,hP⟩:=ht.2 (by decide) (a / 4096) (Ze _) (by omega);refine qz ⟨?_,fun _ q q1 q2=>⟨P,?_⟩⟩
 ·have:=ht.1;omega
 ·have e:q=a / 4096:=by omega
  exact e▸hP
theorem ig{a b m:Nat}(h:bA x (.ofNat a) (.ofNat 32)=0)(ha:a % 4096=0)(h1:b+m≤4096):bA x (.ofNat (a+b)) (.ofNat m)=0 :=
 lY (bytesE_zero.2 (ya (bytesE_zero.1 h) ha)) h1
theorem su{a l0:Nat}{o n:Int}(h:mL a l0 o n=false):a % 4096=0:=by
 have e:(!bz (.ofNat (Nat.mod a 4096)) (.ofNat 0))=false:=by
  unfold mL at h;rw[Bool.or_eq_false_iff,Bool.or_eq_false_iff] at h;exact h.2.1
 rw[Bool.not_eq_false',d7,beq_iff_eq] at e;exact Zx e
end Go.AI
namespace Go.AI
open Go.Proofs
variable {W0:World}{Cls:Nat→Int→Prop}
theorem BC{x:Ar}{rr rb:List Value}{a1 w:Nat}{o n:Int}:aU F1 ac (ab hV4)
 [.run 21,.call (vK (vA [vI a1,.int .i64 o,vU w,.int .i64 n])) x,.run 35,.call (vK (vW (a1+32) 992)) x,.run 6,.fin,.run 9,.call (vK (vW (a1+160) 32)) x,.run 63,.val (.bool true),.run 112]
 1000 28 [pR,i0 a1] x rr rb=some ((vT [ndZ,vI 7]),x,pA::rb,pB::rr,[.bin .eql .no (vU w) (vU 0) (.bool true),.call 76 x [vW (a1+32) 992,vI 128,vI 32] (vK (vW (a1+160) 32)) x,.same [dI a1],.call 69 x [pA,.int .i64 (ai IntKind.i64 (Int.ofNat a1+32)),vI 992] (vK (vW (a1+32) 992)) x,.call 55 x [pA,vI a1] (vK (vA [vI a1,.int .i64 o,vU w,.int .i64 n])) x]):=by kernel_rfl
theorem Ca{x:Ar}{rr rb:List Value}{a1 w w0:Nat}{o n:Int}:aU F1 ac (ab hV4)
 [.run 21,.call (vK (vA [vI a1,.int .i64 o,vU w,.int .i64 n])) x,.run 35,.call (vK (vW (a1+32) 992)) x,.run 6,.fin,.run 9,.call (vK (vW (a1+160) 32)) x,.run 63,.val (.bool false),.run 110,.fin,.run 20,.call (vK (vU w0)) x,.run 9,.val (.bool true),.run 48]
 1000 28 [pR,i0 a1] x rr rb=some ((vT [ndZ,vI 7]),x,pA::rb,pB::rr,[.bin .neq .no (vU w0) (vU 1162104654) (.bool true),.call 56 x [vW (a1+32) 992,vI 104,vI 8] (vK (vU w0)) x,.same [dI (a1+32),dI 992,dI (a1+32),dI 992,dI (a1+160),dI 32,dU w,dI (a1+160),dI 32,dI 1024],.bin .eql .no (vU w) (vU 0) (.bool false),.call 76 x [vW (a1+32) 992,vI 128,vI 32] (vK (vW (a1+160) 32)) x,.same [dI a1],.call 69 x [pA,.int .i64 (ai IntKind.i64 (Int.ofNat a1+32)),vI 992] (vK (vW (a1+32) 992)) x,.call 55 x [pA,vI a1] (vK (vA [vI a1,.int .i64 o,vU w,.int .i64 n])) x]):=by kernel_rfl
theorem Bb{x:Ar}{rr rb:List Value}{a1 w w0:Nat}{o n:Int}:aU F1 ac (ab hV4)
 [.run 21,.call (vK (vA [vI a1,.int .i64 o,vU w,.int .i64 n])) x,.run 35,.call (vK (vW (a1+32) 992)) x,.run 6,.fin,.run 9,.call (vK (vW (a1+160) 32)) x,.run 63,.val (.bool false),.run 110,.fin,.run 20,.call (vK (vU w0)) x,.run 9,.val (.bool false),.run 3,.val (.bool true),.run 8,.fin,.run 16]
 1000 28 [pR,i0 a1] x rr rb=some ((vT [ndZ,vI 7]),x,pA::rb,pB::rr,[.same [vD (.int .i64 n)],.bin .neq .no (.int .i64 n) (vI 0) (.bool true),.bin .neq .no (vU w0) (vU 1162104654) (.bool false),.call 56 x [vW (a1+32) 992,vI 104,vI 8] (vK (vU w0)) x,.same [dI (a1+32),dI 992,dI (a1+32),dI 992,dI (a1+160),dI 32,dU w,dI (a1+160),dI 32,dI 1024],.bin .eql .no (vU w) (vU 0) (.bool false),.call 76 x [vW (a1+32) 992,vI 128,vI 32] (vK (vW (a1+160) 32)) x,.same [dI a1],.call 69 x [pA,.int .i64 (ai IntKind.i64 (Int.ofNat a1+32)),vI 992] (vK (vW (a1+32) 992)) x,.call 55 x [pA,vI a1] (vK (vA [vI a1,.int .i64 o,vU w,.int .i64 n])) x]):=by kernel_rfl
theorem Cm{x:Ar}{rr rb:List Value}{a1 w w0 w1:Nat}{o n:Int}:aU F1 ac (ab hV4)
 [.run 21,.call (vK (vA [vI a1,.int .i64 o,vU w,.int .i64 n])) x,.run 35,.call (vK (vW (a1+32) 992)) x,.run 6,.fin,.run 9,.call (vK (vW (a1+160) 32)) x,.run 63,.val (.bool false),.run 110,.fin,.run 20,.call (vK (vU w0)) x,.run 9,.val (.bool false),.run 3,.val (.bool false),.run 24,.call (vK (vU w1)) x,.run 15,.val (.bool true),.run 1,.fin,.run 16]
 1000 28 [pR,i0 a1] x rr rb=some ((vT [ndZ,vI 7]),x,pA::rb,pB::rr,[.same [dU w,dU w,dI (a1+160),dI 32,dU w,dI (a1+160),dI 32,dI 1024,dI (a1+32),dI 992,vD (.int .i64 n)],.bin .neq .no (vU w1) (vU w) (.bool true),.call 56 x [vW (a1+32) 992,vI 0,vI 8] (vK (vU w1)) x,.bin .neq .no (.int .i64 n) (vI 0) (.bool false),.bin .neq .no (vU w0) (vU 1162104654) (.bool false),.call 56 x [vW (a1+32) 992,vI 104,vI 8] (vK (vU w0)) x,.same [dI (a1+32),dI 992,dI (a1+32),dI 992,dI (a1+160),dI 32,dU w,dI (a1+160),dI 32,dI 1024],.bin .eql .no (vU w) (vU 0) (.bool false),.call 76 x [vW (a1+32) 992,vI 128,vI 32] (vK (vW (a1+160) 32)) x,.same [dI a1],.call 69 x [pA,.int .i64 (ai IntKind.i64 (Int.ofNat a1+32)),vI 992] (vK (vW (a1+32) 992)) x,.call 55 x [pA,vI a1] (vK (vA [vI a1,.int .i64 o,vU w,.int .i64 n])) x]):=by kernel_rfl
theorem Di{x:Ar}{rr rb:List Value}{a1 w w0 w1:Nat}{o n:Int}:aU F1 ac (ab hV4)
 [.run 21,.call (vK (vA [vI a1,.int .i64 o,vU w,.int .i64 n])) x,.run 35,.call (vK (vW (a1+32) 992)) x,.run 6,.fin,.run 9,.call (vK (vW (a1+160) 32)) x,.run 63,.val (.bool false),.run 110,.fin,.run 20,.call (vK (vU w0)) x,.run 9,.val (.bool false),.run 3,.val (.bool false),.run 24,.call (vK (vU w1)) x,.run 15,.val (.bool false),.run 1,.fin,.run 16]
 1000 28 [pR,i0 a1] x rr rb=some ((vK (ndC a1 w)),x,pA::rb,pB::rr,[.same [dU w,dU w,dI (a1+160),dI 32,dU w,dI (a1+160),dI 32,dI 1024,dI (a1+32),dI 992,vD (.int .i64 n)],.bin .neq .no (vU w1) (vU w) (.bool false),.call 56 x [vW (a1+32) 992,vI 0,vI 8] (vK (vU w1)) x,.bin .neq .no (.int .i64 n) (vI 0) (.bool false),.bin .neq .no (vU w0) (vU 1162104654) (.bool false),.call 56 x [vW (a1+32) 992,vI 104,vI 8] (vK (vU w0)) x,.same [dI (a1+32),dI 992,dI (a1+32),dI 992,dI (a1+160),dI 32,dU w,dI (a1+160),dI 32,dI 1024],.bin .eql .no (vU w) (vU 0) (.bool false),.call 76 x [vW (a1+32) 992,vI 128,vI 32] (vK (vW (a1+160) 32)) x,.same [dI a1],.call 69 x [pA,.int .i64 (ai IntKind.i64 (Int.ofNat a1+32)),vI 992] (vK (vW (a1+32) 992)) x,.call 55 x [pA,vI a1] (vK (vA [vI a1,.int .i64 o,vU w,.int .i64 n])) x]):=by kernel_rfl
theorem Jb{x:Ar}{rr rb:List Value}{a1 w w0 w1:Nat}{o n:Int}(hx:x.refuse<9223372036854775808)(hC:fx x [pA,i0 a1]=some (.tuple ⟨[ckC (.ofNat a1) o w n,ah 0]⟩,x))(hO:fa x [pA,.int .i64 (ai IntKind.i64 (Int.ofNat a1+32)),i0 992]=some (.tuple ⟨[vwC (.ofNat (a1+32)) (.ofNat 992),ah 0]⟩,x))(hP:nB x [vwC (.ofNat (a1+32)) (.ofNat 992),vI 128,vI 32]=some (.tuple ⟨[vwC (.ofNat (a1+160)) (.ofNat 32),ah 0]⟩,x))(h0:cz x [vwC (.ofNat (a1+32)) (.ofNat 992),vI 104,vI 8]=some (.tuple ⟨[fz w0,ah 0]⟩,x))(h1:cz x [vwC (.ofNat (a1+32)) (.ofNat 992),vI 0,vI 8]=some (.tuple ⟨[fz w1,ah 0]⟩,x)):RQ hV4 28 [pR,i0 a1] x rr rb (bif zA w w0 w1 n then .tuple ⟨[ndZ,ah 7]⟩ else .tuple ⟨[ndC a1 w,ah 0]⟩) x:=by
 unfold zA;cases hb1:bz (Int.ofNat w) (Int.ofNat 0) with
 |true =>
  refine aX (av (BC (x:=x) (rr:=rr) (rb:=rb) (a1:=a1) (w:=w) (o:=o) (n:=n)) ?_) ?_ ?_
  ·repeat' first|exact trivial|assumption|exact aA rfl (by assumption)|exact⟨_,_,rfl,by first|assumption|rfl⟩|apply And.intro|rfl
  all_goals first|rfl|(simp only[cond_true, *,zT,cond_false]<;>rfl)
 |false =>
  cases hb2:!bz (Int.ofNat w0) (Int.ofNat 1162104654) with
  |true =>
   refine aX (av (Ca (x:=x) (rr:=rr) (rb:=rb) (a1:=a1) (w:=w) (w0:=w0) (o:=o) (n:=n)) ?_) ?_ ?_
   ·repeat' first|exact trivial|assumption|exact aA rfl (by assumption)|exact⟨_,_,rfl,by first|assumption|rfl⟩|apply And.intro|rfl
   all_goals first|rfl|(simp only[cond_true, *,zT,cond_false]<;>rfl)
  |false =>
   cases hb3:!bz n (Int.ofNat 0) with
   |true =>
    refine aX (av (Bb (x:=x) (rr:=rr) (rb:=rb) (a1:=a1) (w:=w) (w0:=w0) (o:=o) (n:=n)) ?_) ?_ ?_
    ·repeat' first|exact trivial|assumption|exact aA rfl (by assumption)|exact⟨_,_,rfl,by first|assumption|rfl⟩|apply And.intro|rfl
    all_goals first|rfl|(simp only[cond_true, *,zT,cond_false]<;>rfl)
   |false =>
    cases hb4:!bz (Int.ofNat w1) (Int.ofNat w) with
    |true =>
     refine aX (av (Cm (x:=x) (rr:=rr) (rb:=rb) (a1:=a1) (w:=w) (w0:=w0) (w1:=w1) (o:=o) (n:=n)) ?_) ?_ ?_
     ·repeat' first|exact trivial|assumption|exact aA rfl (by assumption)|exact⟨_,_,rfl,by first|assumption|rfl⟩|apply And.intro|rfl
     all_goals first|rfl|(simp only[cond_true, *,zT,cond_false]<;>rfl)
    |false =>
     refine aX (av (Di (x:=x) (rr:=rr) (rb:=rb) (a1:=a1) (w:=w) (w0:=w0) (w1:=w1) (o:=o) (n:=n)) ?_) ?_ ?_
     ·repeat' first|exact trivial|assumption|exact aA rfl (by assumption)|exact⟨_,_,rfl,by first|assumption|rfl⟩|apply And.intro|rfl
     all_goals first|rfl|(simp only[cond_true, *,zT,cond_false]<;>rfl)
theorem yL{x:Ar}{rr rb:List Value}{a:Int}{e:Nat}:aU F1 ac (ab hV4)
 [.run 21,.call (vT [vA [vI 0,vI 0,vU 0,vI 0],vI (e+1)]) x,.run 48]
 1000 28 [pR,.int .i64 a] x rr rb=some ((vT [ndZ,vI (e+1)]),x,pA::rb,pB::rr,[.call 55 x [pA,.int .i64 a] (vT [vA [vI 0,vI 0,vU 0,vI 0],vI (e+1)]) x]):=by kernel_rfl
theorem rn{x:Ar}{rr rb:List Value}{a:Int}{e:Nat}(hx:x.refuse<9223372036854775808)(hC:fx x [pA,.int .i64 a]=some (.tuple ⟨[ckZ,ah (e+1)]⟩,x)):RQ hV4 28 [pR,.int .i64 a] x rr rb (.tuple ⟨[ndZ,ah (e+1)]⟩) x:=by
 refine aX (av (yL (x:=x) (rr:=rr) (rb:=rb) (a:=a) (e:=e)) ?_) ?_ ?_
 ·repeat' first|exact trivial|assumption|exact aA rfl (by assumption)|exact⟨_,_,rfl,by first|assumption|rfl⟩|apply And.intro|rfl
 all_goals first|rfl|(simp only[cond_true, *,zT,cond_false]<;>rfl)
theorem Hh{x x':Ar}{rr rb vs:List Value}{v:Value}(hx:x.refuse<9223372036854775808)(hs:aZ x vs=some (v,x')):RQ hV4 28 vs x rr rb (v) x':=by
 unfold aZ at hs;split at hs
 ·rename_i a;unfold dT at hs;cases a with
  |negSucc a=>simp only[dX] at hs;injection hs with hs;injection hs with h1 h2;subst h1;subst h2;exact rn (e:=2) hx rfl
  |ofNat a =>
   cases he:bA x (.ofNat a) (.ofNat 32) with
   |succ e=>simp only[dX,he] at hs;injection hs with hs;injection hs with h1 h2;subst h1;subst h2;exact rn hx (by simp only[fx,he])
   |zero =>
    cases hb:Nat.blt a 4611686018427387904 with
    |false=>simp only[dX,he,hb,cond_false] at hs;cases hs
    |true =>
     cases hk:mL a (de x (.ofNat (a+0)) (.ofNat 4)) (ckO x a) (ckN x a) with
     |true=>simp only[dX,he,hb,hk,cond_true] at hs;injection hs with hs;injection hs with h1 h2;subst h1;subst h2;exact rn (e:=6) hx (by simp only[fx,he,hb,hk,cond_true])
     |false =>
      have hm:=su hk;have hb':=hb;rw[aD,Zt] at hb';have hb2:a+32<4611686018427387904:=by omega
      have hv:=ig he hm (b:=32) (m:=992) (by decide);have e1:ai .i64 (Int.ofNat a+32)=Int.ofNat (a+32):=kE hb' (by decide);have e2:ai .i64 (Int.ofNat (a+32)+Int.ofNat 128)=Int.ofNat (a+160):=kE hb2 (by decide);have hv2:=ig he hm (b:=160) (m:=32) (by decide);have h0:=gJ (b:=104) (m:=8) hv hb2 (by decide) (by decide) rfl rfl;have h1:=gJ (b:=0) (m:=8) hv hb2 (by decide) (by decide) rfl rfl;rw[show a+32+104=a+136 by omega] at h0;have h:=Jb (rr:=rr) (rb:=rb) hx (show fx x [pA,i0 a]=some (.tuple ⟨[ckC (.ofNat a) (ckO x a) (ckW x a) (ckN x a),ah 0]⟩,x) by simp only[fx,he,hb,hk,cond_true,cond_false]) (by rw[e1];simp only[fa,hv]) (by
       have:fK (.ofNat 992) (.ofNat 128) (.ofNat 32)=0:=rfl;simp only[nB,this,e2,fa,hv2]) h0 h1
      simp only[dX,he,hb,hk,cond_true,cond_false,ndE] at hs;cases hn:zA (ckW x a) (de x (.ofNat (a+136)) (.ofNat 8)) (de x (.ofNat (a+32)) (.ofNat 8)) (ckN x a) with
      |true=>rw[hn] at hs h;simp only[cond_true] at hs;injection hs with hs;injection hs with h1 h2;subst h1;subst h2;exact h
      |false=>rw[hn] at hs h;simp only[cond_false] at hs;injection hs with hs;injection hs with h1 h2;subst h1;subst h2;exact h
 ·cases hs
theorem Dr{a:Int}:eA F1 ac (ab hV4)
 [.run 48]
 1000 28 [.pointer none,.int .i64 a]=some ((vT [ndZ,vI 1]),[]):=by kernel_rfl
theorem Jf{a:Int}  : ∃h',RS hV4 28 [.pointer none,.int .i64 a] ⟨[],0⟩=some (.tuple ⟨[ndZ,ah 1]⟩,h'):=by
 refine fj (cy (Dr (a:=a)) ?_) ?_
 ·repeat' first|exact trivial|assumption|exact aA rfl (by assumption)|exact⟨_,_,rfl,by first|assumption|rfl⟩|apply And.intro|rfl
 ·first|rfl|(simp only[cond_true, *,zT,cond_false]<;>rfl)
theorem I9{vs:List Value}{v:Value}(hs:nP vs=some v):∃h',RS hV4 28 vs ⟨[],0⟩=some (v,h'):=by
 unfold nP at hs;split at hs
 ·injection hs with hs;subst hs;exact Jf
 ·cases hs
def hV6:List (aK Ar):=(28,cH aZ nP)::hV4
theorem oq:∀y∈hV6,aQ (a8 Cls) PZ W0 y.1 y.2 :=
 bk (E:=(a8 Cls)) yr (ew (eV yr) (fun _ _ _ _ _ _ hx _ _ hs=>Hh hx hs) fun _ _ _ hs=>I9 hs)
end Go.AI
namespace Go.AI
theorem rZ{l:List (Option Nat)}{q P Q:Nat}(h:bt l q=some P):bt (bJ l q (some Q)) q=some Q:=by
 induction l generalizing q with
 |nil=>cases h
 |cons p r ih =>
  cases q with
  |zero=>rfl
  |succ q=>exact ih h
theorem vB{l:List (Option Nat)}{q i:Nat}{Q:Option Nat}(h:i≠q):bt (bJ l q Q) i=bt l i:=by
 induction l generalizing q i with
 |nil=>rfl
 |cons p r ih =>
  cases q with
  |zero =>
   cases i with
   |zero=>exact absurd rfl h
   |succ i=>rfl
  |succ q =>
   cases i with
   |zero=>rfl
   |succ i=>exact ih fun e=>h (by rw[e])
def pgW(P off k:Nat):Nat:=Nat.mod (Nat.shiftRight P (Nat.mul 8 off)) (Nat.pow 256 k)
theorem uz(P off k j:Nat):(pgW P off k).testBit j=(decide (j<8*k)&&P.testBit (8*off+j)):=by
 have h:pgW P off k=(P >>> (8*off)) % 2 ^ (8*k):=by
  show(P >>> (8*off)) % 256 ^ k=_;rw[show(256:Nat) ^ k=2 ^ (8*k) by rw[Nat.pow_mul]]
 rw[h,Nat.testBit_mod_two_pow,Nat.testBit_shiftRight]
theorem KX{P off k v o m:Nat}(hv:v<256 ^ k)(hd:o+m≤off∨off+k≤o):pgW (a7 P off k v) o m=pgW P o m:=by
 have hv':v<2 ^ (8*k):=by rw[Nat.pow_mul];exact hv
 apply Nat.eq_of_testBit_eq;intro j;rw[uz,uz,uP hv'];by_cases hj:j<8*m
 ·rw[if_neg (by omega)]
 ·simp only[Zs hj,Bool.false_and]
theorem LT{P off k v:Nat}(hv:v<256 ^ k):pgW (a7 P off k v) off k=v:=by
 have hv':v<2 ^ (8*k):=by rw[Nat.pow_mul];exact hv
 apply Nat.eq_of_testBit_eq;intro j;rw[uz,uP hv'];by_cases hj:j<8*k
 ·rw[if_pos (by omega),Zh hj,Bool.true_and,show 8*off+j-8*off=j by omega]
 ·rw[Zs hj,Bool.false_and];exact(Nat.testBit_lt_two_pow (Zj hv' (Nat.pow_le_pow_right (by decide) (by omega)))).symm
theorem qb{l:List (Option Nat)}{p P off k:Nat}(h:bt l p=some P)(hl:p<l.length)(h1:off+k≤4096):bd l (4096*p+off) k=0:=by
 refine qz ⟨?_,fun hk q q1 q2=>?_⟩
 ·have:(p+1)*4096≤l.length*4096:=Nat.mul_le_mul_right _ hl;omega
 ·have e:q=p:=by omega
  exact⟨P,e▸h⟩
theorem kS{x:Ar}{p P off k:Nat}(h:bt x.pages p=some P)(h1:off+k≤4096):bA x (.ofNat (4096*p+off)) (.ofNat k)=0 :=
 bytesE_zero.2 (qb h (ng h) h1)
theorem kI{x:Ar}{p P off k:Nat}(h:bt x.pages p=some P)(h1:off+k≤4096)(hk:da k=true)(hk0:0<k):de x (.ofNat (4096*p+off)) (.ofNat k)=pgW P off k:=by
 have h2:(4096*p+off) / 4096=p:=by
  by_cases e:off=4096
  ·exfalso;omega
  ·omega
 have h3:(4096*p+off) % 4096=off:=by omega
 have hb:Nat.ble (Nat.add (Nat.mod (4096*p+off) 4096) k) 4096=true:=by
  rw[Zk];show(4096*p+off) % 4096+k≤4096;rw[h3];exact h1
 simp only[de,hk,cond_true,qb h (ng h) h1,sA,hb];have e1:Nat.div (4096*p+off) 4096=p:=h2;have e2:Nat.mod (4096*p+off) 4096=off:=h3;rw[e1,e2,h];rfl
theorem sM{x:Ar}{p P off k v:Nat}(h:bt x.pages p=some P)(h1:off+k≤4096)(hk:da k=true)(hk0:0<k):jd x (.ofNat (4096*p+off)) (.ofNat k) v=⟨bJ x.pages p (some (a7 P off k (v % 256 ^ k))),x.armed,x.refuse⟩:=by
 have h2:(4096*p+off) / 4096=p:=by omega
 have h3:(4096*p+off) % 4096=off:=by omega
 have hb:Nat.ble (Nat.add (Nat.mod (4096*p+off) 4096) k) 4096=true:=by
  rw[Zk];show(4096*p+off) % 4096+k≤4096;rw[h3];exact h1
 simp only[jd,hk,cond_true,qb h (ng h) h1,qZ,hb];have e1:Nat.div (4096*p+off) 4096=p:=h2;have e2:Nat.mod (4096*p+off) 4096=off:=h3;rw[e1,e2,h];rfl
def wd(x:Ar)(a:Nat):Nat:=de x (.ofNat a) (.ofNat 8)
def stw(x:Ar)(a v:Nat):Ar:=jd x (.ofNat a) (.ofNat 8) v
theorem xR{x:Ar}{p P off v q:Nat}(h:bt x.pages p=some P)(h1:off+8≤4096):bt (stw x (4096*p+off) v).pages q=if q=p then some (a7 P off 8 (v % 256 ^ 8)) else bt x.pages q:=by
 unfold stw;rw[sM h h1 rfl (by decide)];by_cases e:q=p
 ·rw[if_pos e,e];exact rZ h
 ·rw[if_neg e];exact vB e
theorem rk{x:Ar}{p P off v q Q o k:Nat}(h:bt x.pages p=some P)(h1:off+8≤4096)(hq:bt x.pages q=some Q)(h2:o+k≤4096)(hk:da k=true)(hk0:0<k)(hd:q≠p∨o+k≤off∨off+8≤o) :
  de (stw x (4096*p+off) v) (.ofNat (4096*q+o)) (.ofNat k)=de x (.ofNat (4096*q+o)) (.ofNat k):=by
 have hp:=xR (v:=v) (q:=q) h h1;by_cases e:q=p
 ·rw[if_pos e] at hp;subst e;rw[hq] at h;injection h with h;subst h;rw[kI hp h2 hk hk0,kI hq h2 hk hk0];exact KX (Nat.mod_lt _ (by decide)) (hd.resolve_left fun h=>h rfl)
 ·rw[if_neg e] at hp;rw[hq] at hp;rw[kI hp h2 hk hk0,kI hq h2 hk hk0]
theorem Lr{x:Ar}{p P off v:Nat}(h:bt x.pages p=some P)(h1:off+8≤4096)(hv:v<18446744073709551616):wd (stw x (4096*p+off) v) (4096*p+off)=v:=by
 have hp:=xR (v:=v) (q:=p) h h1;rw[if_pos rfl] at hp;unfold wd;rw[kI hp h1 rfl (by decide),LT (Nat.mod_lt _ (by decide))];exact ZC hv
theorem qm{x:Ar}{p P off v:Nat}(h:bt x.pages p=some P)(h1:off+8≤4096):(stw x (4096*p+off) v).refuse=x.refuse:=by
 unfold stw;rw[sM h h1 rfl (by decide)]
end Go.AI
namespace Go.AI
variable {x:Ar}
theorem rp{a:Nat}(h:dX x (.ofNat a)=some 0):bA x (.ofNat a) (.ofNat 32)=0∧a<4611686018427387904∧a % 4096=0:=by
 simp only[dX] at h;split at h
 ·cases h
 ·rename_i he;cases hb:Nat.blt a 4611686018427387904 with
  |false=>rw[hb] at h;cases h
  |true =>
   rw[hb,cond_true] at h;cases hk:mL a (de x (.ofNat (a+0)) (.ofNat 4)) (ckO x a) (ckN x a) with
   |true=>rw[hk] at h;cases h
   |false =>
    rw[aD,Zt] at hb;exact⟨he,hb,su hk⟩
theorem dE{a:Nat}(h:dX x (.ofNat a)=some 0):aZ x [pR,i0 a]=some (.tuple ⟨[ndC a (ckW x a),ah 0]⟩,x):=by
 simp only[aZ,dT,h]
theorem dW{a:Int}{e:Nat}(h:dX x a=some (e+1)):aZ x [pR,.int .i64 a]=some (.tuple ⟨[ndZ,ah (e+1)]⟩,x):=by
 simp only[aZ,dT,h]
theorem eW{a b:Nat}(h:dX x (.ofNat a)=some 0)(hb:b+8≤992)(hv:fK (.ofNat 992) (.ofNat b) (.ofNat 8)=0):cz x [vwC (.ofNat (a+32)) (.ofNat 992),i0 b,i0 8]=some (.tuple ⟨[fz (wd x (a+32+b)),ah 0]⟩,x):=by
 obtain⟨h1,h2,h3⟩:=rp h;exact gJ (ig h1 h3 (by decide)) (by omega) (by omega) hb rfl hv
theorem d9{a b v:Nat}(h:dX x (.ofNat a)=some 0)(hb:b+8≤992)(hv:fK (.ofNat 992) (.ofNat b) (.ofNat 8)=0)(hz:Nat.blt v 18446744073709551616=true):cU x [vwC (.ofNat (a+32)) (.ofNat 992),i0 b,i0 8,.int .u64 (.ofNat v)]=some (ah 0,stw x (a+32+b) v):=by
 obtain⟨h1,h2,h3⟩:=rp h;exact CS (ig h1 h3 (by decide)) (by omega) (by omega) hb rfl hv hz
abbrev trC:Value:=.agg ⟨[pR]⟩
def tW(f:Nat):Bool:=Nat.ble 1 f&&Nat.ble f 5
def BF(x:Ar)(a f:Nat):Int:=ai .i64 (.ofNat (wd x (a+32+8*f)))
def dj:Spec
 |x,[.agg ⟨[.pointer (some ⟨2,0,none⟩)]⟩,.int .i64 a,.int .i64 (.ofNat f)]=>bif tW f then dT x a (fun _=>.int .i64 (.ofNat 0)) (fun a=>.int .i64 (BF x a f)) else none
 |_,_=>none
def bN:Spec
 |x,[.agg ⟨[.pointer (some ⟨2,0,none⟩)]⟩,.int .i64 a,.int .i64 (.ofNat f),.int .i64 (.ofNat v)]=>bif tW f&&Nat.blt v 9223372036854775808 then(match dX x a with
  |some (_+1)=>some (.tuple ⟨[]⟩,x)
  |some 0=>match a with
   | .ofNat a=>some (.tuple ⟨[]⟩,stw x (a+32+8*f) v)
   |_=>none
  |none=>none) else none
 |_,_=>none
def dR:Spec
 |x,[.agg ⟨[.pointer (some ⟨2,0,none⟩)]⟩,.int .i64 a]=>dT x a (fun e=>ah e) (fun _=>ah 0)
 |_,_=>none
def cq:Spec
 |x,[.agg ⟨[.pointer (some ⟨2,0,none⟩)]⟩,.int .i64 a]=>dT x a (fun _=>.int .i64 (.ofNat 0)) (fun a=>.int .i64 (BF x a 1))
 |_,_=>none
end Go.AI
namespace Go.AI
open Go.Proofs
variable {W0:World}{Cls:Nat→Int→Prop}
theorem FC{x:Ar}{rr rb:List Value}{a:Int}{e:Nat}:aU F1 ac (ab hV6)
 [.run 9,.callR (vT [ndZ,vI (e+1)]) x,.run 16]
 1000 57 [trC,.int .i64 a] x rr rb=some ((vI (e+1)),x,pA::rb,pB::rr,[.callR 28 x rr rb [pR,.int .i64 a] (vT [ndZ,vI (e+1)]) x]):=by kernel_rfl
theorem KN{x:Ar}{rr rb:List Value}{a:Int}{e:Nat}(hx:x.refuse<9223372036854775808)(hrr:aj ⟨0,1,2⟩ rr=some rr)(hrb:aj ⟨0,1,2⟩ rb=some rb)(hN:aZ x [pR,.int .i64 a]=some (.tuple ⟨[ndZ,ah (e+1)]⟩,x)):RQ hV6 57 [trC,.int .i64 a] x rr rb (ah (e+1)) x:=by
 refine aX (av (FC (x:=x) (rr:=rr) (rb:=rb) (a:=a) (e:=e)) ?_) ?_ ?_
 ·repeat' first|exact trivial|assumption|exact aA rfl (by assumption)|exact⟨_,_,rfl,by first|assumption|rfl⟩|apply And.intro|rfl
 all_goals first|rfl|(simp only[cond_true, *,zT,cond_false]<;>rfl)
theorem HT{x:Ar}{rr rb:List Value}{a1 w:Nat}:aU F1 ac (ab hV6)
 [.run 9,.callR (vK (ndC a1 w)) x,.run 16]
 1000 57 [trC,i0 a1] x rr rb=some ((vI 0),x,pA::rb,pB::rr,[.callR 28 x rr rb [pR,vI a1] (vK (ndC a1 w)) x]):=by kernel_rfl
theorem NY{x:Ar}{rr rb:List Value}{a1 w:Nat}(hx:x.refuse<9223372036854775808)(hrr:aj ⟨0,1,2⟩ rr=some rr)(hrb:aj ⟨0,1,2⟩ rb=some rb)(hN:aZ x [pR,i0 a1]=some (.tuple ⟨[ndC a1 w,ah 0]⟩,x)):RQ hV6 57 [trC,i0 a1] x rr rb (ah 0) x:=by
 refine aX (av (HT (x:=x) (rr:=rr) (rb:=rb) (a1:=a1) (w:=w)) ?_) ?_ ?_
 ·repeat' first|exact trivial|assumption|exact aA rfl (by assumption)|exact⟨_,_,rfl,by first|assumption|rfl⟩|apply And.intro|rfl
 all_goals first|rfl|(simp only[cond_true, *,zT,cond_false]<;>rfl)
theorem CW{x:Ar}{rr rb:List Value}{a:Int}{e:Nat}:aU F1 ac (ab hV6)
 [.run 9,.callR (vT [ndZ,vI (e+1)]) x,.run 48]
 1000 26 [trC,.int .i64 a,vI 1] x rr rb=some ((vI 0),x,pA::rb,pB::rr,[.callR 28 x rr rb [pR,.int .i64 a] (vT [ndZ,vI (e+1)]) x]):=by kernel_rfl
theorem IM{x:Ar}{rr rb:List Value}{a:Int}{e:Nat}(hx:x.refuse<9223372036854775808)(hrr:aj ⟨0,1,2⟩ rr=some rr)(hrb:aj ⟨0,1,2⟩ rb=some rb)(hN:aZ x [pR,.int .i64 a]=some (.tuple ⟨[ndZ,ah (e+1)]⟩,x)):RQ hV6 26 [trC,.int .i64 a,vI 1] x rr rb (vI 0) x:=by
 refine aX (av (CW (x:=x) (rr:=rr) (rb:=rb) (a:=a) (e:=e)) ?_) ?_ ?_
 ·repeat' first|exact trivial|assumption|exact aA rfl (by assumption)|exact⟨_,_,rfl,by first|assumption|rfl⟩|apply And.intro|rfl
 all_goals first|rfl|(simp only[cond_true, *,zT,cond_false]<;>rfl)
theorem GZ{x:Ar}{rr rb:List Value}{a1 w n:Nat}:aU F1 ac (ab hV6)
 [.run 9,.callR (vK (ndC a1 w)) x,.run 38,.call (vK (vU n)) x,.run 12,.cvt (.int .i64 (ai IntKind.i64 (Int.ofNat n))),.run 16]
 1000 26 [trC,i0 a1,vI 1] x rr rb=some ((.int .i64 (ai IntKind.i64 (Int.ofNat n))),x,pA::rb,pB::rr,[.cv .i64 (vU n) (.int .i64 (ai IntKind.i64 (Int.ofNat n))),.call 56 x [vW (a1+32) 992,vI 8,vI 8] (vK (vU n)) x,.callR 28 x rr rb [pR,vI a1] (vK (ndC a1 w)) x]):=by kernel_rfl
theorem M1{x:Ar}{rr rb:List Value}{a1 w n:Nat}(hx:x.refuse<9223372036854775808)(hrr:aj ⟨0,1,2⟩ rr=some rr)(hrb:aj ⟨0,1,2⟩ rb=some rb)(hN:aZ x [pR,i0 a1]=some (.tuple ⟨[ndC a1 w,ah 0]⟩,x))(hL:cz x [vwC (.ofNat (a1+32)) (.ofNat 992),vI 8,vI 8]=some (.tuple ⟨[fz n,ah 0]⟩,x)):RQ hV6 26 [trC,i0 a1,vI 1] x rr rb (.int .i64 (ai .i64 (.ofNat n))) x:=by
 refine aX (av (GZ (x:=x) (rr:=rr) (rb:=rb) (a1:=a1) (w:=w) (n:=n)) ?_) ?_ ?_
 ·repeat' first|exact trivial|assumption|exact aA rfl (by assumption)|exact⟨_,_,rfl,by first|assumption|rfl⟩|apply And.intro|rfl
 all_goals first|rfl|(simp only[cond_true, *,zT,cond_false]<;>rfl)
theorem Ch{x:Ar}{rr rb:List Value}{a:Int}{e v:Nat}:aU F1 ac (ab hV6)
 [.run 8,.callR (vT [ndZ,vI (e+1)]) x,.run 16]
 1000 59 [trC,.int .i64 a,vI 1,vI v] x rr rb=some ((vT []),x,pA::rb,pB::rr,[.callR 28 x rr rb [pR,.int .i64 a] (vT [ndZ,vI (e+1)]) x]):=by kernel_rfl
theorem Hq{x:Ar}{rr rb:List Value}{a:Int}{e v:Nat}(hx:x.refuse<9223372036854775808)(hrr:aj ⟨0,1,2⟩ rr=some rr)(hrb:aj ⟨0,1,2⟩ rb=some rb)(hN:aZ x [pR,.int .i64 a]=some (.tuple ⟨[ndZ,ah (e+1)]⟩,x)):RQ hV6 59 [trC,.int .i64 a,vI 1,vI v] x rr rb (.tuple ⟨[]⟩) x:=by
 refine aX (av (Ch (x:=x) (rr:=rr) (rb:=rb) (a:=a) (e:=e) (v:=v)) ?_) ?_ ?_
 ·repeat' first|exact trivial|assumption|exact aA rfl (by assumption)|exact⟨_,_,rfl,by first|assumption|rfl⟩|apply And.intro|rfl
 all_goals first|rfl|(simp only[cond_true, *,zT,cond_false]<;>rfl)
theorem Fq{x X:Ar}{rr rb:List Value}{a1 w v:Nat}:aU F1 ac (ab hV6)
 [.run 8,.callR (vK (ndC a1 w)) x,.run 15,.cvt (.int .u64 (ai IntKind.u64 (Int.ofNat v))),.run 18,.call (vI 0) X,.run 16]
 1000 59 [trC,i0 a1,vI 1,vI v] x rr rb=some ((vT []),X,pA::rb,pB::rr,[.call 42 x [vW (a1+32) 992,vI 8,vI 8,.int .u64 (ai IntKind.u64 (Int.ofNat v))] (vI 0) X,.cv .u64 (vI v) (.int .u64 (ai IntKind.u64 (Int.ofNat v))),.callR 28 x rr rb [pR,vI a1] (vK (ndC a1 w)) x]):=by kernel_rfl
theorem Mj{x X:Ar}{rr rb:List Value}{a1 w v:Nat}(hx:x.refuse<9223372036854775808)(hrr:aj ⟨0,1,2⟩ rr=some rr)(hrb:aj ⟨0,1,2⟩ rb=some rb)(hN:aZ x [pR,i0 a1]=some (.tuple ⟨[ndC a1 w,ah 0]⟩,x))(hL:cU x [vwC (.ofNat (a1+32)) (.ofNat 992),vI 8,vI 8,.int .u64 (ai IntKind.u64 (Int.ofNat v))]=some (ah 0,X)):RQ hV6 59 [trC,i0 a1,vI 1,vI v] x rr rb (.tuple ⟨[]⟩) X:=by
 refine aX (av (Fq (x:=x) (X:=X) (rr:=rr) (rb:=rb) (a1:=a1) (w:=w) (v:=v)) ?_) ?_ ?_
 ·repeat' first|exact trivial|assumption|exact aA rfl (by assumption)|exact⟨_,_,rfl,by first|assumption|rfl⟩|apply And.intro|rfl
 all_goals first|rfl|(simp only[cond_true, *,zT,cond_false]<;>rfl)
theorem Cw{x:Ar}{rr rb:List Value}{a:Int}{e:Nat}:aU F1 ac (ab hV6)
 [.run 9,.callR (vT [ndZ,vI (e+1)]) x,.run 48]
 1000 26 [trC,.int .i64 a,vI 2] x rr rb=some ((vI 0),x,pA::rb,pB::rr,[.callR 28 x rr rb [pR,.int .i64 a] (vT [ndZ,vI (e+1)]) x]):=by kernel_rfl
theorem IJ{x:Ar}{rr rb:List Value}{a:Int}{e:Nat}(hx:x.refuse<9223372036854775808)(hrr:aj ⟨0,1,2⟩ rr=some rr)(hrb:aj ⟨0,1,2⟩ rb=some rb)(hN:aZ x [pR,.int .i64 a]=some (.tuple ⟨[ndZ,ah (e+1)]⟩,x)):RQ hV6 26 [trC,.int .i64 a,vI 2] x rr rb (vI 0) x:=by
 refine aX (av (Cw (x:=x) (rr:=rr) (rb:=rb) (a:=a) (e:=e)) ?_) ?_ ?_
 ·repeat' first|exact trivial|assumption|exact aA rfl (by assumption)|exact⟨_,_,rfl,by first|assumption|rfl⟩|apply And.intro|rfl
 all_goals first|rfl|(simp only[cond_true, *,zT,cond_false]<;>rfl)
theorem DT{x:Ar}{rr rb:List Value}{a1 w n:Nat}:aU F1 ac (ab hV6)
 [.run 9,.callR (vK (ndC a1 w)) x,.run 38,.call (vK (vU n)) x,.run 12,.cvt (.int .i64 (ai IntKind.i64 (Int.ofNat n))),.run 16]
 1000 26 [trC,i0 a1,vI 2] x rr rb=some ((.int .i64 (ai IntKind.i64 (Int.ofNat n))),x,pA::rb,pB::rr,[.cv .i64 (vU n) (.int .i64 (ai IntKind.i64 (Int.ofNat n))),.call 56 x [vW (a1+32) 992,vI 16,vI 8] (vK (vU n)) x,.callR 28 x rr rb [pR,vI a1] (vK (ndC a1 w)) x]):=by kernel_rfl
theorem MB{x:Ar}{rr rb:List Value}{a1 w n:Nat}(hx:x.refuse<9223372036854775808)(hrr:aj ⟨0,1,2⟩ rr=some rr)(hrb:aj ⟨0,1,2⟩ rb=some rb)(hN:aZ x [pR,i0 a1]=some (.tuple ⟨[ndC a1 w,ah 0]⟩,x))(hL:cz x [vwC (.ofNat (a1+32)) (.ofNat 992),vI 16,vI 8]=some (.tuple ⟨[fz n,ah 0]⟩,x)):RQ hV6 26 [trC,i0 a1,vI 2] x rr rb (.int .i64 (ai .i64 (.ofNat n))) x:=by
 refine aX (av (DT (x:=x) (rr:=rr) (rb:=rb) (a1:=a1) (w:=w) (n:=n)) ?_) ?_ ?_
 ·repeat' first|exact trivial|assumption|exact aA rfl (by assumption)|exact⟨_,_,rfl,by first|assumption|rfl⟩|apply And.intro|rfl
 all_goals first|rfl|(simp only[cond_true, *,zT,cond_false]<;>rfl)
theorem Dl{x:Ar}{rr rb:List Value}{a:Int}{e v:Nat}:aU F1 ac (ab hV6)
 [.run 8,.callR (vT [ndZ,vI (e+1)]) x,.run 16]
 1000 59 [trC,.int .i64 a,vI 2,vI v] x rr rb=some ((vT []),x,pA::rb,pB::rr,[.callR 28 x rr rb [pR,.int .i64 a] (vT [ndZ,vI (e+1)]) x]):=by kernel_rfl
theorem Jd{x:Ar}{rr rb:List Value}{a:Int}{e v:Nat}(hx:x.refuse<9223372036854775808)(hrr:aj ⟨0,1,2⟩ rr=some rr)(hrb:aj ⟨0,1,2⟩ rb=some rb)(hN:aZ x [pR,.int .i64 a]=some (.tuple ⟨[ndZ,ah (e+1)]⟩,x)):RQ hV6 59 [trC,.int .i64 a,vI 2,vI v] x rr rb (.tuple ⟨[]⟩) x:=by
 refine aX (av (Dl (x:=x) (rr:=rr) (rb:=rb) (a:=a) (e:=e) (v:=v)) ?_) ?_ ?_
 ·repeat' first|exact trivial|assumption|exact aA rfl (by assumption)|exact⟨_,_,rfl,by first|assumption|rfl⟩|apply And.intro|rfl
 all_goals first|rfl|(simp only[cond_true, *,zT,cond_false]<;>rfl)
theorem Fl{x X:Ar}{rr rb:List Value}{a1 w v:Nat}:aU F1 ac (ab hV6)
 [.run 8,.callR (vK (ndC a1 w)) x,.run 15,.cvt (.int .u64 (ai IntKind.u64 (Int.ofNat v))),.run 18,.call (vI 0) X,.run 16]
 1000 59 [trC,i0 a1,vI 2,vI v] x rr rb=some ((vT []),X,pA::rb,pB::rr,[.call 42 x [vW (a1+32) 992,vI 16,vI 8,.int .u64 (ai IntKind.u64 (Int.ofNat v))] (vI 0) X,.cv .u64 (vI v) (.int .u64 (ai IntKind.u64 (Int.ofNat v))),.callR 28 x rr rb [pR,vI a1] (vK (ndC a1 w)) x]):=by kernel_rfl
theorem La{x X:Ar}{rr rb:List Value}{a1 w v:Nat}(hx:x.refuse<9223372036854775808)(hrr:aj ⟨0,1,2⟩ rr=some rr)(hrb:aj ⟨0,1,2⟩ rb=some rb)(hN:aZ x [pR,i0 a1]=some (.tuple ⟨[ndC a1 w,ah 0]⟩,x))(hL:cU x [vwC (.ofNat (a1+32)) (.ofNat 992),vI 16,vI 8,.int .u64 (ai IntKind.u64 (Int.ofNat v))]=some (ah 0,X)):RQ hV6 59 [trC,i0 a1,vI 2,vI v] x rr rb (.tuple ⟨[]⟩) X:=by
 refine aX (av (Fl (x:=x) (X:=X) (rr:=rr) (rb:=rb) (a1:=a1) (w:=w) (v:=v)) ?_) ?_ ?_
 ·repeat' first|exact trivial|assumption|exact aA rfl (by assumption)|exact⟨_,_,rfl,by first|assumption|rfl⟩|apply And.intro|rfl
 all_goals first|rfl|(simp only[cond_true, *,zT,cond_false]<;>rfl)
theorem Cs{x:Ar}{rr rb:List Value}{a:Int}{e:Nat}:aU F1 ac (ab hV6)
 [.run 9,.callR (vT [ndZ,vI (e+1)]) x,.run 48]
 1000 26 [trC,.int .i64 a,vI 3] x rr rb=some ((vI 0),x,pA::rb,pB::rr,[.callR 28 x rr rb [pR,.int .i64 a] (vT [ndZ,vI (e+1)]) x]):=by kernel_rfl
theorem HN{x:Ar}{rr rb:List Value}{a:Int}{e:Nat}(hx:x.refuse<9223372036854775808)(hrr:aj ⟨0,1,2⟩ rr=some rr)(hrb:aj ⟨0,1,2⟩ rb=some rb)(hN:aZ x [pR,.int .i64 a]=some (.tuple ⟨[ndZ,ah (e+1)]⟩,x)):RQ hV6 26 [trC,.int .i64 a,vI 3] x rr rb (vI 0) x:=by
 refine aX (av (Cs (x:=x) (rr:=rr) (rb:=rb) (a:=a) (e:=e)) ?_) ?_ ?_
 ·repeat' first|exact trivial|assumption|exact aA rfl (by assumption)|exact⟨_,_,rfl,by first|assumption|rfl⟩|apply And.intro|rfl
 all_goals first|rfl|(simp only[cond_true, *,zT,cond_false]<;>rfl)
theorem Gf{x:Ar}{rr rb:List Value}{a1 w n:Nat}:aU F1 ac (ab hV6)
 [.run 9,.callR (vK (ndC a1 w)) x,.run 38,.call (vK (vU n)) x,.run 12,.cvt (.int .i64 (ai IntKind.i64 (Int.ofNat n))),.run 16]
 1000 26 [trC,i0 a1,vI 3] x rr rb=some ((.int .i64 (ai IntKind.i64 (Int.ofNat n))),x,pA::rb,pB::rr,[.cv .i64 (vU n) (.int .i64 (ai IntKind.i64 (Int.ofNat n))),.call 56 x [vW (a1+32) 992,vI 24,vI 8] (vK (vU n)) x,.callR 28 x rr rb [pR,vI a1] (vK (ndC a1 w)) x]):=by kernel_rfl
theorem Ls{x:Ar}{rr rb:List Value}{a1 w n:Nat}(hx:x.refuse<9223372036854775808)(hrr:aj ⟨0,1,2⟩ rr=some rr)(hrb:aj ⟨0,1,2⟩ rb=some rb)(hN:aZ x [pR,i0 a1]=some (.tuple ⟨[ndC a1 w,ah 0]⟩,x))(hL:cz x [vwC (.ofNat (a1+32)) (.ofNat 992),vI 24,vI 8]=some (.tuple ⟨[fz n,ah 0]⟩,x)):RQ hV6 26 [trC,i0 a1,vI 3] x rr rb (.int .i64 (ai .i64 (.ofNat n))) x:=by
 refine aX (av (Gf (x:=x) (rr:=rr) (rb:=rb) (a1:=a1) (w:=w) (n:=n)) ?_) ?_ ?_
 ·repeat' first|exact trivial|assumption|exact aA rfl (by assumption)|exact⟨_,_,rfl,by first|assumption|rfl⟩|apply And.intro|rfl
 all_goals first|rfl|(simp only[cond_true, *,zT,cond_false]<;>rfl)
theorem Ct{x:Ar}{rr rb:List Value}{a:Int}{e v:Nat}:aU F1 ac (ab hV6)
 [.run 8,.callR (vT [ndZ,vI (e+1)]) x,.run 16]
 1000 59 [trC,.int .i64 a,vI 3,vI v] x rr rb=some ((vT []),x,pA::rb,pB::rr,[.callR 28 x rr rb [pR,.int .i64 a] (vT [ndZ,vI (e+1)]) x]):=by kernel_rfl
theorem HX{x:Ar}{rr rb:List Value}{a:Int}{e v:Nat}(hx:x.refuse<9223372036854775808)(hrr:aj ⟨0,1,2⟩ rr=some rr)(hrb:aj ⟨0,1,2⟩ rb=some rb)(hN:aZ x [pR,.int .i64 a]=some (.tuple ⟨[ndZ,ah (e+1)]⟩,x)):RQ hV6 59 [trC,.int .i64 a,vI 3,vI v] x rr rb (.tuple ⟨[]⟩) x:=by
 refine aX (av (Ct (x:=x) (rr:=rr) (rb:=rb) (a:=a) (e:=e) (v:=v)) ?_) ?_ ?_
 ·repeat' first|exact trivial|assumption|exact aA rfl (by assumption)|exact⟨_,_,rfl,by first|assumption|rfl⟩|apply And.intro|rfl
 all_goals first|rfl|(simp only[cond_true, *,zT,cond_false]<;>rfl)
theorem Gu{x X:Ar}{rr rb:List Value}{a1 w v:Nat}:aU F1 ac (ab hV6)
 [.run 8,.callR (vK (ndC a1 w)) x,.run 15,.cvt (.int .u64 (ai IntKind.u64 (Int.ofNat v))),.run 18,.call (vI 0) X,.run 16]
 1000 59 [trC,i0 a1,vI 3,vI v] x rr rb=some ((vT []),X,pA::rb,pB::rr,[.call 42 x [vW (a1+32) 992,vI 24,vI 8,.int .u64 (ai IntKind.u64 (Int.ofNat v))] (vI 0) X,.cv .u64 (vI v) (.int .u64 (ai IntKind.u64 (Int.ofNat v))),.callR 28 x rr rb [pR,vI a1] (vK (ndC a1 w)) x]):=by kernel_rfl
theorem MV{x X:Ar}{rr rb:List Value}{a1 w v:Nat}(hx:x.refuse<9223372036854775808)(hrr:aj ⟨0,1,2⟩ rr=some rr)(hrb:aj ⟨0,1,2⟩ rb=some rb)(hN:aZ x [pR,i0 a1]=some (.tuple ⟨[ndC a1 w,ah 0]⟩,x))(hL:cU x [vwC (.ofNat (a1+32)) (.ofNat 992),vI 24,vI 8,.int .u64 (ai IntKind.u64 (Int.ofNat v))]=some (ah 0,X)):RQ hV6 59 [trC,i0 a1,vI 3,vI v] x rr rb (.tuple ⟨[]⟩) X:=by
 refine aX (av (Gu (x:=x) (X:=X) (rr:=rr) (rb:=rb) (a1:=a1) (w:=w) (v:=v)) ?_) ?_ ?_
 ·repeat' first|exact trivial|assumption|exact aA rfl (by assumption)|exact⟨_,_,rfl,by first|assumption|rfl⟩|apply And.intro|rfl
 all_goals first|rfl|(simp only[cond_true, *,zT,cond_false]<;>rfl)
theorem Bf{x:Ar}{rr rb:List Value}{a:Int}{e:Nat}:aU F1 ac (ab hV6)
 [.run 9,.callR (vT [ndZ,vI (e+1)]) x,.run 48]
 1000 26 [trC,.int .i64 a,vI 4] x rr rb=some ((vI 0),x,pA::rb,pB::rr,[.callR 28 x rr rb [pR,.int .i64 a] (vT [ndZ,vI (e+1)]) x]):=by kernel_rfl
theorem HB{x:Ar}{rr rb:List Value}{a:Int}{e:Nat}(hx:x.refuse<9223372036854775808)(hrr:aj ⟨0,1,2⟩ rr=some rr)(hrb:aj ⟨0,1,2⟩ rb=some rb)(hN:aZ x [pR,.int .i64 a]=some (.tuple ⟨[ndZ,ah (e+1)]⟩,x)):RQ hV6 26 [trC,.int .i64 a,vI 4] x rr rb (vI 0) x:=by
 refine aX (av (Bf (x:=x) (rr:=rr) (rb:=rb) (a:=a) (e:=e)) ?_) ?_ ?_
 ·repeat' first|exact trivial|assumption|exact aA rfl (by assumption)|exact⟨_,_,rfl,by first|assumption|rfl⟩|apply And.intro|rfl
 all_goals first|rfl|(simp only[cond_true, *,zT,cond_false]<;>rfl)
theorem Fh{x:Ar}{rr rb:List Value}{a1 w n:Nat}:aU F1 ac (ab hV6)
 [.run 9,.callR (vK (ndC a1 w)) x,.run 38,.call (vK (vU n)) x,.run 12,.cvt (.int .i64 (ai IntKind.i64 (Int.ofNat n))),.run 16]
 1000 26 [trC,i0 a1,vI 4] x rr rb=some ((.int .i64 (ai IntKind.i64 (Int.ofNat n))),x,pA::rb,pB::rr,[.cv .i64 (vU n) (.int .i64 (ai IntKind.i64 (Int.ofNat n))),.call 56 x [vW (a1+32) 992,vI 32,vI 8] (vK (vU n)) x,.callR 28 x rr rb [pR,vI a1] (vK (ndC a1 w)) x]):=by kernel_rfl
theorem Md{x:Ar}{rr rb:List Value}{a1 w n:Nat}(hx:x.refuse<9223372036854775808)(hrr:aj ⟨0,1,2⟩ rr=some rr)(hrb:aj ⟨0,1,2⟩ rb=some rb)(hN:aZ x [pR,i0 a1]=some (.tuple ⟨[ndC a1 w,ah 0]⟩,x))(hL:cz x [vwC (.ofNat (a1+32)) (.ofNat 992),vI 32,vI 8]=some (.tuple ⟨[fz n,ah 0]⟩,x)):RQ hV6 26 [trC,i0 a1,vI 4] x rr rb (.int .i64 (ai .i64 (.ofNat n))) x:=by
 refine aX (av (Fh (x:=x) (rr:=rr) (rb:=rb) (a1:=a1) (w:=w) (n:=n)) ?_) ?_ ?_
 ·repeat' first|exact trivial|assumption|exact aA rfl (by assumption)|exact⟨_,_,rfl,by first|assumption|rfl⟩|apply And.intro|rfl
 all_goals first|rfl|(simp only[cond_true, *,zT,cond_false]<;>rfl)
theorem Bz{x:Ar}{rr rb:List Value}{a:Int}{e v:Nat}:aU F1 ac (ab hV6)
 [.run 8,.callR (vT [ndZ,vI (e+1)]) x,.run 16]
 1000 59 [trC,.int .i64 a,vI 4,vI v] x rr rb=some ((vT []),x,pA::rb,pB::rr,[.callR 28 x rr rb [pR,.int .i64 a] (vT [ndZ,vI (e+1)]) x]):=by kernel_rfl
theorem HU{x:Ar}{rr rb:List Value}{a:Int}{e v:Nat}(hx:x.refuse<9223372036854775808)(hrr:aj ⟨0,1,2⟩ rr=some rr)(hrb:aj ⟨0,1,2⟩ rb=some rb)(hN:aZ x [pR,.int .i64 a]=some (.tuple ⟨[ndZ,ah (e+1)]⟩,x)):RQ hV6 59 [trC,.int .i64 a,vI 4,vI v] x rr rb (.tuple ⟨[]⟩) x:=by
 refine aX (av (Bz (x:=x) (rr:=rr) (rb:=rb) (a:=a) (e:=e) (v:=v)) ?_) ?_ ?_
 ·repeat' first|exact trivial|assumption|exact aA rfl (by assumption)|exact⟨_,_,rfl,by first|assumption|rfl⟩|apply And.intro|rfl
 all_goals first|rfl|(simp only[cond_true, *,zT,cond_false]<;>rfl)
theorem EJ{x X:Ar}{rr rb:List Value}{a1 w v:Nat}:aU F1 ac (ab hV6)
 [.run 8,.callR (vK (ndC a1 w)) x,.run 15,.cvt (.int .u64 (ai IntKind.u64 (Int.ofNat v))),.run 18,.call (vI 0) X,.run 16]
 1000 59 [trC,i0 a1,vI 4,vI v] x rr rb=some ((vT []),X,pA::rb,pB::rr,[.call 42 x [vW (a1+32) 992,vI 32,vI 8,.int .u64 (ai IntKind.u64 (Int.ofNat v))] (vI 0) X,.cv .u64 (vI v) (.int .u64 (ai IntKind.u64 (Int.ofNat v))),.callR 28 x rr rb [pR,vI a1] (vK (ndC a1 w)) x]):=by kernel_rfl
theorem Mh{x X:Ar}{rr rb:List Value}{a1 w v:Nat}(hx:x.refuse<9223372036854775808)(hrr:aj ⟨0,1,2⟩ rr=some rr)(hrb:aj ⟨0,1,2⟩ rb=some rb)(hN:aZ x [pR,i0 a1]=some (.tuple ⟨[ndC a1 w,ah 0]⟩,x))(hL:cU x [vwC (.ofNat (a1+32)) (.ofNat 992),vI 32,vI 8,.int .u64 (ai IntKind.u64 (Int.ofNat v))]=some (ah 0,X)):RQ hV6 59 [trC,i0 a1,vI 4,vI v] x rr rb (.tuple ⟨[]⟩) X:=by
 refine aX (av (EJ (x:=x) (X:=X) (rr:=rr) (rb:=rb) (a1:=a1) (w:=w) (v:=v)) ?_) ?_ ?_
 ·repeat' first|exact trivial|assumption|exact aA rfl (by assumption)|exact⟨_,_,rfl,by first|assumption|rfl⟩|apply And.intro|rfl
 all_goals first|rfl|(simp only[cond_true, *,zT,cond_false]<;>rfl)
theorem Db{x:Ar}{rr rb:List Value}{a:Int}{e:Nat}:aU F1 ac (ab hV6)
 [.run 9,.callR (vT [ndZ,vI (e+1)]) x,.run 48]
 1000 26 [trC,.int .i64 a,vI 5] x rr rb=some ((vI 0),x,pA::rb,pB::rr,[.callR 28 x rr rb [pR,.int .i64 a] (vT [ndZ,vI (e+1)]) x]):=by kernel_rfl
theorem Hf{x:Ar}{rr rb:List Value}{a:Int}{e:Nat}(hx:x.refuse<9223372036854775808)(hrr:aj ⟨0,1,2⟩ rr=some rr)(hrb:aj ⟨0,1,2⟩ rb=some rb)(hN:aZ x [pR,.int .i64 a]=some (.tuple ⟨[ndZ,ah (e+1)]⟩,x)):RQ hV6 26 [trC,.int .i64 a,vI 5] x rr rb (vI 0) x:=by
 refine aX (av (Db (x:=x) (rr:=rr) (rb:=rb) (a:=a) (e:=e)) ?_) ?_ ?_
 ·repeat' first|exact trivial|assumption|exact aA rfl (by assumption)|exact⟨_,_,rfl,by first|assumption|rfl⟩|apply And.intro|rfl
 all_goals first|rfl|(simp only[cond_true, *,zT,cond_false]<;>rfl)
theorem Gh{x:Ar}{rr rb:List Value}{a1 w n:Nat}:aU F1 ac (ab hV6)
 [.run 9,.callR (vK (ndC a1 w)) x,.run 38,.call (vK (vU n)) x,.run 12,.cvt (.int .i64 (ai IntKind.i64 (Int.ofNat n))),.run 16]
 1000 26 [trC,i0 a1,vI 5] x rr rb=some ((.int .i64 (ai IntKind.i64 (Int.ofNat n))),x,pA::rb,pB::rr,[.cv .i64 (vU n) (.int .i64 (ai IntKind.i64 (Int.ofNat n))),.call 56 x [vW (a1+32) 992,vI 40,vI 8] (vK (vU n)) x,.callR 28 x rr rb [pR,vI a1] (vK (ndC a1 w)) x]):=by kernel_rfl
theorem KQ{x:Ar}{rr rb:List Value}{a1 w n:Nat}(hx:x.refuse<9223372036854775808)(hrr:aj ⟨0,1,2⟩ rr=some rr)(hrb:aj ⟨0,1,2⟩ rb=some rb)(hN:aZ x [pR,i0 a1]=some (.tuple ⟨[ndC a1 w,ah 0]⟩,x))(hL:cz x [vwC (.ofNat (a1+32)) (.ofNat 992),vI 40,vI 8]=some (.tuple ⟨[fz n,ah 0]⟩,x)):RQ hV6 26 [trC,i0 a1,vI 5] x rr rb (.int .i64 (ai .i64 (.ofNat n))) x:=by
 refine aX (av (Gh (x:=x) (rr:=rr) (rb:=rb) (a1:=a1) (w:=w) (n:=n)) ?_) ?_ ?_
 ·repeat' first|exact trivial|assumption|exact aA rfl (by assumption)|exact⟨_,_,rfl,by first|assumption|rfl⟩|apply And.intro|rfl
 all_goals first|rfl|(simp only[cond_true, *,zT,cond_false]<;>rfl)
theorem BU{x:Ar}{rr rb:List Value}{a:Int}{e v:Nat}:aU F1 ac (ab hV6)
 [.run 8,.callR (vT [ndZ,vI (e+1)]) x,.run 16]
 1000 59 [trC,.int .i64 a,vI 5,vI v] x rr rb=some ((vT []),x,pA::rb,pB::rr,[.callR 28 x rr rb [pR,.int .i64 a] (vT [ndZ,vI (e+1)]) x]):=by kernel_rfl
theorem HE{x:Ar}{rr rb:List Value}{a:Int}{e v:Nat}(hx:x.refuse<9223372036854775808)(hrr:aj ⟨0,1,2⟩ rr=some rr)(hrb:aj ⟨0,1,2⟩ rb=some rb)(hN:aZ x [pR,.int .i64 a]=some (.tuple ⟨[ndZ,ah (e+1)]⟩,x)):RQ hV6 59 [trC,.int .i64 a,vI 5,vI v] x rr rb (.tuple ⟨[]⟩) x:=by
 refine aX (av (BU (x:=x) (rr:=rr) (rb:=rb) (a:=a) (e:=e) (v:=v)) ?_) ?_ ?_
 ·repeat' first|exact trivial|assumption|exact aA rfl (by assumption)|exact⟨_,_,rfl,by first|assumption|rfl⟩|apply And.intro|rfl
 all_goals first|rfl|(simp only[cond_true, *,zT,cond_false]<;>rfl)
theorem DP{x X:Ar}{rr rb:List Value}{a1 w v:Nat}:aU F1 ac (ab hV6)
 [.run 8,.callR (vK (ndC a1 w)) x,.run 15,.cvt (.int .u64 (ai IntKind.u64 (Int.ofNat v))),.run 18,.call (vI 0) X,.run 16]
 1000 59 [trC,i0 a1,vI 5,vI v] x rr rb=some ((vT []),X,pA::rb,pB::rr,[.call 42 x [vW (a1+32) 992,vI 40,vI 8,.int .u64 (ai IntKind.u64 (Int.ofNat v))] (vI 0) X,.cv .u64 (vI v) (.int .u64 (ai IntKind.u64 (Int.ofNat v))),.callR 28 x rr rb [pR,vI a1] (vK (ndC a1 w)) x]):=by kernel_rfl
theorem KL{x X:Ar}{rr rb:List Value}{a1 w v:Nat}(hx:x.refuse<9223372036854775808)(hrr:aj ⟨0,1,2⟩ rr=some rr)(hrb:aj ⟨0,1,2⟩ rb=some rb)(hN:aZ x [pR,i0 a1]=some (.tuple ⟨[ndC a1 w,ah 0]⟩,x))(hL:cU x [vwC (.ofNat (a1+32)) (.ofNat 992),vI 40,vI 8,.int .u64 (ai IntKind.u64 (Int.ofNat v))]=some (ah 0,X)):RQ hV6 59 [trC,i0 a1,vI 5,vI v] x rr rb (.tuple ⟨[]⟩) X:=by
 refine aX (av (DP (x:=x) (X:=X) (rr:=rr) (rb:=rb) (a1:=a1) (w:=w) (v:=v)) ?_) ?_ ?_
 ·repeat' first|exact trivial|assumption|exact aA rfl (by assumption)|exact⟨_,_,rfl,by first|assumption|rfl⟩|apply And.intro|rfl
 all_goals first|rfl|(simp only[cond_true, *,zT,cond_false]<;>rfl)
theorem O8{x x':Ar}{rr rb vs:List Value}{v:Value}(hx:x.refuse<9223372036854775808)(hrr:aj ⟨0,1,2⟩ rr=some rr)(hrb:aj ⟨0,1,2⟩ rb=some rb)(hs:dR x vs=some (v,x')):RQ hV6 57 vs x rr rb (v) x':=by
 unfold dR at hs;split at hs
 ·rename_i a;unfold dT at hs;split at hs
  ·rename_i e he;injection hs with hs;injection hs with h1 h2;subst h1;subst h2;exact KN hx hrr hrb (dW he)
  ·rename_i he;cases a with
   |ofNat a=>simp only at hs;injection hs with hs;injection hs with h1 h2;subst h1;subst h2;exact NY hx hrr hrb (dE he)
   |negSucc a=>cases hs
  ·cases hs
 ·cases hs
theorem kZ{f:Nat}(h:tW f=true):f=1∨f=2∨f=3∨f=4∨f=5:=by
 unfold tW at h;rw[Zi,Zk,Zk] at h;omega
theorem Oy{x x':Ar}{rr rb vs:List Value}{v:Value}(hx:x.refuse<9223372036854775808)(hrr:aj ⟨0,1,2⟩ rr=some rr)(hrb:aj ⟨0,1,2⟩ rb=some rb)(hs:dj x vs=some (v,x')):RQ hV6 26 vs x rr rb (v) x':=by
 unfold dj at hs;split at hs
 ·rename_i a f;cases hf:tW f with
  |false=>rw[hf] at hs;cases hs
  |true =>
   rw[hf,cond_true] at hs;unfold dT at hs;split at hs
   ·rename_i e he;injection hs with hs;injection hs with h1 h2;subst h1;subst h2;rcases kZ hf with rfl|rfl|rfl|rfl|rfl
    ·exact IM hx hrr hrb (dW he)
    ·exact IJ hx hrr hrb (dW he)
    ·exact HN hx hrr hrb (dW he)
    ·exact HB hx hrr hrb (dW he)
    ·exact Hf hx hrr hrb (dW he)
   ·rename_i he;rcases kZ hf with rfl|rfl|rfl|rfl|rfl
    ·cases a with
     |ofNat a=>simp only at hs;injection hs with hs;injection hs with h1 h2;subst h1;subst h2;exact M1 hx hrr hrb (dE he) (eW (b:=8) he (by decide) rfl)
     |negSucc a=>cases hs
    ·cases a with
     |ofNat a=>simp only at hs;injection hs with hs;injection hs with h1 h2;subst h1;subst h2;exact MB hx hrr hrb (dE he) (eW (b:=16) he (by decide) rfl)
     |negSucc a=>cases hs
    ·cases a with
     |ofNat a=>simp only at hs;injection hs with hs;injection hs with h1 h2;subst h1;subst h2;exact Ls hx hrr hrb (dE he) (eW (b:=24) he (by decide) rfl)
     |negSucc a=>cases hs
    ·cases a with
     |ofNat a=>simp only at hs;injection hs with hs;injection hs with h1 h2;subst h1;subst h2;exact Md hx hrr hrb (dE he) (eW (b:=32) he (by decide) rfl)
     |negSucc a=>cases hs
    ·cases a with
     |ofNat a=>simp only at hs;injection hs with hs;injection hs with h1 h2;subst h1;subst h2;exact KQ hx hrr hrb (dE he) (eW (b:=40) he (by decide) rfl)
     |negSucc a=>cases hs
   ·cases hs
 ·cases hs
theorem Nr{x x':Ar}{rr rb vs:List Value}{v:Value}(hx:x.refuse<9223372036854775808)(hrr:aj ⟨0,1,2⟩ rr=some rr)(hrb:aj ⟨0,1,2⟩ rb=some rb)(hs:bN x vs=some (v,x')):RQ hV6 59 vs x rr rb (v) x':=by
 unfold bN at hs;split at hs
 ·rename_i a f n;cases hf:tW f&&Nat.blt n 9223372036854775808 with
  |false=>rw[hf] at hs;cases hs
  |true =>
   rw[hf,cond_true] at hs;rw[Zi] at hf;obtain⟨hf,hv⟩:=hf;rw[aD,Zt] at hv;split at hs
   ·rename_i e he;injection hs with hs;injection hs with h1 h2;subst h1;subst h2;rcases kZ hf with rfl|rfl|rfl|rfl|rfl
    ·exact Hq hx hrr hrb (dW he)
    ·exact Jd hx hrr hrb (dW he)
    ·exact HX hx hrr hrb (dW he)
    ·exact HU hx hrr hrb (dW he)
    ·exact HE hx hrr hrb (dW he)
   ·rename_i he;rcases kZ hf with rfl|rfl|rfl|rfl|rfl
    ·cases a with
     |ofNat a =>
      simp only at hs;injection hs with hs;injection hs with h1 h2;subst h1;subst h2;exact Mj hx hrr hrb (dE he) (by rw[fb (Zv hv (by decide))];exact d9 (b:=8) he (by decide) rfl (by rw[aD];exact Zh (Zv hv (by decide))))
     |negSucc a=>cases hs
    ·cases a with
     |ofNat a =>
      simp only at hs;injection hs with hs;injection hs with h1 h2;subst h1;subst h2;exact La hx hrr hrb (dE he) (by rw[fb (Zv hv (by decide))];exact d9 (b:=16) he (by decide) rfl (by rw[aD];exact Zh (Zv hv (by decide))))
     |negSucc a=>cases hs
    ·cases a with
     |ofNat a =>
      simp only at hs;injection hs with hs;injection hs with h1 h2;subst h1;subst h2;exact MV hx hrr hrb (dE he) (by rw[fb (Zv hv (by decide))];exact d9 (b:=24) he (by decide) rfl (by rw[aD];exact Zh (Zv hv (by decide))))
     |negSucc a=>cases hs
    ·cases a with
     |ofNat a =>
      simp only at hs;injection hs with hs;injection hs with h1 h2;subst h1;subst h2;exact Mh hx hrr hrb (dE he) (by rw[fb (Zv hv (by decide))];exact d9 (b:=32) he (by decide) rfl (by rw[aD];exact Zh (Zv hv (by decide))))
     |negSucc a=>cases hs
    ·cases a with
     |ofNat a =>
      simp only at hs;injection hs with hs;injection hs with h1 h2;subst h1;subst h2;exact KL hx hrr hrb (dE he) (by rw[fb (Zv hv (by decide))];exact d9 (b:=40) he (by decide) rfl (by rw[aD];exact Zh (Zv hv (by decide))))
     |negSucc a=>cases hs
   ·cases hs
 ·cases hs
def hV7:List (aK Ar):=(57,cH dR (fun _=>none))::(26,cH dj (fun _=>none))::(59,cH bN (fun _=>none))::hV6
theorem E4:∀y∈hV7,aQ (a8 Cls) PZ W0 y.1 y.2 :=
 bk (E:=(a8 Cls)) (bk (E:=(a8 Cls)) (bk (E:=(a8 Cls)) (oq) (ew (eV oq) (fun _ _ _ _ _ _ hx h1 h2 hs=>Nr hx h1 h2 hs) fun _ _ _ hs=>by cases hs))
  (ew (eV oq) (fun _ _ _ _ _ _ hx h1 h2 hs=>Oy hx h1 h2 hs) fun _ _ _ hs=>by cases hs)) (ew (eV oq) (fun _ _ _ _ _ _ hx h1 h2 hs=>O8 hx h1 h2 hs) fun _ _ _ hs=>by cases hs)
end Go.AI
namespace Go.AI
open Go.Proofs
variable {W0:World}{Cls:Nat→Int→Prop}
theorem yk{x:Ar}{rr rb:List Value}{a b:Int}:aU F1 ac (ab hV7)
 [.run 8,.callR (.int .i64 b) x,.run 16]
 1000 10 [trC,.int .i64 a] x rr rb=some ((.int .i64 b),x,pA::rb,pB::rr,[.callR 26 x rr rb [trC,.int .i64 a,vI 1] (.int .i64 b) x]):=by kernel_rfl
theorem vX{x:Ar}{rr rb:List Value}{a b:Int}(hx:x.refuse<9223372036854775808)(hrr:aj ⟨0,1,2⟩ rr=some rr)(hrb:aj ⟨0,1,2⟩ rb=some rb)(hN:dj x [trC,.int .i64 a,vI 1]=some (.int .i64 b,x)):RQ hV7 10 [trC,.int .i64 a] x rr rb (.int .i64 b) x:=by
 refine aX (av (yk (x:=x) (rr:=rr) (rb:=rb) (a:=a) (b:=b)) ?_) ?_ ?_
 ·repeat' first|exact trivial|assumption|exact aA rfl (by assumption)|exact⟨_,_,rfl,by first|assumption|rfl⟩|apply And.intro|rfl
 all_goals first|rfl|(simp only[cond_true, *,zT,cond_false]<;>rfl)
theorem Ey{x x':Ar}{rr rb vs:List Value}{v:Value}(hx:x.refuse<9223372036854775808)(hrr:aj ⟨0,1,2⟩ rr=some rr)(hrb:aj ⟨0,1,2⟩ rb=some rb)(hs:cq x vs=some (v,x')):RQ hV7 10 vs x rr rb (v) x':=by
 unfold cq at hs;split at hs
 ·rename_i a;have hf:tW 1=true:=rfl;unfold dT at hs;split at hs
  ·rename_i e he;injection hs with hs;injection hs with h1 h2;subst h1;subst h2;exact vX hx hrr hrb (by simp only[dj,hf,cond_true,dT,he])
  ·rename_i he;cases a with
   |ofNat a=>simp only at hs;injection hs with hs;injection hs with h1 h2;subst h1;subst h2;exact vX hx hrr hrb (by simp only[dj,hf,cond_true,dT,he])
   |negSucc a=>cases hs
  ·cases hs
 ·cases hs
def hV8:List (aK Ar):=(10,cH cq (fun _=>none))::hV7
theorem yt:∀y∈hV8,aQ (a8 Cls) PZ W0 y.1 y.2 :=
 bk (E:=(a8 Cls)) E4 (ew (eV E4) (fun _ _ _ _ _ _ hx h1 h2 hs=>Ey hx h1 h2 hs) fun _ _ _ hs=>by cases hs)
end Go.AI
namespace Go.AI
variable {P:Program}{W0:World}{Cls:Nat→Int→Prop}
abbrev qx:=Ar→List Value→Option (List Nat)
abbrev nI(n:Nat):Value:=.int .i64 (.ofNat n)
def za(T:Nat)(t:LO)(v:Value):List Nat→Prop
 |[]=>v = .slice none 0 0
 |a::l=>∃b,3≤b∧v = .slice (some ⟨b,0,none⟩) (a::l).length (a::l).length∧aa b t=some (.grown 1 T ((a::l).map nI))
def yz(T:Nat)(h:Hp Ar):List Nat→Value×Hp Ar
 |[]=>(.slice none 0 0,h)
 |a::l=>(.slice (some ⟨h.next,0,none⟩) (a::l).length (a::l).length,⟨(h.next,.grown 1 T ((a::l).map nI))::h.tbl,h.next+1⟩)
def pg(T:Nat)(spec:qx):List Value→Hp Ar→Option (Value×Hp Ar):=fun vs h =>
 match lJ vs h.tbl with
 |some (q,x,rr,rb)=>bif Nat.blt x.refuse 9223372036854775808 then(match fZ q vs,aj q rr,aj q rb with
  |some vs0,some _,some _=>match spec x vs0 with
   |some l=>some (yz T h l)
   |none=>none
  |_,_,_=>none) else none
 |none=>none
theorem Jz{R:Rl}:∀l:List Nat,All2 (RF R) (l.map nI) (l.map nI)
 |[]=>.nil
 |_::l=>.cons (.int _ _) (Jz l)
theorem A4{vs:List Value}{tbl:LO}{q:B3}{x:Ar}{rr rb:List Value}(hfind:lJ vs tbl=some (q,x,rr,rb)) :
  aa q.r tbl=some (.cells (.pointer (some ⟨q.b,0,none⟩)::rr))∧aa q.b tbl=some (.cells (.pointer (some ⟨q.i,0,none⟩)::rb))∧aa q.i tbl=some (.ext x)∧q.r≠q.b∧q.i≠q.b∧q.i≠q.r:=by
 have h4:aa q.r tbl=some (.cells (.pointer (some ⟨q.b,0,none⟩)::rr))∧aa q.b tbl=some (.cells (.pointer (some ⟨q.i,0,none⟩)::rb))∧aa q.i tbl=some (.ext x)∧q.r≠q.b:=by
  unfold lJ at hfind;split at hfind
  ·rename_i r0 hfirst;split at hfind
   ·rename_i b rr1 hr1;split at hfind
    ·rename_i i rb1 hb1;split at hfind
     ·rename_i x1 hx1;cases hne:Nat.beq r0 b with
      |true=>rw[hne] at hfind;cases hfind
      |false =>
       rw[hne,cond_false] at hfind;injection hfind with hfind;injection hfind with e1 e2;injection e2 with e2 e3;injection e3 with e3 e4;subst e1;subst e2;subst e3;subst e4;refine⟨hr1,hb1,hx1,fun e=>?_⟩;have e:r0=b:=e;rw[e,Nat.beq_refl] at hne;cases hne
     ·cases hfind
    ·cases hfind
   ·cases hfind
  ·cases hfind
 obtain⟨f1,f2,f3,f4⟩:=h4;exact⟨f1,f2,f3,f4,(fun e=>by rw[e,f2] at f3;cases f3),(fun e=>by rw[e,f1] at f3;cases f3)⟩
theorem xj{call:aP Ar}(hC:bR (a8 Cls) P W0 call){k T:Nat}{spec:qx}
  (h1:∀x rr rb vs l,x.refuse<9223372036854775808→aj ⟨0,1,2⟩ rr=some rr→aj ⟨0,1,2⟩ rb=some rb→spec x vs=some l→∃t n v,call k vs ⟨sm3 x rr rb,3⟩=some (v,⟨t,n⟩)∧aa 0 t=some (.ext x)∧aa 1 t=some (.cells (pA::rb))∧aa 2 t=some (.cells (pB::rr))∧za T t v l) :
  aQ (a8 Cls) P W0 k (pg T spec):=by
 intro vs h v h2 hr ρ φ w hG vs' hvs;unfold pg at hr;split at hr
 ·rename_i q x rr rb hfind;cases hf:Nat.blt x.refuse 9223372036854775808 with
  |false=>rw[hf] at hr;cases hr
  |true =>
   rw[hf,cond_true] at hr;rw[aD,Zt] at hf;split at hr
   ·rename_i vs0 rr0 rb0 hvs0 hrr hrb;split at hr
    ·rename_i l hs;injection hr with hr;obtain⟨f1,f2,f3,f4,fib,fir⟩:=A4 hfind;obtain⟨t,n,v0,hrun,hl0,hl1,hl2,hrow⟩:=h1 x rr0 rb0 vs0 l hf (fY hrr) (fY hrb) hs;have hσ0:rts (fun j=>match j with|0=>q.i|1=>q.b|_=>q.r) 3 0 q.i:=⟨by omega,rfl⟩;have hσ1:rts (fun j=>match j with|0=>q.i|1=>q.b|_=>q.r) 3 1 q.b:=⟨by omega,rfl⟩;have hσ2:rts (fun j=>match j with|0=>q.i|1=>q.b|_=>q.r) 3 2 q.r:=⟨by omega,rfl⟩;have li:=hG.lt f3;have lb:=hG.lt f2;have lr:=hG.lt f1;have c1:∀j,j<3→(match j with|0=>q.i|1=>q.b|_=>q.r)<h.next:=by
      intro j hj
      match j with
      |0=>exact li
      |1=>exact lb
      |j+2=>exact lr
     have c2:∀a c,a<3→c<3→(match a with|0=>q.i|1=>q.b|_=>q.r)=(match c with|0=>q.i|1=>q.b|_=>q.r)→a=c:=by
      intro a c ha hc e
      match a,c,ha,hc,e with
      |0,0,_,_,_=>rfl
      |1,1,_,_,_=>rfl
      |2,2,_,_,_=>rfl
      |0,1,_,_,e=>exact absurd e fib
      |0,2,_,_,e=>exact absurd e fir
      |1,0,_,_,e=>exact absurd e.symm fib
      |2,0,_,_,e=>exact absurd e.symm fir
      |1,2,_,_,e=>exact absurd e.symm f4
      |2,1,_,_,e=>exact absurd e f4
     have c3:∀j o,aa j (sm3 x rr0 rb0)=some o→j<3∧∃o',aa (match j with|0=>q.i|1=>q.b|_=>q.r) h.tbl=some o'∧RO (E0:=a8 Cls) (E:=a8 Cls) id (rts (fun j=>match j with|0=>q.i|1=>q.b|_=>q.r) 3) o o':=by
      intro j o hj;change aa j [(2,AObj.cells (pB::rr0)),(1,.cells (pA::rb0)),(0,.ext x)]=some o at hj;rw[zC,zC,zC] at hj;split at hj
      ·rename_i e;injection hj with hj;subst hj;have e:j=2:=e;subst e;exact⟨by omega,_,f1,.cells (.cons (.ptr hσ1) (dN hσ0 hσ1 hσ2 hrr))⟩
      ·split at hj
       ·rename_i e;injection hj with hj;subst hj;have e:j=1:=e;subst e;exact⟨by omega,_,f2,.cells (.cons (.ptr hσ0) (dN hσ0 hσ1 hσ2 hrb))⟩
       ·split at hj
        ·rename_i e;injection hj with hj;subst hj;have e:j=0:=e;subst e;exact⟨by omega,_,f3,RO.ext (E0:=a8 Cls) (E:=a8 Cls) (f:=id) x⟩
        ·simp[aa] at hj
     -- what lay there lies there still
     have old:∀(τ:Nat→Nat) (m:Nat) k o,aa k h.tbl=some o→(∃i o',rtn (fun j=>match j with|0=>q.i|1=>q.b|_=>q.r) 3 τ h.next m i k∧aa i t=some o'∧RO (E0:=a8 Cls) (E:=a8 Cls) id (rtn (fun j=>match j with|0=>q.i|1=>q.b|_=>q.r) 3 τ h.next m) o' o)∨(aa k h.tbl=some o∧∀i,i<3→(match i with|0=>q.i|1=>q.b|_=>q.r)≠k):=by
      intro τ m k o hk;have hn0:rtn (fun j=>match j with|0=>q.i|1=>q.b|_=>q.r) 3 τ h.next m 0 q.i:=.inl hσ0;have hn1:rtn (fun j=>match j with|0=>q.i|1=>q.b|_=>q.r) 3 τ h.next m 1 q.b:=.inl hσ1;have hn2:rtn (fun j=>match j with|0=>q.i|1=>q.b|_=>q.r) 3 τ h.next m 2 q.r:=.inl hσ2;by_cases e:k=q.i
      ·subst e;rw[f3] at hk;injection hk with hk;subst hk;exact .inl ⟨0,_,hn0,hl0,RO.ext (E0:=a8 Cls) (E:=a8 Cls) (f:=id) x⟩
      ·by_cases eb:k=q.b
       ·subst eb;rw[f2] at hk;injection hk with hk;subst hk;exact .inl ⟨1,_,hn1,hl1,.cells (.cons (.ptr hn0) (dN hn0 hn1 hn2 hrb))⟩
       ·by_cases er:k=q.r
        ·subst er;rw[f1] at hk;injection hk with hk;subst hk;exact .inl ⟨2,_,hn2,hl2,.cells (.cons (.ptr hn1) (dN hn0 hn1 hn2 hrr))⟩
        ·refine .inr ⟨hk,fun j hj e2=>?_⟩
         match j with
         |0=>exact e e2.symm
         |1=>exact eb e2.symm
         |j+2=>exact er e2.symm
     cases l with
     |nil =>
      injection hr with hr1 hr2;subst hr1;subst hr2;change v0=_ at hrow;subst hrow;exact tI (E0:=a8 Cls) (g:=id) iI hC hrun (h:=h) (h':=h) (σ:=fun j=>match j with|0=>q.i|1=>q.b|_=>q.r) (τ:=fun t=>t+3) (m:=0) c1 c2 (nG hσ0 hσ1 hσ2 hvs0) c3 (fun t ht=>absurd ht (by omega)) (fun t u ht=>absurd ht (by omega)) (.of_flat (.nils _ _)) rfl (fun k o hk=>old _ _ k o hk) hG hvs
     |cons a l =>
      injection hr with hr1 hr2;subst hr1;subst hr2;obtain⟨b,hb,hv0,hlb⟩:=hrow;subst hv0;have hnb:rtn (fun j=>match j with|0=>q.i|1=>q.b|_=>q.r) 3 (fun _=>b) h.next 1 b h.next:=.inr ⟨0,by omega,rfl,rfl⟩;refine tI (E0:=a8 Cls) (g:=id) iI hC hrun (h:=h) (h':=⟨(h.next,.grown 1 T ((a::l).map nI))::h.tbl,h.next+1⟩) (σ:=fun j=>match j with|0=>q.i|1=>q.b|_=>q.r) (τ:=fun _=>b) (m:=1) c1 c2 (nG hσ0 hσ1 hσ2 hvs0) c3 (fun t _=>hb) (fun t u ht hu _=>by omega) (.of_flat (.slc hnb)) rfl ?_ hG hvs;intro k o hk;change aa k ((h.next,AObj.grown 1 T ((a::l).map nI))::h.tbl)=some o at hk;rw[zC] at hk;split at hk
      ·rename_i e;injection hk with hk;subst hk;have e:k=h.next:=e;subst e;exact .inl ⟨b,_,hnb,hlb,.grown _ _ (Jz _)⟩
      ·exact old _ _ k o hk
    ·cases hr
   ·cases hr
 ·cases hr
theorem qP{vs:List Value}{tbl:LO}{r b i:Nat}{x:Ar}{rr rb:List Value}(h:eq vs=some r)(h1:aa r tbl=some (.cells (.pointer (some ⟨b,0,none⟩)::rr)))(h2:aa b tbl=some (.cells (.pointer (some ⟨i,0,none⟩)::rb)))(h3:aa i tbl=some (.ext x))(hne:r≠b):lJ vs tbl=some (⟨i,b,r⟩,x,rr,rb):=by
 have e:Nat.beq r b=false:=by rw[← Zl,Zg];exact hne
 simp only[lJ,h,h1,h2,h3,e,cond_false]
theorem DX{T:Nat}{spec:qx}{vs vs0 rr' rb':List Value}{h:Hp Ar}{q:B3}{x:Ar}{rr rb:List Value}{l:List Nat}(hf:lJ vs h.tbl=some (q,x,rr,rb))(hx:x.refuse<9223372036854775808)(hv:fZ q vs=some vs0)(h1:aj q rr=some rr')(h2:aj q rb=some rb')(hs:spec x vs0=some l):pg T spec vs h=some (yz T h l):=by
 have e:Nat.blt x.refuse 9223372036854775808=true:=by rw[aD];exact Zh hx
 simp only[pg,hf,e,cond_true,hv,h1,h2,hs]
theorem vh{spec:Spec}{spec0:List Value→Option Value}{vs vs0 rr' rb':List Value}{h:Hp Ar}{q:B3}{x x':Ar}{rr rb:List Value}{v0 v:Value}{r:Nat}(hr:eq vs=some r)(hf:lJ vs h.tbl=some (q,x,rr,rb))(hx:x.refuse<9223372036854775808)(hv:fZ q vs=some vs0)(h1:aj q rr=some rr')(h2:aj q rb=some rb')(hs:spec x vs0=some (v0,x'))(hb:gR q v0=some v):cH spec spec0 vs h=some (v,⟨upd q.i (.ext x') h.tbl,h.next⟩):=by
 have e:Nat.blt x.refuse 9223372036854775808=true:=by rw[aD];exact Zh hx
 simp only[cH,hr,hf,e,cond_true,hv,h1,h2,hs,hb]
end Go.AI
namespace Go.AI
variable {x:Ar}
def wA(f:Nat):Bool:=Nat.ble 6 f&&Nat.ble f 8
def lU:Spec
 |x,[.agg ⟨[.pointer (some ⟨2,0,none⟩)]⟩,.int .i64 a,.int .i64 (.ofNat f)]=>bif wA f then dT x a (fun _=>.int .i64 (.ofNat 0)) (fun a=>.int .i64 (BF x a f)) else none
 |_,_=>none
def mf:Spec
 |x,[.agg ⟨[.pointer (some ⟨2,0,none⟩),.pointer (some ⟨0,0,none⟩),.int .i64 b1,.int .i64 b2,.int .u64 (.ofNat w),.pointer (some ⟨0,0,none⟩),.int .i64 b3,.int .i64 b4,.int .i64 b5,.pointer (some ⟨0,0,none⟩),.int .i64 (.ofNat b6),.int .i64 b7]⟩,.int .i64 (.ofNat f),.int .u64 (.ofNat v)] =>
  bif wA f&&(Nat.blt v 18446744073709551616&&(Nat.ble 32 b6&&(bz b1 (.ofNat (b6-32+160))&&(bz b2 (.ofNat 32)&&(bz b3 (.ofNat (b6-32+160))&&(bz b4 (.ofNat 32)&&(bz b5 (.ofNat 1024)&&bz b7 (.ofNat 992)))))))) then
   (match dX x (.ofNat (b6-32)) with
   |some 0=>some (.tuple ⟨[]⟩,stw x (b6-32+32+8*f) v)
   |_=>none) else none
 |_,_=>none
end Go.AI
namespace Go.AI
open Go.Proofs
variable {W0:World}{Cls:Nat→Int→Prop}
theorem BH{x:Ar}{rr rb:List Value}{a:Int}{e:Nat}:aU F1 ac (ab hV6)
 [.run 10,.callR (vT [ndZ,vI (e+1)]) x,.run 48]
 1000 27 [trC,.int .i64 a,vI 6] x rr rb=some ((vI 0),x,pA::rb,pB::rr,[.callR 28 x rr rb [pR,.int .i64 a] (vT [ndZ,vI (e+1)]) x]):=by kernel_rfl
theorem HA{x:Ar}{rr rb:List Value}{a:Int}{e:Nat}(hx:x.refuse<9223372036854775808)(hrr:aj ⟨0,1,2⟩ rr=some rr)(hrb:aj ⟨0,1,2⟩ rb=some rb)(hN:aZ x [pR,.int .i64 a]=some (.tuple ⟨[ndZ,ah (e+1)]⟩,x)):RQ hV6 27 [trC,.int .i64 a,vI 6] x rr rb (vI 0) x:=by
 refine aX (av (BH (x:=x) (rr:=rr) (rb:=rb) (a:=a) (e:=e)) ?_) ?_ ?_
 ·repeat' first|exact trivial|assumption|exact aA rfl (by assumption)|exact⟨_,_,rfl,by first|assumption|rfl⟩|apply And.intro|rfl
 all_goals first|rfl|(simp only[cond_true, *,zT,cond_false]<;>rfl)
theorem GX{x:Ar}{rr rb:List Value}{a1 w n:Nat}:aU F1 ac (ab hV6)
 [.run 10,.callR (vK (ndC a1 w)) x,.run 38,.call (vK (vU n)) x,.run 12,.cvt (.int .i64 (ai IntKind.i64 (Int.ofNat n))),.run 16]
 1000 27 [trC,i0 a1,vI 6] x rr rb=some ((.int .i64 (ai IntKind.i64 (Int.ofNat n))),x,pA::rb,pB::rr,[.cv .i64 (vU n) (.int .i64 (ai IntKind.i64 (Int.ofNat n))),.call 56 x [vW (a1+32) 992,vI 48,vI 8] (vK (vU n)) x,.callR 28 x rr rb [pR,vI a1] (vK (ndC a1 w)) x]):=by kernel_rfl
theorem KV{x:Ar}{rr rb:List Value}{a1 w n:Nat}(hx:x.refuse<9223372036854775808)(hrr:aj ⟨0,1,2⟩ rr=some rr)(hrb:aj ⟨0,1,2⟩ rb=some rb)(hN:aZ x [pR,i0 a1]=some (.tuple ⟨[ndC a1 w,ah 0]⟩,x))(hL:cz x [vwC (.ofNat (a1+32)) (.ofNat 992),vI 48,vI 8]=some (.tuple ⟨[fz n,ah 0]⟩,x)):RQ hV6 27 [trC,i0 a1,vI 6] x rr rb (.int .i64 (ai .i64 (.ofNat n))) x:=by
 refine aX (av (GX (x:=x) (rr:=rr) (rb:=rb) (a1:=a1) (w:=w) (n:=n)) ?_) ?_ ?_
 ·repeat' first|exact trivial|assumption|exact aA rfl (by assumption)|exact⟨_,_,rfl,by first|assumption|rfl⟩|apply And.intro|rfl
 all_goals first|rfl|(simp only[cond_true, *,zT,cond_false]<;>rfl)
theorem E2{x X:Ar}{rr rb:List Value}{a1 w v:Nat}:aU F1 ac (ab hV6)
 [.run 18,.call (vI 0) X,.run 16]
 1000 35 [ndC a1 w,vI 6,.int .u64 (.ofNat v)] x rr rb=some ((vT []),X,pA::rb,pB::rr,[.call 42 x [vW (a1+32) 992,vI 48,vI 8,vU v] (vI 0) X]):=by kernel_rfl
theorem KJ{x X:Ar}{rr rb:List Value}{a1 w v:Nat}(hx:x.refuse<9223372036854775808)(hrr:aj ⟨0,1,2⟩ rr=some rr)(hrb:aj ⟨0,1,2⟩ rb=some rb)(hL:cU x [vwC (.ofNat (a1+32)) (.ofNat 992),vI 48,vI 8,.int .u64 (.ofNat v)]=some (ah 0,X)):RQ hV6 35 [ndC a1 w,vI 6,.int .u64 (.ofNat v)] x rr rb (.tuple ⟨[]⟩) X:=by
 refine aX (av (E2 (x:=x) (X:=X) (rr:=rr) (rb:=rb) (a1:=a1) (w:=w) (v:=v)) ?_) ?_ ?_
 ·repeat' first|exact trivial|assumption|exact aA rfl (by assumption)|exact⟨_,_,rfl,by first|assumption|rfl⟩|apply And.intro|rfl
 all_goals first|rfl|(simp only[cond_true, *,zT,cond_false]<;>rfl)
theorem C7{x:Ar}{rr rb:List Value}{a:Int}{e:Nat}:aU F1 ac (ab hV6)
 [.run 10,.callR (vT [ndZ,vI (e+1)]) x,.run 48]
 1000 27 [trC,.int .i64 a,vI 7] x rr rb=some ((vI 0),x,pA::rb,pB::rr,[.callR 28 x rr rb [pR,.int .i64 a] (vT [ndZ,vI (e+1)]) x]):=by kernel_rfl
theorem Iw{x:Ar}{rr rb:List Value}{a:Int}{e:Nat}(hx:x.refuse<9223372036854775808)(hrr:aj ⟨0,1,2⟩ rr=some rr)(hrb:aj ⟨0,1,2⟩ rb=some rb)(hN:aZ x [pR,.int .i64 a]=some (.tuple ⟨[ndZ,ah (e+1)]⟩,x)):RQ hV6 27 [trC,.int .i64 a,vI 7] x rr rb (vI 0) x:=by
 refine aX (av (C7 (x:=x) (rr:=rr) (rb:=rb) (a:=a) (e:=e)) ?_) ?_ ?_
 ·repeat' first|exact trivial|assumption|exact aA rfl (by assumption)|exact⟨_,_,rfl,by first|assumption|rfl⟩|apply And.intro|rfl
 all_goals first|rfl|(simp only[cond_true, *,zT,cond_false]<;>rfl)
theorem Gq{x:Ar}{rr rb:List Value}{a1 w n:Nat}:aU F1 ac (ab hV6)
 [.run 10,.callR (vK (ndC a1 w)) x,.run 38,.call (vK (vU n)) x,.run 12,.cvt (.int .i64 (ai IntKind.i64 (Int.ofNat n))),.run 16]
 1000 27 [trC,i0 a1,vI 7] x rr rb=some ((.int .i64 (ai IntKind.i64 (Int.ofNat n))),x,pA::rb,pB::rr,[.cv .i64 (vU n) (.int .i64 (ai IntKind.i64 (Int.ofNat n))),.call 56 x [vW (a1+32) 992,vI 56,vI 8] (vK (vU n)) x,.callR 28 x rr rb [pR,vI a1] (vK (ndC a1 w)) x]):=by kernel_rfl
theorem L5{x:Ar}{rr rb:List Value}{a1 w n:Nat}(hx:x.refuse<9223372036854775808)(hrr:aj ⟨0,1,2⟩ rr=some rr)(hrb:aj ⟨0,1,2⟩ rb=some rb)(hN:aZ x [pR,i0 a1]=some (.tuple ⟨[ndC a1 w,ah 0]⟩,x))(hL:cz x [vwC (.ofNat (a1+32)) (.ofNat 992),vI 56,vI 8]=some (.tuple ⟨[fz n,ah 0]⟩,x)):RQ hV6 27 [trC,i0 a1,vI 7] x rr rb (.int .i64 (ai .i64 (.ofNat n))) x:=by
 refine aX (av (Gq (x:=x) (rr:=rr) (rb:=rb) (a1:=a1) (w:=w) (n:=n)) ?_) ?_ ?_
 ·repeat' first|exact trivial|assumption|exact aA rfl (by assumption)|exact⟨_,_,rfl,by first|assumption|rfl⟩|apply And.intro|rfl
 all_goals first|rfl|(simp only[cond_true, *,zT,cond_false]<;>rfl)
theorem En{x X:Ar}{rr rb:List Value}{a1 w v:Nat}:aU F1 ac (ab hV6)
 [.run 18,.call (vI 0) X,.run 16]
 1000 35 [ndC a1 w,vI 7,.int .u64 (.ofNat v)] x rr rb=some ((vT []),X,pA::rb,pB::rr,[.call 42 x [vW (a1+32) 992,vI 56,vI 8,vU v] (vI 0) X]):=by kernel_rfl
theorem Lj{x X:Ar}{rr rb:List Value}{a1 w v:Nat}(hx:x.refuse<9223372036854775808)(hrr:aj ⟨0,1,2⟩ rr=some rr)(hrb:aj ⟨0,1,2⟩ rb=some rb)(hL:cU x [vwC (.ofNat (a1+32)) (.ofNat 992),vI 56,vI 8,.int .u64 (.ofNat v)]=some (ah 0,X)):RQ hV6 35 [ndC a1 w,vI 7,.int .u64 (.ofNat v)] x rr rb (.tuple ⟨[]⟩) X:=by
 refine aX (av (En (x:=x) (X:=X) (rr:=rr) (rb:=rb) (a1:=a1) (w:=w) (v:=v)) ?_) ?_ ?_
 ·repeat' first|exact trivial|assumption|exact aA rfl (by assumption)|exact⟨_,_,rfl,by first|assumption|rfl⟩|apply And.intro|rfl
 all_goals first|rfl|(simp only[cond_true, *,zT,cond_false]<;>rfl)
theorem A0{x:Ar}{rr rb:List Value}{a:Int}{e:Nat}:aU F1 ac (ab hV6)
 [.run 10,.callR (vT [ndZ,vI (e+1)]) x,.run 48]
 1000 27 [trC,.int .i64 a,vI 8] x rr rb=some ((vI 0),x,pA::rb,pB::rr,[.callR 28 x rr rb [pR,.int .i64 a] (vT [ndZ,vI (e+1)]) x]):=by kernel_rfl
theorem H9{x:Ar}{rr rb:List Value}{a:Int}{e:Nat}(hx:x.refuse<9223372036854775808)(hrr:aj ⟨0,1,2⟩ rr=some rr)(hrb:aj ⟨0,1,2⟩ rb=some rb)(hN:aZ x [pR,.int .i64 a]=some (.tuple ⟨[ndZ,ah (e+1)]⟩,x)):RQ hV6 27 [trC,.int .i64 a,vI 8] x rr rb (vI 0) x:=by
 refine aX (av (A0 (x:=x) (rr:=rr) (rb:=rb) (a:=a) (e:=e)) ?_) ?_ ?_
 ·repeat' first|exact trivial|assumption|exact aA rfl (by assumption)|exact⟨_,_,rfl,by first|assumption|rfl⟩|apply And.intro|rfl
 all_goals first|rfl|(simp only[cond_true, *,zT,cond_false]<;>rfl)
theorem D2{x:Ar}{rr rb:List Value}{a1 w n:Nat}:aU F1 ac (ab hV6)
 [.run 10,.callR (vK (ndC a1 w)) x,.run 38,.call (vK (vU n)) x,.run 12,.cvt (.int .i64 (ai IntKind.i64 (Int.ofNat n))),.run 16]
 1000 27 [trC,i0 a1,vI 8] x rr rb=some ((.int .i64 (ai IntKind.i64 (Int.ofNat n))),x,pA::rb,pB::rr,[.cv .i64 (vU n) (.int .i64 (ai IntKind.i64 (Int.ofNat n))),.call 56 x [vW (a1+32) 992,vI 64,vI 8] (vK (vU n)) x,.callR 28 x rr rb [pR,vI a1] (vK (ndC a1 w)) x]):=by kernel_rfl
theorem Mn{x:Ar}{rr rb:List Value}{a1 w n:Nat}(hx:x.refuse<9223372036854775808)(hrr:aj ⟨0,1,2⟩ rr=some rr)(hrb:aj ⟨0,1,2⟩ rb=some rb)(hN:aZ x [pR,i0 a1]=some (.tuple ⟨[ndC a1 w,ah 0]⟩,x))(hL:cz x [vwC (.ofNat (a1+32)) (.ofNat 992),vI 64,vI 8]=some (.tuple ⟨[fz n,ah 0]⟩,x)):RQ hV6 27 [trC,i0 a1,vI 8] x rr rb (.int .i64 (ai .i64 (.ofNat n))) x:=by
 refine aX (av (D2 (x:=x) (rr:=rr) (rb:=rb) (a1:=a1) (w:=w) (n:=n)) ?_) ?_ ?_
 ·repeat' first|exact trivial|assumption|exact aA rfl (by assumption)|exact⟨_,_,rfl,by first|assumption|rfl⟩|apply And.intro|rfl
 all_goals first|rfl|(simp only[cond_true, *,zT,cond_false]<;>rfl)
theorem GT{x X:Ar}{rr rb:List Value}{a1 w v:Nat}:aU F1 ac (ab hV6)
 [.run 18,.call (vI 0) X,.run 16]
 1000 35 [ndC a1 w,vI 8,.int .u64 (.ofNat v)] x rr rb=some ((vT []),X,pA::rb,pB::rr,[.call 42 x [vW (a1+32) 992,vI 64,vI 8,vU v] (vI 0) X]):=by kernel_rfl
theorem Lq{x X:Ar}{rr rb:List Value}{a1 w v:Nat}(hx:x.refuse<9223372036854775808)(hrr:aj ⟨0,1,2⟩ rr=some rr)(hrb:aj ⟨0,1,2⟩ rb=some rb)(hL:cU x [vwC (.ofNat (a1+32)) (.ofNat 992),vI 64,vI 8,.int .u64 (.ofNat v)]=some (ah 0,X)):RQ hV6 35 [ndC a1 w,vI 8,.int .u64 (.ofNat v)] x rr rb (.tuple ⟨[]⟩) X:=by
 refine aX (av (GT (x:=x) (X:=X) (rr:=rr) (rb:=rb) (a1:=a1) (w:=w) (v:=v)) ?_) ?_ ?_
 ·repeat' first|exact trivial|assumption|exact aA rfl (by assumption)|exact⟨_,_,rfl,by first|assumption|rfl⟩|apply And.intro|rfl
 all_goals first|rfl|(simp only[cond_true, *,zT,cond_false]<;>rfl)
theorem md{f:Nat}(h:wA f=true):f=6∨f=7∨f=8:=by
 unfold wA at h;rw[Zi,Zk,Zk] at h;omega
theorem Nu{x x':Ar}{rr rb vs:List Value}{v:Value}(hx:x.refuse<9223372036854775808)(hrr:aj ⟨0,1,2⟩ rr=some rr)(hrb:aj ⟨0,1,2⟩ rb=some rb)(hs:lU x vs=some (v,x')):RQ hV6 27 vs x rr rb (v) x':=by
 unfold lU at hs;split at hs
 ·rename_i a f;cases hf:wA f with
  |false=>rw[hf] at hs;cases hs
  |true =>
   rw[hf,cond_true] at hs;unfold dT at hs;split at hs
   ·rename_i e he;injection hs with hs;injection hs with h1 h2;subst h1;subst h2;rcases md hf with rfl|rfl|rfl
    ·exact HA hx hrr hrb (dW he)
    ·exact Iw hx hrr hrb (dW he)
    ·exact H9 hx hrr hrb (dW he)
   ·rename_i he;rcases md hf with rfl|rfl|rfl
    ·cases a with
     |ofNat a=>simp only at hs;injection hs with hs;injection hs with h1 h2;subst h1;subst h2;exact KV hx hrr hrb (dE he) (eW (b:=48) he (by decide) rfl)
     |negSucc a=>cases hs
    ·cases a with
     |ofNat a=>simp only at hs;injection hs with hs;injection hs with h1 h2;subst h1;subst h2;exact L5 hx hrr hrb (dE he) (eW (b:=56) he (by decide) rfl)
     |negSucc a=>cases hs
    ·cases a with
     |ofNat a=>simp only at hs;injection hs with hs;injection hs with h1 h2;subst h1;subst h2;exact Mn hx hrr hrb (dE he) (eW (b:=64) he (by decide) rfl)
     |negSucc a=>cases hs
   ·cases hs
 ·cases hs
theorem NR{x x':Ar}{rr rb vs:List Value}{v:Value}(hx:x.refuse<9223372036854775808)(hrr:aj ⟨0,1,2⟩ rr=some rr)(hrb:aj ⟨0,1,2⟩ rb=some rb)(hs:mf x vs=some (v,x')):RQ hV6 35 vs x rr rb (v) x':=by
 unfold mf at hs;split at hs
 ·rename_i b1 b2 w b3 b4 b5 b6 b7 f v;cases hf:(wA f&&(Nat.blt v 18446744073709551616&&(Nat.ble 32 b6&&(bz b1 (.ofNat (b6-32+160))&&(bz b2 (.ofNat 32)&&(bz b3 (.ofNat (b6-32+160))&&(bz b4 (.ofNat 32)&&(bz b5 (.ofNat 1024)&&bz b7 (.ofNat 992))))))))) with
  |false=>rw[hf] at hs;cases hs
  |true =>
   rw[hf,cond_true] at hs;simp only[Zi,d7,beq_iff_eq,Zk,aD,Zt] at hf;obtain⟨hf,hv,h32,rfl,rfl,rfl,rfl,rfl,rfl⟩:=hf;obtain⟨a1,rfl⟩:∃a,b6=a+32:=⟨b6-32,by omega⟩;rw[Nat.add_sub_cancel] at hs;rw[Nat.add_sub_cancel];split at hs
   ·rename_i he;injection hs with hs;injection hs with h1 h2;subst h1;subst h2;rcases md hf with rfl|rfl|rfl
    ·exact KJ hx hrr hrb (d9 (b:=48) he (by decide) rfl (by rw[aD];exact Zh hv))
    ·exact Lj hx hrr hrb (d9 (b:=56) he (by decide) rfl (by rw[aD];exact Zh hv))
    ·exact Lq hx hrr hrb (d9 (b:=64) he (by decide) rfl (by rw[aD];exact Zh hv))
   ·cases hs
 ·cases hs
theorem Hj:aQ (a8 Cls) PZ W0 27 (cH lU (fun _=>none)) :=
 ew (eV oq) (fun _ _ _ _ _ _ hx h1 h2 hs=>Nu hx h1 h2 hs) fun _ _ _ hs=>by cases hs
theorem IQ:aQ (a8 Cls) PZ W0 35 (cH mf (fun _=>none)) :=
 ew (eV oq) (fun _ _ _ _ _ _ hx h1 h2 hs=>NR hx h1 h2 hs) fun _ _ _ hs=>by cases hs
end Go.AI
