/- A node at an address; its numbers: what is said of them. No program is named here. -/
import Derived.Test.YtodcomgkpifpfaaGreatDoorKV
set_option maxRecDepth 100000
namespace Go.AI
variable {x:Ar}
abbrev ndC(a w:Nat):Value:=.agg ⟨[pR,pA,.int .i64 (.ofNat (a+160)),.int .i64 (.ofNat 32),.int .u64 (.ofNat w),pA,.int .i64 (.ofNat (a+160)),.int .i64 (.ofNat 32),.int .i64 (.ofNat 1024),pA,.int .i64 (.ofNat (a+32)),.int .i64 (.ofNat 992)]⟩
abbrev ndZ:Value:=.agg ⟨[.pointer none,.pointer none,.int .i64 (.ofNat 0),.int .i64 (.ofNat 0),.int .u64 (.ofNat 0),.pointer none,.int .i64 (.ofNat 0),.int .i64 (.ofNat 0),.int .i64 (.ofNat 0),.pointer none,.int .i64 (.ofNat 0),.int .i64 (.ofNat 0)]⟩
def ndBad(w w0 w1:Nat)(n:Int):Bool:=ieqF (.ofNat w) (.ofNat 0)||(!ieqF (.ofNat w0) (.ofNat 1162104654)||(!ieqF n (.ofNat 0)||!ieqF (.ofNat w1) (.ofNat w)))
def ndE(x:Ar)(a:Nat):Nat:=bif ndBad (ckW x a) (loadV x (.ofNat (a+136)) (.ofNat 8)) (loadV x (.ofNat (a+32)) (.ofNat 8)) (ckN x a) then 7 else 0
def nodeE(x:Ar):Int→Option Nat
 | .negSucc _=>some 3
 | .ofNat a=>match bytesE x (.ofNat a) (.ofNat 32) with
  |e+1=>some (e+1)
  |0=>bif Nat.blt a 4611686018427387904 then(bif ckBad a (loadV x (.ofNat (a+0)) (.ofNat 4)) (ckO x a) (ckN x a) then some 7 else some (ndE x a)) else none
def ofNode(x:Ar)(a:Int)(z:Nat→Value)(f:Nat→Value):Option (Value×Ar):=match nodeE x a with
 |some (e+1)=>some (z (e+1),x)
 |some 0=>match a with
  | .ofNat a=>some (f a,x)
  |_=>none
 |none=>none
def spNodeAt:Spec
 |x,[.pointer (some ⟨2,0,none⟩),.int .i64 a]=>ofNode x a (fun e=>.tuple ⟨[ndZ,errV e]⟩) fun a=>.tuple ⟨[ndC a (ckW x a),errV 0]⟩
 |_,_=>none
def spNodeAt0:List Value→Option Value
 |[.pointer none,.int .i64 _]=>some (.tuple ⟨[ndZ,errV 1]⟩)
 |_=>none
theorem page_whole{l:List (Option Nat)}{a:Nat}(h:checkN l a 32=0)(ha:a % 4096=0):checkN l a 4096=0:=by
 have ht:=check_there h
 obtain⟨P,hP⟩:=ht.2 (by decide) (a / 4096) (Nat.le_refl _) (by omega)
 refine check_of ⟨?_,fun _ q q1 q2=>⟨P,?_⟩⟩
 ·have:=ht.1;omega
 ·have e:q=a / 4096:=by omega
  exact e▸hP
theorem bytesE_page{a b m:Nat}(h:bytesE x (.ofNat a) (.ofNat 32)=0)(ha:a % 4096=0)(h1:b+m≤4096):bytesE x (.ofNat (a+b)) (.ofNat m)=0 :=
 bytesE_sub (bytesE_zero.2 (page_whole (bytesE_zero.1 h) ha)) h1
theorem ckBad_mod{a l0:Nat}{o n:Int}(h:ckBad a l0 o n=false):a % 4096=0:=by
 have e:(!ieqF (.ofNat (Nat.mod a 4096)) (.ofNat 0))=false:=by
  unfold ckBad at h
  rw[Bool.or_eq_false_iff,Bool.or_eq_false_iff] at h
  exact h.2.1
 rw[Bool.not_eq_false',ieqF_eq,beq_iff_eq] at e
 exact Int.ofNat.inj e
end Go.AI
/- A node found. -/
namespace Go.AI
open Go.Proofs
variable {W0:World}{Cls:Nat→Int→Prop}
theorem wNodeAt_1{x:Ar}{rr rb:List Value}{a1 w:Nat}{o n:Int}:scriptR F1 cleanT (hookL hV4)
 [.run 21,.call (vT [(vA [(vI (a1)),(.int .i64 (o)),(vU (w)),(.int .i64 (n))]),(vI 0)]) (x),.run 35,.call (vT [(vA [pA,(vI (a1+32)),(vI 992)]),(vI 0)]) (x),.run 6,.fin,.run 9,.call (vT [(vA [pA,(vI (a1+160)),(vI 32)]),(vI 0)]) (x),.run 63,.val (.bool true),.run 112]
 1000 54 [pR,.int .i64 (.ofNat a1)] x rr rb=some ((vT [(vA [(.pointer none),(.pointer none),(vI 0),(vI 0),(vU 0),(.pointer none),(vI 0),(vI 0),(vI 0),(.pointer none),(vI 0),(vI 0)]),(vI 7)]),(x),pA::rb,pB::rr,[(.bin .eql .no (vU (w)) (vU 0) (.bool true)),(.call 75 (x) [(vA [pA,(vI (a1+32)),(vI 992)]),(vI 128),(vI 32)] (vT [(vA [pA,(vI (a1+160)),(vI 32)]),(vI 0)]) (x)),(.same [(vD (vI (a1)))]),(.call 41 (x) [pA,(.int .i64 (wrapF IntKind.i64 (Int.ofNat a1+32))),(vI 992)] (vT [(vA [pA,(vI (a1+32)),(vI 992)]),(vI 0)]) (x)),(.call 82 (x) [pA,(vI (a1))] (vT [(vA [(vI (a1)),(.int .i64 (o)),(vU (w)),(.int .i64 (n))]),(vI 0)]) (x))]):=by kernel_rfl
theorem wNodeAt_2{x:Ar}{rr rb:List Value}{a1 w w0:Nat}{o n:Int}:scriptR F1 cleanT (hookL hV4)
 [.run 21,.call (vT [(vA [(vI (a1)),(.int .i64 (o)),(vU (w)),(.int .i64 (n))]),(vI 0)]) (x),.run 35,.call (vT [(vA [pA,(vI (a1+32)),(vI 992)]),(vI 0)]) (x),.run 6,.fin,.run 9,.call (vT [(vA [pA,(vI (a1+160)),(vI 32)]),(vI 0)]) (x),.run 63,.val (.bool false),.run 110,.fin,.run 20,.call (vT [(vU (w0)),(vI 0)]) (x),.run 9,.val (.bool true),.run 48]
 1000 54 [pR,.int .i64 (.ofNat a1)] x rr rb=some ((vT [(vA [(.pointer none),(.pointer none),(vI 0),(vI 0),(vU 0),(.pointer none),(vI 0),(vI 0),(vI 0),(.pointer none),(vI 0),(vI 0)]),(vI 7)]),(x),pA::rb,pB::rr,[(.bin .neq .no (vU (w0)) (vU 1162104654) (.bool true)),(.call 57 (x) [(vA [pA,(vI (a1+32)),(vI 992)]),(vI 104),(vI 8)] (vT [(vU (w0)),(vI 0)]) (x)),(.same [(vD (vI (a1+32))),(vD (vI 992)),(vD (vI (a1+32))),(vD (vI 992)),(vD (vI (a1+160))),(vD (vI 32)),(vD (vU (w))),(vD (vI (a1+160))),(vD (vI 32)),(vD (vI 1024))]),(.bin .eql .no (vU (w)) (vU 0) (.bool false)),(.call 75 (x) [(vA [pA,(vI (a1+32)),(vI 992)]),(vI 128),(vI 32)] (vT [(vA [pA,(vI (a1+160)),(vI 32)]),(vI 0)]) (x)),(.same [(vD (vI (a1)))]),(.call 41 (x) [pA,(.int .i64 (wrapF IntKind.i64 (Int.ofNat a1+32))),(vI 992)] (vT [(vA [pA,(vI (a1+32)),(vI 992)]),(vI 0)]) (x)),(.call 82 (x) [pA,(vI (a1))] (vT [(vA [(vI (a1)),(.int .i64 (o)),(vU (w)),(.int .i64 (n))]),(vI 0)]) (x))]):=by kernel_rfl
theorem wNodeAt_3{x:Ar}{rr rb:List Value}{a1 w w0:Nat}{o n:Int}:scriptR F1 cleanT (hookL hV4)
 [.run 21,.call (vT [(vA [(vI (a1)),(.int .i64 (o)),(vU (w)),(.int .i64 (n))]),(vI 0)]) (x),.run 35,.call (vT [(vA [pA,(vI (a1+32)),(vI 992)]),(vI 0)]) (x),.run 6,.fin,.run 9,.call (vT [(vA [pA,(vI (a1+160)),(vI 32)]),(vI 0)]) (x),.run 63,.val (.bool false),.run 110,.fin,.run 20,.call (vT [(vU (w0)),(vI 0)]) (x),.run 9,.val (.bool false),.run 3,.val (.bool true),.run 8,.fin,.run 16]
 1000 54 [pR,.int .i64 (.ofNat a1)] x rr rb=some ((vT [(vA [(.pointer none),(.pointer none),(vI 0),(vI 0),(vU 0),(.pointer none),(vI 0),(vI 0),(vI 0),(.pointer none),(vI 0),(vI 0)]),(vI 7)]),(x),pA::rb,pB::rr,[(.same [(vD (.int .i64 (n)))]),(.bin .neq .no (.int .i64 (n)) (vI 0) (.bool true)),(.bin .neq .no (vU (w0)) (vU 1162104654) (.bool false)),(.call 57 (x) [(vA [pA,(vI (a1+32)),(vI 992)]),(vI 104),(vI 8)] (vT [(vU (w0)),(vI 0)]) (x)),(.same [(vD (vI (a1+32))),(vD (vI 992)),(vD (vI (a1+32))),(vD (vI 992)),(vD (vI (a1+160))),(vD (vI 32)),(vD (vU (w))),(vD (vI (a1+160))),(vD (vI 32)),(vD (vI 1024))]),(.bin .eql .no (vU (w)) (vU 0) (.bool false)),(.call 75 (x) [(vA [pA,(vI (a1+32)),(vI 992)]),(vI 128),(vI 32)] (vT [(vA [pA,(vI (a1+160)),(vI 32)]),(vI 0)]) (x)),(.same [(vD (vI (a1)))]),(.call 41 (x) [pA,(.int .i64 (wrapF IntKind.i64 (Int.ofNat a1+32))),(vI 992)] (vT [(vA [pA,(vI (a1+32)),(vI 992)]),(vI 0)]) (x)),(.call 82 (x) [pA,(vI (a1))] (vT [(vA [(vI (a1)),(.int .i64 (o)),(vU (w)),(.int .i64 (n))]),(vI 0)]) (x))]):=by kernel_rfl
theorem wNodeAt_4{x:Ar}{rr rb:List Value}{a1 w w0 w1:Nat}{o n:Int}:scriptR F1 cleanT (hookL hV4)
 [.run 21,.call (vT [(vA [(vI (a1)),(.int .i64 (o)),(vU (w)),(.int .i64 (n))]),(vI 0)]) (x),.run 35,.call (vT [(vA [pA,(vI (a1+32)),(vI 992)]),(vI 0)]) (x),.run 6,.fin,.run 9,.call (vT [(vA [pA,(vI (a1+160)),(vI 32)]),(vI 0)]) (x),.run 63,.val (.bool false),.run 110,.fin,.run 20,.call (vT [(vU (w0)),(vI 0)]) (x),.run 9,.val (.bool false),.run 3,.val (.bool false),.run 24,.call (vT [(vU (w1)),(vI 0)]) (x),.run 15,.val (.bool true),.run 1,.fin,.run 16]
 1000 54 [pR,.int .i64 (.ofNat a1)] x rr rb=some ((vT [(vA [(.pointer none),(.pointer none),(vI 0),(vI 0),(vU 0),(.pointer none),(vI 0),(vI 0),(vI 0),(.pointer none),(vI 0),(vI 0)]),(vI 7)]),(x),pA::rb,pB::rr,[(.same [(vD (vU (w))),(vD (vU (w))),(vD (vI (a1+160))),(vD (vI 32)),(vD (vU (w))),(vD (vI (a1+160))),(vD (vI 32)),(vD (vI 1024)),(vD (vI (a1+32))),(vD (vI 992)),(vD (.int .i64 (n)))]),(.bin .neq .no (vU (w1)) (vU (w)) (.bool true)),(.call 57 (x) [(vA [pA,(vI (a1+32)),(vI 992)]),(vI 0),(vI 8)] (vT [(vU (w1)),(vI 0)]) (x)),(.bin .neq .no (.int .i64 (n)) (vI 0) (.bool false)),(.bin .neq .no (vU (w0)) (vU 1162104654) (.bool false)),(.call 57 (x) [(vA [pA,(vI (a1+32)),(vI 992)]),(vI 104),(vI 8)] (vT [(vU (w0)),(vI 0)]) (x)),(.same [(vD (vI (a1+32))),(vD (vI 992)),(vD (vI (a1+32))),(vD (vI 992)),(vD (vI (a1+160))),(vD (vI 32)),(vD (vU (w))),(vD (vI (a1+160))),(vD (vI 32)),(vD (vI 1024))]),(.bin .eql .no (vU (w)) (vU 0) (.bool false)),(.call 75 (x) [(vA [pA,(vI (a1+32)),(vI 992)]),(vI 128),(vI 32)] (vT [(vA [pA,(vI (a1+160)),(vI 32)]),(vI 0)]) (x)),(.same [(vD (vI (a1)))]),(.call 41 (x) [pA,(.int .i64 (wrapF IntKind.i64 (Int.ofNat a1+32))),(vI 992)] (vT [(vA [pA,(vI (a1+32)),(vI 992)]),(vI 0)]) (x)),(.call 82 (x) [pA,(vI (a1))] (vT [(vA [(vI (a1)),(.int .i64 (o)),(vU (w)),(.int .i64 (n))]),(vI 0)]) (x))]):=by kernel_rfl
theorem wNodeAt_5{x:Ar}{rr rb:List Value}{a1 w w0 w1:Nat}{o n:Int}:scriptR F1 cleanT (hookL hV4)
 [.run 21,.call (vT [(vA [(vI (a1)),(.int .i64 (o)),(vU (w)),(.int .i64 (n))]),(vI 0)]) (x),.run 35,.call (vT [(vA [pA,(vI (a1+32)),(vI 992)]),(vI 0)]) (x),.run 6,.fin,.run 9,.call (vT [(vA [pA,(vI (a1+160)),(vI 32)]),(vI 0)]) (x),.run 63,.val (.bool false),.run 110,.fin,.run 20,.call (vT [(vU (w0)),(vI 0)]) (x),.run 9,.val (.bool false),.run 3,.val (.bool false),.run 24,.call (vT [(vU (w1)),(vI 0)]) (x),.run 15,.val (.bool false),.run 1,.fin,.run 16]
 1000 54 [pR,.int .i64 (.ofNat a1)] x rr rb=some ((vT [(vA [pR,pA,(vI (a1+160)),(vI 32),(vU (w)),pA,(vI (a1+160)),(vI 32),(vI 1024),pA,(vI (a1+32)),(vI 992)]),(vI 0)]),(x),pA::rb,pB::rr,[(.same [(vD (vU (w))),(vD (vU (w))),(vD (vI (a1+160))),(vD (vI 32)),(vD (vU (w))),(vD (vI (a1+160))),(vD (vI 32)),(vD (vI 1024)),(vD (vI (a1+32))),(vD (vI 992)),(vD (.int .i64 (n)))]),(.bin .neq .no (vU (w1)) (vU (w)) (.bool false)),(.call 57 (x) [(vA [pA,(vI (a1+32)),(vI 992)]),(vI 0),(vI 8)] (vT [(vU (w1)),(vI 0)]) (x)),(.bin .neq .no (.int .i64 (n)) (vI 0) (.bool false)),(.bin .neq .no (vU (w0)) (vU 1162104654) (.bool false)),(.call 57 (x) [(vA [pA,(vI (a1+32)),(vI 992)]),(vI 104),(vI 8)] (vT [(vU (w0)),(vI 0)]) (x)),(.same [(vD (vI (a1+32))),(vD (vI 992)),(vD (vI (a1+32))),(vD (vI 992)),(vD (vI (a1+160))),(vD (vI 32)),(vD (vU (w))),(vD (vI (a1+160))),(vD (vI 32)),(vD (vI 1024))]),(.bin .eql .no (vU (w)) (vU 0) (.bool false)),(.call 75 (x) [(vA [pA,(vI (a1+32)),(vI 992)]),(vI 128),(vI 32)] (vT [(vA [pA,(vI (a1+160)),(vI 32)]),(vI 0)]) (x)),(.same [(vD (vI (a1)))]),(.call 41 (x) [pA,(.int .i64 (wrapF IntKind.i64 (Int.ofNat a1+32))),(vI 992)] (vT [(vA [pA,(vI (a1+32)),(vI 992)]),(vI 0)]) (x)),(.call 82 (x) [pA,(vI (a1))] (vT [(vA [(vI (a1)),(.int .i64 (o)),(vU (w)),(.int .i64 (n))]),(vI 0)]) (x))]):=by kernel_rfl
set_option maxHeartbeats 1600000 in
theorem wNodeAt{x:Ar}{rr rb:List Value}{a1 w w0 w1:Nat}{o n:Int}(hx:x.refuse<9223372036854775808)(hC:spCkRead x [pA,.int .i64 (.ofNat a1)]=some (.tuple ⟨[ckC (.ofNat a1) o w n,errV 0]⟩,x))(hO:spVOf x [pA,.int .i64 (wrapF IntKind.i64 (Int.ofNat a1+32)),.int .i64 (.ofNat 992)]=some (.tuple ⟨[vwC (.ofNat (a1+32)) (.ofNat 992),errV 0]⟩,x))(hP:spVPart x [vwC (.ofNat (a1+32)) (.ofNat 992),vI 128,vI 32]=some (.tuple ⟨[vwC (.ofNat (a1+160)) (.ofNat 32),errV 0]⟩,x))(h0:spVLoad x [vwC (.ofNat (a1+32)) (.ofNat 992),vI 104,vI 8]=some (.tuple ⟨[numV w0,errV 0]⟩,x))(h1:spVLoad x [vwC (.ofNat (a1+32)) (.ofNat 992),vI 0,vI 8]=some (.tuple ⟨[numV w1,errV 0]⟩,x)):∃t nx,RS hV4 54 [pR,.int .i64 (.ofNat a1)] ⟨sm3 x rr rb,3⟩=some (bif ndBad w w0 w1 n then .tuple ⟨[ndZ,errV 7]⟩ else .tuple ⟨[ndC a1 w,errV 0]⟩,⟨t,nx⟩)∧look 0 t=some (.ext x)∧look 1 t=some (.cells (pA::rb))∧look 2 t=some (.cells (pB::rr)):=by
 unfold ndBad
 cases hb1:ieqF (Int.ofNat w) (Int.ofNat 0) with
 |true =>
  refine to_runR (scriptR_run (wNodeAt_1 (x:=x) (rr:=rr) (rb:=rb) (a1:=a1) (w:=w) (o:=o) (n:=n)) ?_) ?_ ?_
  ·repeat' first
    |exact trivial
    |assumption
    |exact ob_bin rfl (by assumption)
    |exact⟨_,_,rfl,by first|assumption|rfl⟩
    |refine And.intro ?_ ?_
    |exact rfl
  ·first|rfl|(simp only[cond_true, *,zT,cond_false]<;>rfl)
  ·first|rfl|(simp only[cond_true, *,cond_false]<;>rfl)
 |false =>
  cases hb2:!ieqF (Int.ofNat w0) (Int.ofNat 1162104654) with
  |true =>
   refine to_runR (scriptR_run (wNodeAt_2 (x:=x) (rr:=rr) (rb:=rb) (a1:=a1) (w:=w) (w0:=w0) (o:=o) (n:=n)) ?_) ?_ ?_
   ·repeat' first
     |exact trivial
     |assumption
     |exact ob_bin rfl (by assumption)
     |exact⟨_,_,rfl,by first|assumption|rfl⟩
     |refine And.intro ?_ ?_
     |exact rfl
   ·first|rfl|(simp only[cond_true, *,zT,cond_false]<;>rfl)
   ·first|rfl|(simp only[cond_true, *,cond_false]<;>rfl)
  |false =>
   cases hb3:!ieqF n (Int.ofNat 0) with
   |true =>
    refine to_runR (scriptR_run (wNodeAt_3 (x:=x) (rr:=rr) (rb:=rb) (a1:=a1) (w:=w) (w0:=w0) (o:=o) (n:=n)) ?_) ?_ ?_
    ·repeat' first
      |exact trivial
      |assumption
      |exact ob_bin rfl (by assumption)
      |exact⟨_,_,rfl,by first|assumption|rfl⟩
      |refine And.intro ?_ ?_
      |exact rfl
    ·first|rfl|(simp only[cond_true, *,zT,cond_false]<;>rfl)
    ·first|rfl|(simp only[cond_true, *,cond_false]<;>rfl)
   |false =>
    cases hb4:!ieqF (Int.ofNat w1) (Int.ofNat w) with
    |true =>
     refine to_runR (scriptR_run (wNodeAt_4 (x:=x) (rr:=rr) (rb:=rb) (a1:=a1) (w:=w) (w0:=w0) (w1:=w1) (o:=o) (n:=n)) ?_) ?_ ?_
     ·repeat' first
       |exact trivial
       |assumption
       |exact ob_bin rfl (by assumption)
       |exact⟨_,_,rfl,by first|assumption|rfl⟩
       |refine And.intro ?_ ?_
       |exact rfl
     ·first|rfl|(simp only[cond_true, *,zT,cond_false]<;>rfl)
     ·first|rfl|(simp only[cond_true, *,cond_false]<;>rfl)
    |false =>
     refine to_runR (scriptR_run (wNodeAt_5 (x:=x) (rr:=rr) (rb:=rb) (a1:=a1) (w:=w) (w0:=w0) (w1:=w1) (o:=o) (n:=n)) ?_) ?_ ?_
     ·repeat' first
       |exact trivial
       |assumption
       |exact ob_bin rfl (by assumption)
       |exact⟨_,_,rfl,by first|assumption|rfl⟩
       |refine And.intro ?_ ?_
       |exact rfl
     ·first|rfl|(simp only[cond_true, *,zT,cond_false]<;>rfl)
     ·first|rfl|(simp only[cond_true, *,cond_false]<;>rfl)
theorem wNodeAtE_1{x:Ar}{rr rb:List Value}{a:Int}{e:Nat}:scriptR F1 cleanT (hookL hV4)
 [.run 21,.call (vT [(vA [(vI 0),(vI 0),(vU 0),(vI 0)]),(vI (e+1))]) (x),.run 48]
 1000 54 [pR,.int .i64 a] x rr rb=some ((vT [(vA [(.pointer none),(.pointer none),(vI 0),(vI 0),(vU 0),(.pointer none),(vI 0),(vI 0),(vI 0),(.pointer none),(vI 0),(vI 0)]),(vI (e+1))]),(x),pA::rb,pB::rr,[(.call 82 (x) [pA,(.int .i64 (a))] (vT [(vA [(vI 0),(vI 0),(vU 0),(vI 0)]),(vI (e+1))]) (x))]):=by kernel_rfl
theorem wNodeAtE{x:Ar}{rr rb:List Value}{a:Int}{e:Nat}(hx:x.refuse<9223372036854775808)(hC:spCkRead x [pA,.int .i64 a]=some (.tuple ⟨[ckZ,errV (e+1)]⟩,x)):∃t nx,RS hV4 54 [pR,.int .i64 a] ⟨sm3 x rr rb,3⟩=some (.tuple ⟨[ndZ,errV (e+1)]⟩,⟨t,nx⟩)∧look 0 t=some (.ext x)∧look 1 t=some (.cells (pA::rb))∧look 2 t=some (.cells (pB::rr)):=by
 refine to_runR (scriptR_run (wNodeAtE_1 (x:=x) (rr:=rr) (rb:=rb) (a:=a) (e:=e)) ?_) ?_ ?_
 ·repeat' first
   |exact trivial
   |assumption
   |exact ob_bin rfl (by assumption)
   |exact⟨_,_,rfl,by first|assumption|rfl⟩
   |refine And.intro ?_ ?_
   |exact rfl
 ·first|rfl|(simp only[cond_true, *,zT,cond_false]<;>rfl)
 ·first|rfl|(simp only[cond_true, *,cond_false]<;>rfl)
theorem rNodeAt{x x':Ar}{rr rb vs:List Value}{v:Value}(hx:x.refuse<9223372036854775808)(hs:spNodeAt x vs=some (v,x')):∃t n,RS hV4 54 vs ⟨sm3 x rr rb,3⟩=some (v,⟨t,n⟩)∧look 0 t=some (.ext x')∧look 1 t=some (.cells (pA::rb))∧look 2 t=some (.cells (pB::rr)):=by
 unfold spNodeAt at hs
 split at hs
 ·rename_i a
  unfold ofNode at hs
  cases a with
  |negSucc a=>simp only[nodeE] at hs;injection hs with hs;injection hs with h1 h2;subst h1;subst h2;exact wNodeAtE (e:=2) hx rfl
  |ofNat a =>
   cases he:bytesE x (.ofNat a) (.ofNat 32) with
   |succ e=>simp only[nodeE,he] at hs;injection hs with hs;injection hs with h1 h2;subst h1;subst h2;exact wNodeAtE hx (by simp only[spCkRead,he])
   |zero =>
    cases hb:Nat.blt a 4611686018427387904 with
    |false=>simp only[nodeE,he,hb,cond_false] at hs;cases hs
    |true =>
     cases hk:ckBad a (loadV x (.ofNat (a+0)) (.ofNat 4)) (ckO x a) (ckN x a) with
     |true=>simp only[nodeE,he,hb,hk,cond_true] at hs;injection hs with hs;injection hs with h1 h2;subst h1;subst h2;exact wNodeAtE (e:=6) hx (by simp only[spCkRead,he,hb,hk,cond_true])
     |false =>
      have hm:=ckBad_mod hk
      have hb':=hb
      rw[blt_iff,decide_eq_true_eq] at hb'
      have hb2:a+32<4611686018427387904:=by omega
      have hv:=bytesE_page he hm (b:=32) (m:=992) (by decide)
      have e1:wrapF .i64 (Int.ofNat a+32)=Int.ofNat (a+32):=wrap_add hb' (by decide)
      have e2:wrapF .i64 (Int.ofNat (a+32)+Int.ofNat 128)=Int.ofNat (a+160):=wrap_add hb2 (by decide)
      have hv2:=bytesE_page he hm (b:=160) (m:=32) (by decide)
      have h0:=vload_in (b:=104) (m:=8) hv hb2 (by decide) (by decide) rfl rfl
      have h1:=vload_in (b:=0) (m:=8) hv hb2 (by decide) (by decide) rfl rfl
      rw[show a+32+104=a+136 by omega] at h0
      have h:=wNodeAt (rr:=rr) (rb:=rb) hx (show spCkRead x [pA,.int .i64 (.ofNat a)]=some (.tuple ⟨[ckC (.ofNat a) (ckO x a) (ckW x a) (ckN x a),errV 0]⟩,x) by simp only[spCkRead,he,hb,hk,cond_true,cond_false]) (by rw[e1];simp only[spVOf,hv]) (by
       have:vckN (.ofNat 992) (.ofNat 128) (.ofNat 32)=0:=rfl
       simp only[spVPart,this,e2,spVOf,hv2]) h0 h1
      simp only[nodeE,he,hb,hk,cond_true,cond_false,ndE] at hs
      cases hn:ndBad (ckW x a) (loadV x (.ofNat (a+136)) (.ofNat 8)) (loadV x (.ofNat (a+32)) (.ofNat 8)) (ckN x a) with
      |true=>rw[hn] at hs h;simp only[cond_true] at hs;injection hs with hs;injection hs with h1 h2;subst h1;subst h2;exact h
      |false=>rw[hn] at hs h;simp only[cond_false] at hs;injection hs with hs;injection hs with h1 h2;subst h1;subst h2;exact h
 ·cases hs
theorem zNodeAt_1{a:Int}:scriptZ F1 cleanT (hookL hV4)
 [.run 48]
 1000 54 [.pointer none,.int .i64 a]=some ((vT [(vA [(.pointer none),(.pointer none),(vI 0),(vI 0),(vU 0),(.pointer none),(vI 0),(vI 0),(vI 0),(.pointer none),(vI 0),(vI 0)]),(vI 1)]),[]):=by kernel_rfl
theorem zNodeAt{a:Int}  : ∃h',RS hV4 54 [.pointer none,.int .i64 a] ⟨[],0⟩=some (.tuple ⟨[ndZ,errV 1]⟩,h'):=by
 refine to_runZ (scriptZ_run (zNodeAt_1 (a:=a)) ?_) ?_
 ·repeat' first
   |exact trivial
   |assumption
   |exact ob_bin rfl (by assumption)
   |exact⟨_,_,rfl,by first|assumption|rfl⟩
   |refine And.intro ?_ ?_
   |exact rfl
 ·first|rfl|(simp only[cond_true, *,zT,cond_false]<;>rfl)
theorem yNodeAt{vs:List Value}{v:Value}(hs:spNodeAt0 vs=some v):∃h',RS hV4 54 vs ⟨[],0⟩=some (v,h'):=by
 unfold spNodeAt0 at hs
 split at hs
 ·injection hs with hs;subst hs;exact zNodeAt
 ·cases hs
def hV6:List (HookF Ar):=(54,liftR spNodeAt spNodeAt0)::hV4
theorem hV6_ok:∀y∈hV6,HookOk (Ext1 Cls) PZ W0 y.1 y.2 :=
 more_ok (E:=(Ext1 Cls)) hV4_ok (liftR_ok (RS_ok hV4_ok) (fun _ _ _ _ _ _ hx _ _ hs=>rNodeAt hx hs) fun _ _ _ hs=>yNodeAt hs)
end Go.AI
/- Words of an arena: what is loaded behind a store;plain numbers. No program is named here. -/
namespace Go.AI
theorem pgAt_set_same{l:List (Option Nat)}{q P Q:Nat}(h:pgAt l q=some P):pgAt (setPg l q (some Q)) q=some Q:=by
 induction l generalizing q with
 |nil=>cases h
 |cons p r ih =>
  cases q with
  |zero=>rfl
  |succ q=>exact ih h
theorem pgAt_set_ne{l:List (Option Nat)}{q i:Nat}{Q:Option Nat}(h:i≠q):pgAt (setPg l q Q) i=pgAt l i:=by
 induction l generalizing q i with
 |nil=>rfl
 |cons p r ih =>
  cases q with
  |zero =>
   cases i with
   |zero=>exact absurd rfl h
   |succ i=>rfl
  |succ q =>
   cases i with
   |zero=>rfl
   |succ i=>exact ih fun e=>h (by rw[e])
def pgW(P off k:Nat):Nat:=Nat.mod (Nat.shiftRight P (Nat.mul 8 off)) (Nat.pow 256 k)
theorem pgW_bit(P off k j:Nat):(pgW P off k).testBit j=(decide (j<8*k)&&P.testBit (8*off+j)):=by
 have h:pgW P off k=(P >>> (8*off)) % 2 ^ (8*k):=by
  show(P >>> (8*off)) % 256 ^ k=_
  rw[show(256:Nat) ^ k=2 ^ (8*k) by rw[Nat.pow_mul]]
 rw[h,Nat.testBit_mod_two_pow,Nat.testBit_shiftRight]
theorem pgW_ne{P off k v o m:Nat}(hv:v<256 ^ k)(hd:o+m≤off∨off+k≤o):pgW (setBytes P off k v) o m=pgW P o m:=by
 have hv':v<2 ^ (8*k):=by rw[Nat.pow_mul];exact hv
 apply Nat.eq_of_testBit_eq
 intro j
 rw[pgW_bit,pgW_bit,set_bit hv']
 by_cases hj:j<8*m
 ·rw[if_neg (by omega)]
 ·simp only[decide_eq_false hj,Bool.false_and]
theorem pgW_eq{P off k v:Nat}(hv:v<256 ^ k):pgW (setBytes P off k v) off k=v:=by
 have hv':v<2 ^ (8*k):=by rw[Nat.pow_mul];exact hv
 apply Nat.eq_of_testBit_eq
 intro j
 rw[pgW_bit,set_bit hv']
 by_cases hj:j<8*k
 ·rw[if_pos (by omega),decide_eq_true hj,Bool.true_and,show 8*off+j-8*off=j by omega]
 ·rw[decide_eq_false hj,Bool.false_and]
  exact(Nat.testBit_lt_two_pow (Nat.lt_of_lt_of_le hv' (Nat.pow_le_pow_right (by decide) (by omega)))).symm
theorem check_in{l:List (Option Nat)}{p P off k:Nat}(h:pgAt l p=some P)(hl:p<l.length)(h1:off+k≤4096):checkN l (4096*p+off) k=0:=by
 refine check_of ⟨?_,fun hk q q1 q2=>?_⟩
 ·have:(p+1)*4096≤l.length*4096:=Nat.mul_le_mul_right _ hl
  omega
 ·have e:q=p:=by omega
  exact⟨P,e▸h⟩
theorem bytesE_in{x:Ar}{p P off k:Nat}(h:pgAt x.pages p=some P)(h1:off+k≤4096):bytesE x (.ofNat (4096*p+off)) (.ofNat k)=0 :=
 bytesE_zero.2 (check_in h (pgAt_lt h) h1)
theorem loadV_in{x:Ar}{p P off k:Nat}(h:pgAt x.pages p=some P)(h1:off+k≤4096)(hk:wholeN k=true)(hk0:0<k):loadV x (.ofNat (4096*p+off)) (.ofNat k)=pgW P off k:=by
 have h2:(4096*p+off) / 4096=p:=by
  by_cases e:off=4096
  ·exfalso;omega
  ·omega
 have h3:(4096*p+off) % 4096=off:=by omega
 have hb:Nat.ble (Nat.add (Nat.mod (4096*p+off) 4096) k) 4096=true:=by
  rw[Nat.ble_eq];show(4096*p+off) % 4096+k≤4096;rw[h3];exact h1
 simp only[loadV,hk,cond_true,check_in h (pgAt_lt h) h1,loadA,hb]
 have e1:Nat.div (4096*p+off) 4096=p:=h2
 have e2:Nat.mod (4096*p+off) 4096=off:=h3
 rw[e1,e2,h]
 rfl
theorem storeX_in{x:Ar}{p P off k v:Nat}(h:pgAt x.pages p=some P)(h1:off+k≤4096)(hk:wholeN k=true)(hk0:0<k):storeX x (.ofNat (4096*p+off)) (.ofNat k) v=⟨setPg x.pages p (some (setBytes P off k (v % 256 ^ k))),x.armed,x.refuse⟩:=by
 have h2:(4096*p+off) / 4096=p:=by omega
 have h3:(4096*p+off) % 4096=off:=by omega
 have hb:Nat.ble (Nat.add (Nat.mod (4096*p+off) 4096) k) 4096=true:=by
  rw[Nat.ble_eq];show(4096*p+off) % 4096+k≤4096;rw[h3];exact h1
 simp only[storeX,hk,cond_true,check_in h (pgAt_lt h) h1,storeA,hb]
 have e1:Nat.div (4096*p+off) 4096=p:=h2
 have e2:Nat.mod (4096*p+off) 4096=off:=h3
 rw[e1,e2,h]
 rfl
def wd(x:Ar)(a:Nat):Nat:=loadV x (.ofNat a) (.ofNat 8)
def stw(x:Ar)(a v:Nat):Ar:=storeX x (.ofNat a) (.ofNat 8) v
theorem stw_pg{x:Ar}{p P off v q:Nat}(h:pgAt x.pages p=some P)(h1:off+8≤4096):pgAt (stw x (4096*p+off) v).pages q=if q=p then some (setBytes P off 8 (v % 256 ^ 8)) else pgAt x.pages q:=by
 unfold stw
 rw[storeX_in h h1 rfl (by decide)]
 by_cases e:q=p
 ·rw[if_pos e,e];exact pgAt_set_same h
 ·rw[if_neg e];exact pgAt_set_ne e
theorem stw_load{x:Ar}{p P off v q Q o k:Nat}(h:pgAt x.pages p=some P)(h1:off+8≤4096)(hq:pgAt x.pages q=some Q)(h2:o+k≤4096)(hk:wholeN k=true)(hk0:0<k)(hd:q≠p∨o+k≤off∨off+8≤o) :
  loadV (stw x (4096*p+off) v) (.ofNat (4096*q+o)) (.ofNat k)=loadV x (.ofNat (4096*q+o)) (.ofNat k):=by
 have hp:=stw_pg (v:=v) (q:=q) h h1
 by_cases e:q=p
 ·rw[if_pos e] at hp
  subst e
  rw[hq] at h;injection h with h;subst h
  rw[loadV_in hp h2 hk hk0,loadV_in hq h2 hk hk0]
  exact pgW_ne (Nat.mod_lt _ (by decide)) (hd.resolve_left fun h=>h rfl)
 ·rw[if_neg e] at hp
  rw[hq] at hp
  rw[loadV_in hp h2 hk hk0,loadV_in hq h2 hk hk0]
theorem stw_wd{x:Ar}{p P off v:Nat}(h:pgAt x.pages p=some P)(h1:off+8≤4096)(hv:v<18446744073709551616):wd (stw x (4096*p+off) v) (4096*p+off)=v:=by
 have hp:=stw_pg (v:=v) (q:=p) h h1
 rw[if_pos rfl] at hp
 unfold wd
 rw[loadV_in hp h1 rfl (by decide),pgW_eq (Nat.mod_lt _ (by decide))]
 exact Nat.mod_eq_of_lt hv
theorem stw_refuse{x:Ar}{p P off v:Nat}(h:pgAt x.pages p=some P)(h1:off+8≤4096):(stw x (4096*p+off) v).refuse=x.refuse:=by
 unfold stw
 rw[storeX_in h h1 rfl (by decide)]
end Go.AI
/- A tree's numbers: what is said of them. No program is named here. -/
namespace Go.AI
variable {x:Ar}
theorem nodeE_zero{a:Nat}(h:nodeE x (.ofNat a)=some 0):bytesE x (.ofNat a) (.ofNat 32)=0∧a<4611686018427387904∧a % 4096=0:=by
 simp only[nodeE] at h
 split at h
 ·cases h
 ·rename_i he
  cases hb:Nat.blt a 4611686018427387904 with
  |false=>rw[hb] at h;cases h
  |true =>
   rw[hb,cond_true] at h
   cases hk:ckBad a (loadV x (.ofNat (a+0)) (.ofNat 4)) (ckO x a) (ckN x a) with
   |true=>rw[hk] at h;cases h
   |false =>
    rw[blt_iff,decide_eq_true_eq] at hb
    exact⟨he,hb,ckBad_mod hk⟩
theorem node_at{a:Nat}(h:nodeE x (.ofNat a)=some 0):spNodeAt x [pR,.int .i64 (.ofNat a)]=some (.tuple ⟨[ndC a (ckW x a),errV 0]⟩,x):=by
 simp only[spNodeAt,ofNode,h]
theorem node_no{a:Int}{e:Nat}(h:nodeE x a=some (e+1)):spNodeAt x [pR,.int .i64 a]=some (.tuple ⟨[ndZ,errV (e+1)]⟩,x):=by
 simp only[spNodeAt,ofNode,h]
theorem node_load{a b:Nat}(h:nodeE x (.ofNat a)=some 0)(hb:b+8≤992)(hv:vckN (.ofNat 992) (.ofNat b) (.ofNat 8)=0):spVLoad x [vwC (.ofNat (a+32)) (.ofNat 992),.int .i64 (.ofNat b),.int .i64 (.ofNat 8)]=some (.tuple ⟨[numV (wd x (a+32+b)),errV 0]⟩,x):=by
 obtain⟨h1,h2,h3⟩:=nodeE_zero h
 exact vload_in (bytesE_page h1 h3 (by decide)) (by omega) (by omega) hb rfl hv
theorem node_store{a b v:Nat}(h:nodeE x (.ofNat a)=some 0)(hb:b+8≤992)(hv:vckN (.ofNat 992) (.ofNat b) (.ofNat 8)=0)(hz:Nat.blt v 18446744073709551616=true):spVStore x [vwC (.ofNat (a+32)) (.ofNat 992),.int .i64 (.ofNat b),.int .i64 (.ofNat 8),.int .u64 (.ofNat v)]=some (errV 0,stw x (a+32+b) v):=by
 obtain⟨h1,h2,h3⟩:=nodeE_zero h
 exact vstore_in (bytesE_page h1 h3 (by decide)) (by omega) (by omega) hb rfl hv hz
abbrev trC:Value:=.agg ⟨[pR]⟩
def fldB(f:Nat):Bool:=Nat.ble 1 f&&Nat.ble f 5
def getI(x:Ar)(a f:Nat):Int:=wrapF .i64 (.ofNat (wd x (a+32+8*f)))
def spTGet:Spec
 |x,[.agg ⟨[.pointer (some ⟨2,0,none⟩)]⟩,.int .i64 a,.int .i64 (.ofNat f)]=>bif fldB f then ofNode x a (fun _=>.int .i64 (.ofNat 0)) (fun a=>.int .i64 (getI x a f)) else none
 |_,_=>none
def spTSet:Spec
 |x,[.agg ⟨[.pointer (some ⟨2,0,none⟩)]⟩,.int .i64 a,.int .i64 (.ofNat f),.int .i64 (.ofNat v)]=>bif fldB f&&Nat.blt v 9223372036854775808 then(match nodeE x a with
  |some (_+1)=>some (.tuple ⟨[]⟩,x)
  |some 0=>match a with
   | .ofNat a=>some (.tuple ⟨[]⟩,stw x (a+32+8*f) v)
   |_=>none
  |none=>none) else none
 |_,_=>none
def spTHas:Spec
 |x,[.agg ⟨[.pointer (some ⟨2,0,none⟩)]⟩,.int .i64 a]=>ofNode x a (fun e=>errV e) (fun _=>errV 0)
 |_,_=>none
def spTParent:Spec
 |x,[.agg ⟨[.pointer (some ⟨2,0,none⟩)]⟩,.int .i64 a]=>ofNode x a (fun _=>.int .i64 (.ofNat 0)) (fun a=>.int .i64 (getI x a 1))
 |_,_=>none
end Go.AI
/- A tree's numbers read and written. -/
namespace Go.AI
open Go.Proofs
variable {W0:World}{Cls:Nat→Int→Prop}
theorem wTHasE_1{x:Ar}{rr rb:List Value}{a:Int}{e:Nat}:scriptR F1 cleanT (hookL hV6)
 [.run 9,.callR (vT [(vA [(.pointer none),(.pointer none),(vI 0),(vI 0),(vU 0),(.pointer none),(vI 0),(vI 0),(vI 0),(.pointer none),(vI 0),(vI 0)]),(vI (e+1))]) (x),.run 16]
 1000 27 [trC,.int .i64 a] x rr rb=some ((vI (e+1)),(x),pA::rb,pB::rr,[(.callR 54 (x) (rr) (rb) [pR,(.int .i64 (a))] (vT [(vA [(.pointer none),(.pointer none),(vI 0),(vI 0),(vU 0),(.pointer none),(vI 0),(vI 0),(vI 0),(.pointer none),(vI 0),(vI 0)]),(vI (e+1))]) (x))]):=by kernel_rfl
set_option maxHeartbeats 800000 in
theorem wTHasE{x:Ar}{rr rb:List Value}{a:Int}{e:Nat}(hx:x.refuse<9223372036854775808)(hrr:can3Fs ⟨0,1,2⟩ rr=some rr)(hrb:can3Fs ⟨0,1,2⟩ rb=some rb)(hN:spNodeAt x [pR,.int .i64 a]=some (.tuple ⟨[ndZ,errV (e+1)]⟩,x)):∃t nx,RS hV6 27 [trC,.int .i64 a] ⟨sm3 x rr rb,3⟩=some (errV (e+1),⟨t,nx⟩)∧look 0 t=some (.ext x)∧look 1 t=some (.cells (pA::rb))∧look 2 t=some (.cells (pB::rr)):=by
 refine to_runR (scriptR_run (wTHasE_1 (x:=x) (rr:=rr) (rb:=rb) (a:=a) (e:=e)) ?_) ?_ ?_
 ·repeat' first
   |exact trivial
   |assumption
   |exact ob_bin rfl (by assumption)
   |exact⟨_,_,rfl,by first|assumption|rfl⟩
   |refine And.intro ?_ ?_
   |exact rfl
 ·first|rfl|(simp only[cond_true, *,zT,cond_false]<;>rfl)
 ·first|rfl|(simp only[cond_true, *,cond_false]<;>rfl)
theorem wTHas_1{x:Ar}{rr rb:List Value}{a1 w:Nat}:scriptR F1 cleanT (hookL hV6)
 [.run 9,.callR (vT [(vA [pR,pA,(vI (a1+160)),(vI 32),(vU (w)),pA,(vI (a1+160)),(vI 32),(vI 1024),pA,(vI (a1+32)),(vI 992)]),(vI 0)]) (x),.run 16]
 1000 27 [trC,.int .i64 (.ofNat a1)] x rr rb=some ((vI 0),(x),pA::rb,pB::rr,[(.callR 54 (x) (rr) (rb) [pR,(vI (a1))] (vT [(vA [pR,pA,(vI (a1+160)),(vI 32),(vU (w)),pA,(vI (a1+160)),(vI 32),(vI 1024),pA,(vI (a1+32)),(vI 992)]),(vI 0)]) (x))]):=by kernel_rfl
set_option maxHeartbeats 800000 in
theorem wTHas{x:Ar}{rr rb:List Value}{a1 w:Nat}(hx:x.refuse<9223372036854775808)(hrr:can3Fs ⟨0,1,2⟩ rr=some rr)(hrb:can3Fs ⟨0,1,2⟩ rb=some rb)(hN:spNodeAt x [pR,.int .i64 (.ofNat a1)]=some (.tuple ⟨[ndC a1 w,errV 0]⟩,x)):∃t nx,RS hV6 27 [trC,.int .i64 (.ofNat a1)] ⟨sm3 x rr rb,3⟩=some (errV 0,⟨t,nx⟩)∧look 0 t=some (.ext x)∧look 1 t=some (.cells (pA::rb))∧look 2 t=some (.cells (pB::rr)):=by
 refine to_runR (scriptR_run (wTHas_1 (x:=x) (rr:=rr) (rb:=rb) (a1:=a1) (w:=w)) ?_) ?_ ?_
 ·repeat' first
   |exact trivial
   |assumption
   |exact ob_bin rfl (by assumption)
   |exact⟨_,_,rfl,by first|assumption|rfl⟩
   |refine And.intro ?_ ?_
   |exact rfl
 ·first|rfl|(simp only[cond_true, *,zT,cond_false]<;>rfl)
 ·first|rfl|(simp only[cond_true, *,cond_false]<;>rfl)
theorem wTGetE1_1{x:Ar}{rr rb:List Value}{a:Int}{e:Nat}:scriptR F1 cleanT (hookL hV6)
 [.run 9,.callR (vT [(vA [(.pointer none),(.pointer none),(vI 0),(vI 0),(vU 0),(.pointer none),(vI 0),(vI 0),(vI 0),(.pointer none),(vI 0),(vI 0)]),(vI (e+1))]) (x),.run 48]
 1000 28 [trC,.int .i64 a,vI 1] x rr rb=some ((vI 0),(x),pA::rb,pB::rr,[(.callR 54 (x) (rr) (rb) [pR,(.int .i64 (a))] (vT [(vA [(.pointer none),(.pointer none),(vI 0),(vI 0),(vU 0),(.pointer none),(vI 0),(vI 0),(vI 0),(.pointer none),(vI 0),(vI 0)]),(vI (e+1))]) (x))]):=by kernel_rfl
set_option maxHeartbeats 800000 in
theorem wTGetE1{x:Ar}{rr rb:List Value}{a:Int}{e:Nat}(hx:x.refuse<9223372036854775808)(hrr:can3Fs ⟨0,1,2⟩ rr=some rr)(hrb:can3Fs ⟨0,1,2⟩ rb=some rb)(hN:spNodeAt x [pR,.int .i64 a]=some (.tuple ⟨[ndZ,errV (e+1)]⟩,x)):∃t nx,RS hV6 28 [trC,.int .i64 a,vI 1] ⟨sm3 x rr rb,3⟩=some (vI 0,⟨t,nx⟩)∧look 0 t=some (.ext x)∧look 1 t=some (.cells (pA::rb))∧look 2 t=some (.cells (pB::rr)):=by
 refine to_runR (scriptR_run (wTGetE1_1 (x:=x) (rr:=rr) (rb:=rb) (a:=a) (e:=e)) ?_) ?_ ?_
 ·repeat' first
   |exact trivial
   |assumption
   |exact ob_bin rfl (by assumption)
   |exact⟨_,_,rfl,by first|assumption|rfl⟩
   |refine And.intro ?_ ?_
   |exact rfl
 ·first|rfl|(simp only[cond_true, *,zT,cond_false]<;>rfl)
 ·first|rfl|(simp only[cond_true, *,cond_false]<;>rfl)
theorem wTGet1_1{x:Ar}{rr rb:List Value}{a1 w n:Nat}:scriptR F1 cleanT (hookL hV6)
 [.run 9,.callR (vT [(vA [pR,pA,(vI (a1+160)),(vI 32),(vU (w)),pA,(vI (a1+160)),(vI 32),(vI 1024),pA,(vI (a1+32)),(vI 992)]),(vI 0)]) (x),.run 38,.call (vT [(vU (n)),(vI 0)]) (x),.run 12,.cvt (.int .i64 (wrapF IntKind.i64 (Int.ofNat n))),.run 16]
 1000 28 [trC,.int .i64 (.ofNat a1),vI 1] x rr rb=some ((.int .i64 (wrapF IntKind.i64 (Int.ofNat n))),(x),pA::rb,pB::rr,[(.cv .i64 (vU (n)) (.int .i64 (wrapF IntKind.i64 (Int.ofNat n)))),(.call 57 (x) [(vA [pA,(vI (a1+32)),(vI 992)]),(vI 8),(vI 8)] (vT [(vU (n)),(vI 0)]) (x)),(.callR 54 (x) (rr) (rb) [pR,(vI (a1))] (vT [(vA [pR,pA,(vI (a1+160)),(vI 32),(vU (w)),pA,(vI (a1+160)),(vI 32),(vI 1024),pA,(vI (a1+32)),(vI 992)]),(vI 0)]) (x))]):=by kernel_rfl
set_option maxHeartbeats 800000 in
theorem wTGet1{x:Ar}{rr rb:List Value}{a1 w n:Nat}(hx:x.refuse<9223372036854775808)(hrr:can3Fs ⟨0,1,2⟩ rr=some rr)(hrb:can3Fs ⟨0,1,2⟩ rb=some rb)(hN:spNodeAt x [pR,.int .i64 (.ofNat a1)]=some (.tuple ⟨[ndC a1 w,errV 0]⟩,x))(hL:spVLoad x [vwC (.ofNat (a1+32)) (.ofNat 992),vI 8,vI 8]=some (.tuple ⟨[numV n,errV 0]⟩,x)):∃t nx,RS hV6 28 [trC,.int .i64 (.ofNat a1),vI 1] ⟨sm3 x rr rb,3⟩=some (.int .i64 (wrapF .i64 (.ofNat n)),⟨t,nx⟩)∧look 0 t=some (.ext x)∧look 1 t=some (.cells (pA::rb))∧look 2 t=some (.cells (pB::rr)):=by
 refine to_runR (scriptR_run (wTGet1_1 (x:=x) (rr:=rr) (rb:=rb) (a1:=a1) (w:=w) (n:=n)) ?_) ?_ ?_
 ·repeat' first
   |exact trivial
   |assumption
   |exact ob_bin rfl (by assumption)
   |exact⟨_,_,rfl,by first|assumption|rfl⟩
   |refine And.intro ?_ ?_
   |exact rfl
 ·first|rfl|(simp only[cond_true, *,zT,cond_false]<;>rfl)
 ·first|rfl|(simp only[cond_true, *,cond_false]<;>rfl)
theorem wTSetE1_1{x:Ar}{rr rb:List Value}{a:Int}{e v:Nat}:scriptR F1 cleanT (hookL hV6)
 [.run 8,.callR (vT [(vA [(.pointer none),(.pointer none),(vI 0),(vI 0),(vU 0),(.pointer none),(vI 0),(vI 0),(vI 0),(.pointer none),(vI 0),(vI 0)]),(vI (e+1))]) (x),.run 16]
 1000 29 [trC,.int .i64 a,vI 1,vI v] x rr rb=some ((vT []),(x),pA::rb,pB::rr,[(.callR 54 (x) (rr) (rb) [pR,(.int .i64 (a))] (vT [(vA [(.pointer none),(.pointer none),(vI 0),(vI 0),(vU 0),(.pointer none),(vI 0),(vI 0),(vI 0),(.pointer none),(vI 0),(vI 0)]),(vI (e+1))]) (x))]):=by kernel_rfl
set_option maxHeartbeats 800000 in
theorem wTSetE1{x:Ar}{rr rb:List Value}{a:Int}{e v:Nat}(hx:x.refuse<9223372036854775808)(hrr:can3Fs ⟨0,1,2⟩ rr=some rr)(hrb:can3Fs ⟨0,1,2⟩ rb=some rb)(hN:spNodeAt x [pR,.int .i64 a]=some (.tuple ⟨[ndZ,errV (e+1)]⟩,x)):∃t nx,RS hV6 29 [trC,.int .i64 a,vI 1,vI v] ⟨sm3 x rr rb,3⟩=some (.tuple ⟨[]⟩,⟨t,nx⟩)∧look 0 t=some (.ext x)∧look 1 t=some (.cells (pA::rb))∧look 2 t=some (.cells (pB::rr)):=by
 refine to_runR (scriptR_run (wTSetE1_1 (x:=x) (rr:=rr) (rb:=rb) (a:=a) (e:=e) (v:=v)) ?_) ?_ ?_
 ·repeat' first
   |exact trivial
   |assumption
   |exact ob_bin rfl (by assumption)
   |exact⟨_,_,rfl,by first|assumption|rfl⟩
   |refine And.intro ?_ ?_
   |exact rfl
 ·first|rfl|(simp only[cond_true, *,zT,cond_false]<;>rfl)
 ·first|rfl|(simp only[cond_true, *,cond_false]<;>rfl)
theorem wTSet1_1{x X:Ar}{rr rb:List Value}{a1 w v:Nat}:scriptR F1 cleanT (hookL hV6)
 [.run 8,.callR (vT [(vA [pR,pA,(vI (a1+160)),(vI 32),(vU (w)),pA,(vI (a1+160)),(vI 32),(vI 1024),pA,(vI (a1+32)),(vI 992)]),(vI 0)]) (x),.run 15,.cvt (.int .u64 (wrapF IntKind.u64 (Int.ofNat v))),.run 18,.call (vI 0) (X),.run 16]
 1000 29 [trC,.int .i64 (.ofNat a1),vI 1,vI v] x rr rb=some ((vT []),(X),pA::rb,pB::rr,[(.call 49 (x) [(vA [pA,(vI (a1+32)),(vI 992)]),(vI 8),(vI 8),(.int .u64 (wrapF IntKind.u64 (Int.ofNat v)))] (vI 0) (X)),(.cv .u64 (vI (v)) (.int .u64 (wrapF IntKind.u64 (Int.ofNat v)))),(.callR 54 (x) (rr) (rb) [pR,(vI (a1))] (vT [(vA [pR,pA,(vI (a1+160)),(vI 32),(vU (w)),pA,(vI (a1+160)),(vI 32),(vI 1024),pA,(vI (a1+32)),(vI 992)]),(vI 0)]) (x))]):=by kernel_rfl
set_option maxHeartbeats 800000 in
theorem wTSet1{x X:Ar}{rr rb:List Value}{a1 w v:Nat}(hx:x.refuse<9223372036854775808)(hrr:can3Fs ⟨0,1,2⟩ rr=some rr)(hrb:can3Fs ⟨0,1,2⟩ rb=some rb)(hN:spNodeAt x [pR,.int .i64 (.ofNat a1)]=some (.tuple ⟨[ndC a1 w,errV 0]⟩,x))(hL:spVStore x [vwC (.ofNat (a1+32)) (.ofNat 992),vI 8,vI 8,.int .u64 (wrapF IntKind.u64 (Int.ofNat v))]=some (errV 0,X)):∃t nx,RS hV6 29 [trC,.int .i64 (.ofNat a1),vI 1,vI v] ⟨sm3 x rr rb,3⟩=some (.tuple ⟨[]⟩,⟨t,nx⟩)∧look 0 t=some (.ext X)∧look 1 t=some (.cells (pA::rb))∧look 2 t=some (.cells (pB::rr)):=by
 refine to_runR (scriptR_run (wTSet1_1 (x:=x) (X:=X) (rr:=rr) (rb:=rb) (a1:=a1) (w:=w) (v:=v)) ?_) ?_ ?_
 ·repeat' first
   |exact trivial
   |assumption
   |exact ob_bin rfl (by assumption)
   |exact⟨_,_,rfl,by first|assumption|rfl⟩
   |refine And.intro ?_ ?_
   |exact rfl
 ·first|rfl|(simp only[cond_true, *,zT,cond_false]<;>rfl)
 ·first|rfl|(simp only[cond_true, *,cond_false]<;>rfl)
theorem wTGetE2_1{x:Ar}{rr rb:List Value}{a:Int}{e:Nat}:scriptR F1 cleanT (hookL hV6)
 [.run 9,.callR (vT [(vA [(.pointer none),(.pointer none),(vI 0),(vI 0),(vU 0),(.pointer none),(vI 0),(vI 0),(vI 0),(.pointer none),(vI 0),(vI 0)]),(vI (e+1))]) (x),.run 48]
 1000 28 [trC,.int .i64 a,vI 2] x rr rb=some ((vI 0),(x),pA::rb,pB::rr,[(.callR 54 (x) (rr) (rb) [pR,(.int .i64 (a))] (vT [(vA [(.pointer none),(.pointer none),(vI 0),(vI 0),(vU 0),(.pointer none),(vI 0),(vI 0),(vI 0),(.pointer none),(vI 0),(vI 0)]),(vI (e+1))]) (x))]):=by kernel_rfl
set_option maxHeartbeats 800000 in
theorem wTGetE2{x:Ar}{rr rb:List Value}{a:Int}{e:Nat}(hx:x.refuse<9223372036854775808)(hrr:can3Fs ⟨0,1,2⟩ rr=some rr)(hrb:can3Fs ⟨0,1,2⟩ rb=some rb)(hN:spNodeAt x [pR,.int .i64 a]=some (.tuple ⟨[ndZ,errV (e+1)]⟩,x)):∃t nx,RS hV6 28 [trC,.int .i64 a,vI 2] ⟨sm3 x rr rb,3⟩=some (vI 0,⟨t,nx⟩)∧look 0 t=some (.ext x)∧look 1 t=some (.cells (pA::rb))∧look 2 t=some (.cells (pB::rr)):=by
 refine to_runR (scriptR_run (wTGetE2_1 (x:=x) (rr:=rr) (rb:=rb) (a:=a) (e:=e)) ?_) ?_ ?_
 ·repeat' first
   |exact trivial
   |assumption
   |exact ob_bin rfl (by assumption)
   |exact⟨_,_,rfl,by first|assumption|rfl⟩
   |refine And.intro ?_ ?_
   |exact rfl
 ·first|rfl|(simp only[cond_true, *,zT,cond_false]<;>rfl)
 ·first|rfl|(simp only[cond_true, *,cond_false]<;>rfl)
theorem wTGet2_1{x:Ar}{rr rb:List Value}{a1 w n:Nat}:scriptR F1 cleanT (hookL hV6)
 [.run 9,.callR (vT [(vA [pR,pA,(vI (a1+160)),(vI 32),(vU (w)),pA,(vI (a1+160)),(vI 32),(vI 1024),pA,(vI (a1+32)),(vI 992)]),(vI 0)]) (x),.run 38,.call (vT [(vU (n)),(vI 0)]) (x),.run 12,.cvt (.int .i64 (wrapF IntKind.i64 (Int.ofNat n))),.run 16]
 1000 28 [trC,.int .i64 (.ofNat a1),vI 2] x rr rb=some ((.int .i64 (wrapF IntKind.i64 (Int.ofNat n))),(x),pA::rb,pB::rr,[(.cv .i64 (vU (n)) (.int .i64 (wrapF IntKind.i64 (Int.ofNat n)))),(.call 57 (x) [(vA [pA,(vI (a1+32)),(vI 992)]),(vI 16),(vI 8)] (vT [(vU (n)),(vI 0)]) (x)),(.callR 54 (x) (rr) (rb) [pR,(vI (a1))] (vT [(vA [pR,pA,(vI (a1+160)),(vI 32),(vU (w)),pA,(vI (a1+160)),(vI 32),(vI 1024),pA,(vI (a1+32)),(vI 992)]),(vI 0)]) (x))]):=by kernel_rfl
set_option maxHeartbeats 800000 in
theorem wTGet2{x:Ar}{rr rb:List Value}{a1 w n:Nat}(hx:x.refuse<9223372036854775808)(hrr:can3Fs ⟨0,1,2⟩ rr=some rr)(hrb:can3Fs ⟨0,1,2⟩ rb=some rb)(hN:spNodeAt x [pR,.int .i64 (.ofNat a1)]=some (.tuple ⟨[ndC a1 w,errV 0]⟩,x))(hL:spVLoad x [vwC (.ofNat (a1+32)) (.ofNat 992),vI 16,vI 8]=some (.tuple ⟨[numV n,errV 0]⟩,x)):∃t nx,RS hV6 28 [trC,.int .i64 (.ofNat a1),vI 2] ⟨sm3 x rr rb,3⟩=some (.int .i64 (wrapF .i64 (.ofNat n)),⟨t,nx⟩)∧look 0 t=some (.ext x)∧look 1 t=some (.cells (pA::rb))∧look 2 t=some (.cells (pB::rr)):=by
 refine to_runR (scriptR_run (wTGet2_1 (x:=x) (rr:=rr) (rb:=rb) (a1:=a1) (w:=w) (n:=n)) ?_) ?_ ?_
 ·repeat' first
   |exact trivial
   |assumption
   |exact ob_bin rfl (by assumption)
   |exact⟨_,_,rfl,by first|assumption|rfl⟩
   |refine And.intro ?_ ?_
   |exact rfl
 ·first|rfl|(simp only[cond_true, *,zT,cond_false]<;>rfl)
 ·first|rfl|(simp only[cond_true, *,cond_false]<;>rfl)
theorem wTSetE2_1{x:Ar}{rr rb:List Value}{a:Int}{e v:Nat}:scriptR F1 cleanT (hookL hV6)
 [.run 8,.callR (vT [(vA [(.pointer none),(.pointer none),(vI 0),(vI 0),(vU 0),(.pointer none),(vI 0),(vI 0),(vI 0),(.pointer none),(vI 0),(vI 0)]),(vI (e+1))]) (x),.run 16]
 1000 29 [trC,.int .i64 a,vI 2,vI v] x rr rb=some ((vT []),(x),pA::rb,pB::rr,[(.callR 54 (x) (rr) (rb) [pR,(.int .i64 (a))] (vT [(vA [(.pointer none),(.pointer none),(vI 0),(vI 0),(vU 0),(.pointer none),(vI 0),(vI 0),(vI 0),(.pointer none),(vI 0),(vI 0)]),(vI (e+1))]) (x))]):=by kernel_rfl
set_option maxHeartbeats 800000 in
theorem wTSetE2{x:Ar}{rr rb:List Value}{a:Int}{e v:Nat}(hx:x.refuse<9223372036854775808)(hrr:can3Fs ⟨0,1,2⟩ rr=some rr)(hrb:can3Fs ⟨0,1,2⟩ rb=some rb)(hN:spNodeAt x [pR,.int .i64 a]=some (.tuple ⟨[ndZ,errV (e+1)]⟩,x)):∃t nx,RS hV6 29 [trC,.int .i64 a,vI 2,vI v] ⟨sm3 x rr rb,3⟩=some (.tuple ⟨[]⟩,⟨t,nx⟩)∧look 0 t=some (.ext x)∧look 1 t=some (.cells (pA::rb))∧look 2 t=some (.cells (pB::rr)):=by
 refine to_runR (scriptR_run (wTSetE2_1 (x:=x) (rr:=rr) (rb:=rb) (a:=a) (e:=e) (v:=v)) ?_) ?_ ?_
 ·repeat' first
   |exact trivial
   |assumption
   |exact ob_bin rfl (by assumption)
   |exact⟨_,_,rfl,by first|assumption|rfl⟩
   |refine And.intro ?_ ?_
   |exact rfl
 ·first|rfl|(simp only[cond_true, *,zT,cond_false]<;>rfl)
 ·first|rfl|(simp only[cond_true, *,cond_false]<;>rfl)
theorem wTSet2_1{x X:Ar}{rr rb:List Value}{a1 w v:Nat}:scriptR F1 cleanT (hookL hV6)
 [.run 8,.callR (vT [(vA [pR,pA,(vI (a1+160)),(vI 32),(vU (w)),pA,(vI (a1+160)),(vI 32),(vI 1024),pA,(vI (a1+32)),(vI 992)]),(vI 0)]) (x),.run 15,.cvt (.int .u64 (wrapF IntKind.u64 (Int.ofNat v))),.run 18,.call (vI 0) (X),.run 16]
 1000 29 [trC,.int .i64 (.ofNat a1),vI 2,vI v] x rr rb=some ((vT []),(X),pA::rb,pB::rr,[(.call 49 (x) [(vA [pA,(vI (a1+32)),(vI 992)]),(vI 16),(vI 8),(.int .u64 (wrapF IntKind.u64 (Int.ofNat v)))] (vI 0) (X)),(.cv .u64 (vI (v)) (.int .u64 (wrapF IntKind.u64 (Int.ofNat v)))),(.callR 54 (x) (rr) (rb) [pR,(vI (a1))] (vT [(vA [pR,pA,(vI (a1+160)),(vI 32),(vU (w)),pA,(vI (a1+160)),(vI 32),(vI 1024),pA,(vI (a1+32)),(vI 992)]),(vI 0)]) (x))]):=by kernel_rfl
set_option maxHeartbeats 800000 in
theorem wTSet2{x X:Ar}{rr rb:List Value}{a1 w v:Nat}(hx:x.refuse<9223372036854775808)(hrr:can3Fs ⟨0,1,2⟩ rr=some rr)(hrb:can3Fs ⟨0,1,2⟩ rb=some rb)(hN:spNodeAt x [pR,.int .i64 (.ofNat a1)]=some (.tuple ⟨[ndC a1 w,errV 0]⟩,x))(hL:spVStore x [vwC (.ofNat (a1+32)) (.ofNat 992),vI 16,vI 8,.int .u64 (wrapF IntKind.u64 (Int.ofNat v))]=some (errV 0,X)):∃t nx,RS hV6 29 [trC,.int .i64 (.ofNat a1),vI 2,vI v] ⟨sm3 x rr rb,3⟩=some (.tuple ⟨[]⟩,⟨t,nx⟩)∧look 0 t=some (.ext X)∧look 1 t=some (.cells (pA::rb))∧look 2 t=some (.cells (pB::rr)):=by
 refine to_runR (scriptR_run (wTSet2_1 (x:=x) (X:=X) (rr:=rr) (rb:=rb) (a1:=a1) (w:=w) (v:=v)) ?_) ?_ ?_
 ·repeat' first
   |exact trivial
   |assumption
   |exact ob_bin rfl (by assumption)
   |exact⟨_,_,rfl,by first|assumption|rfl⟩
   |refine And.intro ?_ ?_
   |exact rfl
 ·first|rfl|(simp only[cond_true, *,zT,cond_false]<;>rfl)
 ·first|rfl|(simp only[cond_true, *,cond_false]<;>rfl)
theorem wTGetE3_1{x:Ar}{rr rb:List Value}{a:Int}{e:Nat}:scriptR F1 cleanT (hookL hV6)
 [.run 9,.callR (vT [(vA [(.pointer none),(.pointer none),(vI 0),(vI 0),(vU 0),(.pointer none),(vI 0),(vI 0),(vI 0),(.pointer none),(vI 0),(vI 0)]),(vI (e+1))]) (x),.run 48]
 1000 28 [trC,.int .i64 a,vI 3] x rr rb=some ((vI 0),(x),pA::rb,pB::rr,[(.callR 54 (x) (rr) (rb) [pR,(.int .i64 (a))] (vT [(vA [(.pointer none),(.pointer none),(vI 0),(vI 0),(vU 0),(.pointer none),(vI 0),(vI 0),(vI 0),(.pointer none),(vI 0),(vI 0)]),(vI (e+1))]) (x))]):=by kernel_rfl
set_option maxHeartbeats 800000 in
theorem wTGetE3{x:Ar}{rr rb:List Value}{a:Int}{e:Nat}(hx:x.refuse<9223372036854775808)(hrr:can3Fs ⟨0,1,2⟩ rr=some rr)(hrb:can3Fs ⟨0,1,2⟩ rb=some rb)(hN:spNodeAt x [pR,.int .i64 a]=some (.tuple ⟨[ndZ,errV (e+1)]⟩,x)):∃t nx,RS hV6 28 [trC,.int .i64 a,vI 3] ⟨sm3 x rr rb,3⟩=some (vI 0,⟨t,nx⟩)∧look 0 t=some (.ext x)∧look 1 t=some (.cells (pA::rb))∧look 2 t=some (.cells (pB::rr)):=by
 refine to_runR (scriptR_run (wTGetE3_1 (x:=x) (rr:=rr) (rb:=rb) (a:=a) (e:=e)) ?_) ?_ ?_
 ·repeat' first
   |exact trivial
   |assumption
   |exact ob_bin rfl (by assumption)
   |exact⟨_,_,rfl,by first|assumption|rfl⟩
   |refine And.intro ?_ ?_
   |exact rfl
 ·first|rfl|(simp only[cond_true, *,zT,cond_false]<;>rfl)
 ·first|rfl|(simp only[cond_true, *,cond_false]<;>rfl)
theorem wTGet3_1{x:Ar}{rr rb:List Value}{a1 w n:Nat}:scriptR F1 cleanT (hookL hV6)
 [.run 9,.callR (vT [(vA [pR,pA,(vI (a1+160)),(vI 32),(vU (w)),pA,(vI (a1+160)),(vI 32),(vI 1024),pA,(vI (a1+32)),(vI 992)]),(vI 0)]) (x),.run 38,.call (vT [(vU (n)),(vI 0)]) (x),.run 12,.cvt (.int .i64 (wrapF IntKind.i64 (Int.ofNat n))),.run 16]
 1000 28 [trC,.int .i64 (.ofNat a1),vI 3] x rr rb=some ((.int .i64 (wrapF IntKind.i64 (Int.ofNat n))),(x),pA::rb,pB::rr,[(.cv .i64 (vU (n)) (.int .i64 (wrapF IntKind.i64 (Int.ofNat n)))),(.call 57 (x) [(vA [pA,(vI (a1+32)),(vI 992)]),(vI 24),(vI 8)] (vT [(vU (n)),(vI 0)]) (x)),(.callR 54 (x) (rr) (rb) [pR,(vI (a1))] (vT [(vA [pR,pA,(vI (a1+160)),(vI 32),(vU (w)),pA,(vI (a1+160)),(vI 32),(vI 1024),pA,(vI (a1+32)),(vI 992)]),(vI 0)]) (x))]):=by kernel_rfl
set_option maxHeartbeats 800000 in
theorem wTGet3{x:Ar}{rr rb:List Value}{a1 w n:Nat}(hx:x.refuse<9223372036854775808)(hrr:can3Fs ⟨0,1,2⟩ rr=some rr)(hrb:can3Fs ⟨0,1,2⟩ rb=some rb)(hN:spNodeAt x [pR,.int .i64 (.ofNat a1)]=some (.tuple ⟨[ndC a1 w,errV 0]⟩,x))(hL:spVLoad x [vwC (.ofNat (a1+32)) (.ofNat 992),vI 24,vI 8]=some (.tuple ⟨[numV n,errV 0]⟩,x)):∃t nx,RS hV6 28 [trC,.int .i64 (.ofNat a1),vI 3] ⟨sm3 x rr rb,3⟩=some (.int .i64 (wrapF .i64 (.ofNat n)),⟨t,nx⟩)∧look 0 t=some (.ext x)∧look 1 t=some (.cells (pA::rb))∧look 2 t=some (.cells (pB::rr)):=by
 refine to_runR (scriptR_run (wTGet3_1 (x:=x) (rr:=rr) (rb:=rb) (a1:=a1) (w:=w) (n:=n)) ?_) ?_ ?_
 ·repeat' first
   |exact trivial
   |assumption
   |exact ob_bin rfl (by assumption)
   |exact⟨_,_,rfl,by first|assumption|rfl⟩
   |refine And.intro ?_ ?_
   |exact rfl
 ·first|rfl|(simp only[cond_true, *,zT,cond_false]<;>rfl)
 ·first|rfl|(simp only[cond_true, *,cond_false]<;>rfl)
theorem wTSetE3_1{x:Ar}{rr rb:List Value}{a:Int}{e v:Nat}:scriptR F1 cleanT (hookL hV6)
 [.run 8,.callR (vT [(vA [(.pointer none),(.pointer none),(vI 0),(vI 0),(vU 0),(.pointer none),(vI 0),(vI 0),(vI 0),(.pointer none),(vI 0),(vI 0)]),(vI (e+1))]) (x),.run 16]
 1000 29 [trC,.int .i64 a,vI 3,vI v] x rr rb=some ((vT []),(x),pA::rb,pB::rr,[(.callR 54 (x) (rr) (rb) [pR,(.int .i64 (a))] (vT [(vA [(.pointer none),(.pointer none),(vI 0),(vI 0),(vU 0),(.pointer none),(vI 0),(vI 0),(vI 0),(.pointer none),(vI 0),(vI 0)]),(vI (e+1))]) (x))]):=by kernel_rfl
set_option maxHeartbeats 800000 in
theorem wTSetE3{x:Ar}{rr rb:List Value}{a:Int}{e v:Nat}(hx:x.refuse<9223372036854775808)(hrr:can3Fs ⟨0,1,2⟩ rr=some rr)(hrb:can3Fs ⟨0,1,2⟩ rb=some rb)(hN:spNodeAt x [pR,.int .i64 a]=some (.tuple ⟨[ndZ,errV (e+1)]⟩,x)):∃t nx,RS hV6 29 [trC,.int .i64 a,vI 3,vI v] ⟨sm3 x rr rb,3⟩=some (.tuple ⟨[]⟩,⟨t,nx⟩)∧look 0 t=some (.ext x)∧look 1 t=some (.cells (pA::rb))∧look 2 t=some (.cells (pB::rr)):=by
 refine to_runR (scriptR_run (wTSetE3_1 (x:=x) (rr:=rr) (rb:=rb) (a:=a) (e:=e) (v:=v)) ?_) ?_ ?_
 ·repeat' first
   |exact trivial
   |assumption
   |exact ob_bin rfl (by assumption)
   |exact⟨_,_,rfl,by first|assumption|rfl⟩
   |refine And.intro ?_ ?_
   |exact rfl
 ·first|rfl|(simp only[cond_true, *,zT,cond_false]<;>rfl)
 ·first|rfl|(simp only[cond_true, *,cond_false]<;>rfl)
theorem wTSet3_1{x X:Ar}{rr rb:List Value}{a1 w v:Nat}:scriptR F1 cleanT (hookL hV6)
 [.run 8,.callR (vT [(vA [pR,pA,(vI (a1+160)),(vI 32),(vU (w)),pA,(vI (a1+160)),(vI 32),(vI 1024),pA,(vI (a1+32)),(vI 992)]),(vI 0)]) (x),.run 15,.cvt (.int .u64 (wrapF IntKind.u64 (Int.ofNat v))),.run 18,.call (vI 0) (X),.run 16]
 1000 29 [trC,.int .i64 (.ofNat a1),vI 3,vI v] x rr rb=some ((vT []),(X),pA::rb,pB::rr,[(.call 49 (x) [(vA [pA,(vI (a1+32)),(vI 992)]),(vI 24),(vI 8),(.int .u64 (wrapF IntKind.u64 (Int.ofNat v)))] (vI 0) (X)),(.cv .u64 (vI (v)) (.int .u64 (wrapF IntKind.u64 (Int.ofNat v)))),(.callR 54 (x) (rr) (rb) [pR,(vI (a1))] (vT [(vA [pR,pA,(vI (a1+160)),(vI 32),(vU (w)),pA,(vI (a1+160)),(vI 32),(vI 1024),pA,(vI (a1+32)),(vI 992)]),(vI 0)]) (x))]):=by kernel_rfl
set_option maxHeartbeats 800000 in
theorem wTSet3{x X:Ar}{rr rb:List Value}{a1 w v:Nat}(hx:x.refuse<9223372036854775808)(hrr:can3Fs ⟨0,1,2⟩ rr=some rr)(hrb:can3Fs ⟨0,1,2⟩ rb=some rb)(hN:spNodeAt x [pR,.int .i64 (.ofNat a1)]=some (.tuple ⟨[ndC a1 w,errV 0]⟩,x))(hL:spVStore x [vwC (.ofNat (a1+32)) (.ofNat 992),vI 24,vI 8,.int .u64 (wrapF IntKind.u64 (Int.ofNat v))]=some (errV 0,X)):∃t nx,RS hV6 29 [trC,.int .i64 (.ofNat a1),vI 3,vI v] ⟨sm3 x rr rb,3⟩=some (.tuple ⟨[]⟩,⟨t,nx⟩)∧look 0 t=some (.ext X)∧look 1 t=some (.cells (pA::rb))∧look 2 t=some (.cells (pB::rr)):=by
 refine to_runR (scriptR_run (wTSet3_1 (x:=x) (X:=X) (rr:=rr) (rb:=rb) (a1:=a1) (w:=w) (v:=v)) ?_) ?_ ?_
 ·repeat' first
   |exact trivial
   |assumption
   |exact ob_bin rfl (by assumption)
   |exact⟨_,_,rfl,by first|assumption|rfl⟩
   |refine And.intro ?_ ?_
   |exact rfl
 ·first|rfl|(simp only[cond_true, *,zT,cond_false]<;>rfl)
 ·first|rfl|(simp only[cond_true, *,cond_false]<;>rfl)
theorem wTGetE4_1{x:Ar}{rr rb:List Value}{a:Int}{e:Nat}:scriptR F1 cleanT (hookL hV6)
 [.run 9,.callR (vT [(vA [(.pointer none),(.pointer none),(vI 0),(vI 0),(vU 0),(.pointer none),(vI 0),(vI 0),(vI 0),(.pointer none),(vI 0),(vI 0)]),(vI (e+1))]) (x),.run 48]
 1000 28 [trC,.int .i64 a,vI 4] x rr rb=some ((vI 0),(x),pA::rb,pB::rr,[(.callR 54 (x) (rr) (rb) [pR,(.int .i64 (a))] (vT [(vA [(.pointer none),(.pointer none),(vI 0),(vI 0),(vU 0),(.pointer none),(vI 0),(vI 0),(vI 0),(.pointer none),(vI 0),(vI 0)]),(vI (e+1))]) (x))]):=by kernel_rfl
set_option maxHeartbeats 800000 in
theorem wTGetE4{x:Ar}{rr rb:List Value}{a:Int}{e:Nat}(hx:x.refuse<9223372036854775808)(hrr:can3Fs ⟨0,1,2⟩ rr=some rr)(hrb:can3Fs ⟨0,1,2⟩ rb=some rb)(hN:spNodeAt x [pR,.int .i64 a]=some (.tuple ⟨[ndZ,errV (e+1)]⟩,x)):∃t nx,RS hV6 28 [trC,.int .i64 a,vI 4] ⟨sm3 x rr rb,3⟩=some (vI 0,⟨t,nx⟩)∧look 0 t=some (.ext x)∧look 1 t=some (.cells (pA::rb))∧look 2 t=some (.cells (pB::rr)):=by
 refine to_runR (scriptR_run (wTGetE4_1 (x:=x) (rr:=rr) (rb:=rb) (a:=a) (e:=e)) ?_) ?_ ?_
 ·repeat' first
   |exact trivial
   |assumption
   |exact ob_bin rfl (by assumption)
   |exact⟨_,_,rfl,by first|assumption|rfl⟩
   |refine And.intro ?_ ?_
   |exact rfl
 ·first|rfl|(simp only[cond_true, *,zT,cond_false]<;>rfl)
 ·first|rfl|(simp only[cond_true, *,cond_false]<;>rfl)
theorem wTGet4_1{x:Ar}{rr rb:List Value}{a1 w n:Nat}:scriptR F1 cleanT (hookL hV6)
 [.run 9,.callR (vT [(vA [pR,pA,(vI (a1+160)),(vI 32),(vU (w)),pA,(vI (a1+160)),(vI 32),(vI 1024),pA,(vI (a1+32)),(vI 992)]),(vI 0)]) (x),.run 38,.call (vT [(vU (n)),(vI 0)]) (x),.run 12,.cvt (.int .i64 (wrapF IntKind.i64 (Int.ofNat n))),.run 16]
 1000 28 [trC,.int .i64 (.ofNat a1),vI 4] x rr rb=some ((.int .i64 (wrapF IntKind.i64 (Int.ofNat n))),(x),pA::rb,pB::rr,[(.cv .i64 (vU (n)) (.int .i64 (wrapF IntKind.i64 (Int.ofNat n)))),(.call 57 (x) [(vA [pA,(vI (a1+32)),(vI 992)]),(vI 32),(vI 8)] (vT [(vU (n)),(vI 0)]) (x)),(.callR 54 (x) (rr) (rb) [pR,(vI (a1))] (vT [(vA [pR,pA,(vI (a1+160)),(vI 32),(vU (w)),pA,(vI (a1+160)),(vI 32),(vI 1024),pA,(vI (a1+32)),(vI 992)]),(vI 0)]) (x))]):=by kernel_rfl
set_option maxHeartbeats 800000 in
theorem wTGet4{x:Ar}{rr rb:List Value}{a1 w n:Nat}(hx:x.refuse<9223372036854775808)(hrr:can3Fs ⟨0,1,2⟩ rr=some rr)(hrb:can3Fs ⟨0,1,2⟩ rb=some rb)(hN:spNodeAt x [pR,.int .i64 (.ofNat a1)]=some (.tuple ⟨[ndC a1 w,errV 0]⟩,x))(hL:spVLoad x [vwC (.ofNat (a1+32)) (.ofNat 992),vI 32,vI 8]=some (.tuple ⟨[numV n,errV 0]⟩,x)):∃t nx,RS hV6 28 [trC,.int .i64 (.ofNat a1),vI 4] ⟨sm3 x rr rb,3⟩=some (.int .i64 (wrapF .i64 (.ofNat n)),⟨t,nx⟩)∧look 0 t=some (.ext x)∧look 1 t=some (.cells (pA::rb))∧look 2 t=some (.cells (pB::rr)):=by
 refine to_runR (scriptR_run (wTGet4_1 (x:=x) (rr:=rr) (rb:=rb) (a1:=a1) (w:=w) (n:=n)) ?_) ?_ ?_
 ·repeat' first
   |exact trivial
   |assumption
   |exact ob_bin rfl (by assumption)
   |exact⟨_,_,rfl,by first|assumption|rfl⟩
   |refine And.intro ?_ ?_
   |exact rfl
 ·first|rfl|(simp only[cond_true, *,zT,cond_false]<;>rfl)
 ·first|rfl|(simp only[cond_true, *,cond_false]<;>rfl)
theorem wTSetE4_1{x:Ar}{rr rb:List Value}{a:Int}{e v:Nat}:scriptR F1 cleanT (hookL hV6)
 [.run 8,.callR (vT [(vA [(.pointer none),(.pointer none),(vI 0),(vI 0),(vU 0),(.pointer none),(vI 0),(vI 0),(vI 0),(.pointer none),(vI 0),(vI 0)]),(vI (e+1))]) (x),.run 16]
 1000 29 [trC,.int .i64 a,vI 4,vI v] x rr rb=some ((vT []),(x),pA::rb,pB::rr,[(.callR 54 (x) (rr) (rb) [pR,(.int .i64 (a))] (vT [(vA [(.pointer none),(.pointer none),(vI 0),(vI 0),(vU 0),(.pointer none),(vI 0),(vI 0),(vI 0),(.pointer none),(vI 0),(vI 0)]),(vI (e+1))]) (x))]):=by kernel_rfl
set_option maxHeartbeats 800000 in
theorem wTSetE4{x:Ar}{rr rb:List Value}{a:Int}{e v:Nat}(hx:x.refuse<9223372036854775808)(hrr:can3Fs ⟨0,1,2⟩ rr=some rr)(hrb:can3Fs ⟨0,1,2⟩ rb=some rb)(hN:spNodeAt x [pR,.int .i64 a]=some (.tuple ⟨[ndZ,errV (e+1)]⟩,x)):∃t nx,RS hV6 29 [trC,.int .i64 a,vI 4,vI v] ⟨sm3 x rr rb,3⟩=some (.tuple ⟨[]⟩,⟨t,nx⟩)∧look 0 t=some (.ext x)∧look 1 t=some (.cells (pA::rb))∧look 2 t=some (.cells (pB::rr)):=by
 refine to_runR (scriptR_run (wTSetE4_1 (x:=x) (rr:=rr) (rb:=rb) (a:=a) (e:=e) (v:=v)) ?_) ?_ ?_
 ·repeat' first
   |exact trivial
   |assumption
   |exact ob_bin rfl (by assumption)
   |exact⟨_,_,rfl,by first|assumption|rfl⟩
   |refine And.intro ?_ ?_
   |exact rfl
 ·first|rfl|(simp only[cond_true, *,zT,cond_false]<;>rfl)
 ·first|rfl|(simp only[cond_true, *,cond_false]<;>rfl)
theorem wTSet4_1{x X:Ar}{rr rb:List Value}{a1 w v:Nat}:scriptR F1 cleanT (hookL hV6)
 [.run 8,.callR (vT [(vA [pR,pA,(vI (a1+160)),(vI 32),(vU (w)),pA,(vI (a1+160)),(vI 32),(vI 1024),pA,(vI (a1+32)),(vI 992)]),(vI 0)]) (x),.run 15,.cvt (.int .u64 (wrapF IntKind.u64 (Int.ofNat v))),.run 18,.call (vI 0) (X),.run 16]
 1000 29 [trC,.int .i64 (.ofNat a1),vI 4,vI v] x rr rb=some ((vT []),(X),pA::rb,pB::rr,[(.call 49 (x) [(vA [pA,(vI (a1+32)),(vI 992)]),(vI 32),(vI 8),(.int .u64 (wrapF IntKind.u64 (Int.ofNat v)))] (vI 0) (X)),(.cv .u64 (vI (v)) (.int .u64 (wrapF IntKind.u64 (Int.ofNat v)))),(.callR 54 (x) (rr) (rb) [pR,(vI (a1))] (vT [(vA [pR,pA,(vI (a1+160)),(vI 32),(vU (w)),pA,(vI (a1+160)),(vI 32),(vI 1024),pA,(vI (a1+32)),(vI 992)]),(vI 0)]) (x))]):=by kernel_rfl
set_option maxHeartbeats 800000 in
theorem wTSet4{x X:Ar}{rr rb:List Value}{a1 w v:Nat}(hx:x.refuse<9223372036854775808)(hrr:can3Fs ⟨0,1,2⟩ rr=some rr)(hrb:can3Fs ⟨0,1,2⟩ rb=some rb)(hN:spNodeAt x [pR,.int .i64 (.ofNat a1)]=some (.tuple ⟨[ndC a1 w,errV 0]⟩,x))(hL:spVStore x [vwC (.ofNat (a1+32)) (.ofNat 992),vI 32,vI 8,.int .u64 (wrapF IntKind.u64 (Int.ofNat v))]=some (errV 0,X)):∃t nx,RS hV6 29 [trC,.int .i64 (.ofNat a1),vI 4,vI v] ⟨sm3 x rr rb,3⟩=some (.tuple ⟨[]⟩,⟨t,nx⟩)∧look 0 t=some (.ext X)∧look 1 t=some (.cells (pA::rb))∧look 2 t=some (.cells (pB::rr)):=by
 refine to_runR (scriptR_run (wTSet4_1 (x:=x) (X:=X) (rr:=rr) (rb:=rb) (a1:=a1) (w:=w) (v:=v)) ?_) ?_ ?_
 ·repeat' first
   |exact trivial
   |assumption
   |exact ob_bin rfl (by assumption)
   |exact⟨_,_,rfl,by first|assumption|rfl⟩
   |refine And.intro ?_ ?_
   |exact rfl
 ·first|rfl|(simp only[cond_true, *,zT,cond_false]<;>rfl)
 ·first|rfl|(simp only[cond_true, *,cond_false]<;>rfl)
theorem wTGetE5_1{x:Ar}{rr rb:List Value}{a:Int}{e:Nat}:scriptR F1 cleanT (hookL hV6)
 [.run 9,.callR (vT [(vA [(.pointer none),(.pointer none),(vI 0),(vI 0),(vU 0),(.pointer none),(vI 0),(vI 0),(vI 0),(.pointer none),(vI 0),(vI 0)]),(vI (e+1))]) (x),.run 48]
 1000 28 [trC,.int .i64 a,vI 5] x rr rb=some ((vI 0),(x),pA::rb,pB::rr,[(.callR 54 (x) (rr) (rb) [pR,(.int .i64 (a))] (vT [(vA [(.pointer none),(.pointer none),(vI 0),(vI 0),(vU 0),(.pointer none),(vI 0),(vI 0),(vI 0),(.pointer none),(vI 0),(vI 0)]),(vI (e+1))]) (x))]):=by kernel_rfl
set_option maxHeartbeats 800000 in
theorem wTGetE5{x:Ar}{rr rb:List Value}{a:Int}{e:Nat}(hx:x.refuse<9223372036854775808)(hrr:can3Fs ⟨0,1,2⟩ rr=some rr)(hrb:can3Fs ⟨0,1,2⟩ rb=some rb)(hN:spNodeAt x [pR,.int .i64 a]=some (.tuple ⟨[ndZ,errV (e+1)]⟩,x)):∃t nx,RS hV6 28 [trC,.int .i64 a,vI 5] ⟨sm3 x rr rb,3⟩=some (vI 0,⟨t,nx⟩)∧look 0 t=some (.ext x)∧look 1 t=some (.cells (pA::rb))∧look 2 t=some (.cells (pB::rr)):=by
 refine to_runR (scriptR_run (wTGetE5_1 (x:=x) (rr:=rr) (rb:=rb) (a:=a) (e:=e)) ?_) ?_ ?_
 ·repeat' first
   |exact trivial
   |assumption
   |exact ob_bin rfl (by assumption)
   |exact⟨_,_,rfl,by first|assumption|rfl⟩
   |refine And.intro ?_ ?_
   |exact rfl
 ·first|rfl|(simp only[cond_true, *,zT,cond_false]<;>rfl)
 ·first|rfl|(simp only[cond_true, *,cond_false]<;>rfl)
theorem wTGet5_1{x:Ar}{rr rb:List Value}{a1 w n:Nat}:scriptR F1 cleanT (hookL hV6)
 [.run 9,.callR (vT [(vA [pR,pA,(vI (a1+160)),(vI 32),(vU (w)),pA,(vI (a1+160)),(vI 32),(vI 1024),pA,(vI (a1+32)),(vI 992)]),(vI 0)]) (x),.run 38,.call (vT [(vU (n)),(vI 0)]) (x),.run 12,.cvt (.int .i64 (wrapF IntKind.i64 (Int.ofNat n))),.run 16]
 1000 28 [trC,.int .i64 (.ofNat a1),vI 5] x rr rb=some ((.int .i64 (wrapF IntKind.i64 (Int.ofNat n))),(x),pA::rb,pB::rr,[(.cv .i64 (vU (n)) (.int .i64 (wrapF IntKind.i64 (Int.ofNat n)))),(.call 57 (x) [(vA [pA,(vI (a1+32)),(vI 992)]),(vI 40),(vI 8)] (vT [(vU (n)),(vI 0)]) (x)),(.callR 54 (x) (rr) (rb) [pR,(vI (a1))] (vT [(vA [pR,pA,(vI (a1+160)),(vI 32),(vU (w)),pA,(vI (a1+160)),(vI 32),(vI 1024),pA,(vI (a1+32)),(vI 992)]),(vI 0)]) (x))]):=by kernel_rfl
set_option maxHeartbeats 800000 in
theorem wTGet5{x:Ar}{rr rb:List Value}{a1 w n:Nat}(hx:x.refuse<9223372036854775808)(hrr:can3Fs ⟨0,1,2⟩ rr=some rr)(hrb:can3Fs ⟨0,1,2⟩ rb=some rb)(hN:spNodeAt x [pR,.int .i64 (.ofNat a1)]=some (.tuple ⟨[ndC a1 w,errV 0]⟩,x))(hL:spVLoad x [vwC (.ofNat (a1+32)) (.ofNat 992),vI 40,vI 8]=some (.tuple ⟨[numV n,errV 0]⟩,x)):∃t nx,RS hV6 28 [trC,.int .i64 (.ofNat a1),vI 5] ⟨sm3 x rr rb,3⟩=some (.int .i64 (wrapF .i64 (.ofNat n)),⟨t,nx⟩)∧look 0 t=some (.ext x)∧look 1 t=some (.cells (pA::rb))∧look 2 t=some (.cells (pB::rr)):=by
 refine to_runR (scriptR_run (wTGet5_1 (x:=x) (rr:=rr) (rb:=rb) (a1:=a1) (w:=w) (n:=n)) ?_) ?_ ?_
 ·repeat' first
   |exact trivial
   |assumption
   |exact ob_bin rfl (by assumption)
   |exact⟨_,_,rfl,by first|assumption|rfl⟩
   |refine And.intro ?_ ?_
   |exact rfl
 ·first|rfl|(simp only[cond_true, *,zT,cond_false]<;>rfl)
 ·first|rfl|(simp only[cond_true, *,cond_false]<;>rfl)
theorem wTSetE5_1{x:Ar}{rr rb:List Value}{a:Int}{e v:Nat}:scriptR F1 cleanT (hookL hV6)
 [.run 8,.callR (vT [(vA [(.pointer none),(.pointer none),(vI 0),(vI 0),(vU 0),(.pointer none),(vI 0),(vI 0),(vI 0),(.pointer none),(vI 0),(vI 0)]),(vI (e+1))]) (x),.run 16]
 1000 29 [trC,.int .i64 a,vI 5,vI v] x rr rb=some ((vT []),(x),pA::rb,pB::rr,[(.callR 54 (x) (rr) (rb) [pR,(.int .i64 (a))] (vT [(vA [(.pointer none),(.pointer none),(vI 0),(vI 0),(vU 0),(.pointer none),(vI 0),(vI 0),(vI 0),(.pointer none),(vI 0),(vI 0)]),(vI (e+1))]) (x))]):=by kernel_rfl
set_option maxHeartbeats 800000 in
theorem wTSetE5{x:Ar}{rr rb:List Value}{a:Int}{e v:Nat}(hx:x.refuse<9223372036854775808)(hrr:can3Fs ⟨0,1,2⟩ rr=some rr)(hrb:can3Fs ⟨0,1,2⟩ rb=some rb)(hN:spNodeAt x [pR,.int .i64 a]=some (.tuple ⟨[ndZ,errV (e+1)]⟩,x)):∃t nx,RS hV6 29 [trC,.int .i64 a,vI 5,vI v] ⟨sm3 x rr rb,3⟩=some (.tuple ⟨[]⟩,⟨t,nx⟩)∧look 0 t=some (.ext x)∧look 1 t=some (.cells (pA::rb))∧look 2 t=some (.cells (pB::rr)):=by
 refine to_runR (scriptR_run (wTSetE5_1 (x:=x) (rr:=rr) (rb:=rb) (a:=a) (e:=e) (v:=v)) ?_) ?_ ?_
 ·repeat' first
   |exact trivial
   |assumption
   |exact ob_bin rfl (by assumption)
   |exact⟨_,_,rfl,by first|assumption|rfl⟩
   |refine And.intro ?_ ?_
   |exact rfl
 ·first|rfl|(simp only[cond_true, *,zT,cond_false]<;>rfl)
 ·first|rfl|(simp only[cond_true, *,cond_false]<;>rfl)
theorem wTSet5_1{x X:Ar}{rr rb:List Value}{a1 w v:Nat}:scriptR F1 cleanT (hookL hV6)
 [.run 8,.callR (vT [(vA [pR,pA,(vI (a1+160)),(vI 32),(vU (w)),pA,(vI (a1+160)),(vI 32),(vI 1024),pA,(vI (a1+32)),(vI 992)]),(vI 0)]) (x),.run 15,.cvt (.int .u64 (wrapF IntKind.u64 (Int.ofNat v))),.run 18,.call (vI 0) (X),.run 16]
 1000 29 [trC,.int .i64 (.ofNat a1),vI 5,vI v] x rr rb=some ((vT []),(X),pA::rb,pB::rr,[(.call 49 (x) [(vA [pA,(vI (a1+32)),(vI 992)]),(vI 40),(vI 8),(.int .u64 (wrapF IntKind.u64 (Int.ofNat v)))] (vI 0) (X)),(.cv .u64 (vI (v)) (.int .u64 (wrapF IntKind.u64 (Int.ofNat v)))),(.callR 54 (x) (rr) (rb) [pR,(vI (a1))] (vT [(vA [pR,pA,(vI (a1+160)),(vI 32),(vU (w)),pA,(vI (a1+160)),(vI 32),(vI 1024),pA,(vI (a1+32)),(vI 992)]),(vI 0)]) (x))]):=by kernel_rfl
set_option maxHeartbeats 800000 in
theorem wTSet5{x X:Ar}{rr rb:List Value}{a1 w v:Nat}(hx:x.refuse<9223372036854775808)(hrr:can3Fs ⟨0,1,2⟩ rr=some rr)(hrb:can3Fs ⟨0,1,2⟩ rb=some rb)(hN:spNodeAt x [pR,.int .i64 (.ofNat a1)]=some (.tuple ⟨[ndC a1 w,errV 0]⟩,x))(hL:spVStore x [vwC (.ofNat (a1+32)) (.ofNat 992),vI 40,vI 8,.int .u64 (wrapF IntKind.u64 (Int.ofNat v))]=some (errV 0,X)):∃t nx,RS hV6 29 [trC,.int .i64 (.ofNat a1),vI 5,vI v] ⟨sm3 x rr rb,3⟩=some (.tuple ⟨[]⟩,⟨t,nx⟩)∧look 0 t=some (.ext X)∧look 1 t=some (.cells (pA::rb))∧look 2 t=some (.cells (pB::rr)):=by
 refine to_runR (scriptR_run (wTSet5_1 (x:=x) (X:=X) (rr:=rr) (rb:=rb) (a1:=a1) (w:=w) (v:=v)) ?_) ?_ ?_
 ·repeat' first
   |exact trivial
   |assumption
   |exact ob_bin rfl (by assumption)
   |exact⟨_,_,rfl,by first|assumption|rfl⟩
   |refine And.intro ?_ ?_
   |exact rfl
 ·first|rfl|(simp only[cond_true, *,zT,cond_false]<;>rfl)
 ·first|rfl|(simp only[cond_true, *,cond_false]<;>rfl)
theorem rTHas{x x':Ar}{rr rb vs:List Value}{v:Value}(hx:x.refuse<9223372036854775808)(hrr:can3Fs ⟨0,1,2⟩ rr=some rr)(hrb:can3Fs ⟨0,1,2⟩ rb=some rb)(hs:spTHas x vs=some (v,x')):∃t n,RS hV6 27 vs ⟨sm3 x rr rb,3⟩=some (v,⟨t,n⟩)∧look 0 t=some (.ext x')∧look 1 t=some (.cells (pA::rb))∧look 2 t=some (.cells (pB::rr)):=by
 unfold spTHas at hs
 split at hs
 ·rename_i a
  unfold ofNode at hs
  split at hs
  ·rename_i e he;injection hs with hs;injection hs with h1 h2;subst h1;subst h2;exact wTHasE hx hrr hrb (node_no he)
  ·rename_i he
   cases a with
   |ofNat a=>simp only at hs;injection hs with hs;injection hs with h1 h2;subst h1;subst h2;exact wTHas hx hrr hrb (node_at he)
   |negSucc a=>cases hs
  ·cases hs
 ·cases hs
theorem fld_cases{f:Nat}(h:fldB f=true):f=1∨f=2∨f=3∨f=4∨f=5:=by
 unfold fldB at h
 rw[Bool.and_eq_true,Nat.ble_eq,Nat.ble_eq] at h
 omega
theorem rTGet{x x':Ar}{rr rb vs:List Value}{v:Value}(hx:x.refuse<9223372036854775808)(hrr:can3Fs ⟨0,1,2⟩ rr=some rr)(hrb:can3Fs ⟨0,1,2⟩ rb=some rb)(hs:spTGet x vs=some (v,x')):∃t n,RS hV6 28 vs ⟨sm3 x rr rb,3⟩=some (v,⟨t,n⟩)∧look 0 t=some (.ext x')∧look 1 t=some (.cells (pA::rb))∧look 2 t=some (.cells (pB::rr)):=by
 unfold spTGet at hs
 split at hs
 ·rename_i a f
  cases hf:fldB f with
  |false=>rw[hf] at hs;cases hs
  |true =>
   rw[hf,cond_true] at hs
   unfold ofNode at hs
   split at hs
   ·rename_i e he;injection hs with hs;injection hs with h1 h2;subst h1;subst h2
    rcases fld_cases hf with rfl|rfl|rfl|rfl|rfl
    ·exact wTGetE1 hx hrr hrb (node_no he)
    ·exact wTGetE2 hx hrr hrb (node_no he)
    ·exact wTGetE3 hx hrr hrb (node_no he)
    ·exact wTGetE4 hx hrr hrb (node_no he)
    ·exact wTGetE5 hx hrr hrb (node_no he)
   ·rename_i he
    rcases fld_cases hf with rfl|rfl|rfl|rfl|rfl
    ·cases a with
     |ofNat a=>simp only at hs;injection hs with hs;injection hs with h1 h2;subst h1;subst h2;exact wTGet1 hx hrr hrb (node_at he) (node_load (b:=8) he (by decide) rfl)
     |negSucc a=>cases hs
    ·cases a with
     |ofNat a=>simp only at hs;injection hs with hs;injection hs with h1 h2;subst h1;subst h2;exact wTGet2 hx hrr hrb (node_at he) (node_load (b:=16) he (by decide) rfl)
     |negSucc a=>cases hs
    ·cases a with
     |ofNat a=>simp only at hs;injection hs with hs;injection hs with h1 h2;subst h1;subst h2;exact wTGet3 hx hrr hrb (node_at he) (node_load (b:=24) he (by decide) rfl)
     |negSucc a=>cases hs
    ·cases a with
     |ofNat a=>simp only at hs;injection hs with hs;injection hs with h1 h2;subst h1;subst h2;exact wTGet4 hx hrr hrb (node_at he) (node_load (b:=32) he (by decide) rfl)
     |negSucc a=>cases hs
    ·cases a with
     |ofNat a=>simp only at hs;injection hs with hs;injection hs with h1 h2;subst h1;subst h2;exact wTGet5 hx hrr hrb (node_at he) (node_load (b:=40) he (by decide) rfl)
     |negSucc a=>cases hs
   ·cases hs
 ·cases hs
theorem rTSet{x x':Ar}{rr rb vs:List Value}{v:Value}(hx:x.refuse<9223372036854775808)(hrr:can3Fs ⟨0,1,2⟩ rr=some rr)(hrb:can3Fs ⟨0,1,2⟩ rb=some rb)(hs:spTSet x vs=some (v,x')):∃t n,RS hV6 29 vs ⟨sm3 x rr rb,3⟩=some (v,⟨t,n⟩)∧look 0 t=some (.ext x')∧look 1 t=some (.cells (pA::rb))∧look 2 t=some (.cells (pB::rr)):=by
 unfold spTSet at hs
 split at hs
 ·rename_i a f n
  cases hf:fldB f&&Nat.blt n 9223372036854775808 with
  |false=>rw[hf] at hs;cases hs
  |true =>
   rw[hf,cond_true] at hs
   rw[Bool.and_eq_true] at hf
   obtain⟨hf,hv⟩:=hf
   rw[blt_iff,decide_eq_true_eq] at hv
   split at hs
   ·rename_i e he;injection hs with hs;injection hs with h1 h2;subst h1;subst h2
    rcases fld_cases hf with rfl|rfl|rfl|rfl|rfl
    ·exact wTSetE1 hx hrr hrb (node_no he)
    ·exact wTSetE2 hx hrr hrb (node_no he)
    ·exact wTSetE3 hx hrr hrb (node_no he)
    ·exact wTSetE4 hx hrr hrb (node_no he)
    ·exact wTSetE5 hx hrr hrb (node_no he)
   ·rename_i he
    rcases fld_cases hf with rfl|rfl|rfl|rfl|rfl
    ·cases a with
     |ofNat a =>
      simp only at hs;injection hs with hs;injection hs with h1 h2;subst h1;subst h2
      exact wTSet1 hx hrr hrb (node_at he) (by rw[wrapU_lt (Nat.lt_trans hv (by decide))];exact node_store (b:=8) he (by decide) rfl (by rw[blt_iff];exact decide_eq_true (Nat.lt_trans hv (by decide))))
     |negSucc a=>cases hs
    ·cases a with
     |ofNat a =>
      simp only at hs;injection hs with hs;injection hs with h1 h2;subst h1;subst h2
      exact wTSet2 hx hrr hrb (node_at he) (by rw[wrapU_lt (Nat.lt_trans hv (by decide))];exact node_store (b:=16) he (by decide) rfl (by rw[blt_iff];exact decide_eq_true (Nat.lt_trans hv (by decide))))
     |negSucc a=>cases hs
    ·cases a with
     |ofNat a =>
      simp only at hs;injection hs with hs;injection hs with h1 h2;subst h1;subst h2
      exact wTSet3 hx hrr hrb (node_at he) (by rw[wrapU_lt (Nat.lt_trans hv (by decide))];exact node_store (b:=24) he (by decide) rfl (by rw[blt_iff];exact decide_eq_true (Nat.lt_trans hv (by decide))))
     |negSucc a=>cases hs
    ·cases a with
     |ofNat a =>
      simp only at hs;injection hs with hs;injection hs with h1 h2;subst h1;subst h2
      exact wTSet4 hx hrr hrb (node_at he) (by rw[wrapU_lt (Nat.lt_trans hv (by decide))];exact node_store (b:=32) he (by decide) rfl (by rw[blt_iff];exact decide_eq_true (Nat.lt_trans hv (by decide))))
     |negSucc a=>cases hs
    ·cases a with
     |ofNat a =>
      simp only at hs;injection hs with hs;injection hs with h1 h2;subst h1;subst h2
      exact wTSet5 hx hrr hrb (node_at he) (by rw[wrapU_lt (Nat.lt_trans hv (by decide))];exact node_store (b:=40) he (by decide) rfl (by rw[blt_iff];exact decide_eq_true (Nat.lt_trans hv (by decide))))
     |negSucc a=>cases hs
   ·cases hs
 ·cases hs
def hV7:List (HookF Ar):=(27,liftR spTHas (fun _=>none))::(28,liftR spTGet (fun _=>none))::(29,liftR spTSet (fun _=>none))::hV6
theorem hV7_ok:∀y∈hV7,HookOk (Ext1 Cls) PZ W0 y.1 y.2 :=
 more_ok (E:=(Ext1 Cls)) (more_ok (E:=(Ext1 Cls)) (more_ok (E:=(Ext1 Cls)) (hV6_ok) (liftR_ok (RS_ok hV6_ok) (fun _ _ _ _ _ _ hx h1 h2 hs=>rTSet hx h1 h2 hs) fun _ _ _ hs=>by cases hs))
  (liftR_ok (RS_ok hV6_ok) (fun _ _ _ _ _ _ hx h1 h2 hs=>rTGet hx h1 h2 hs) fun _ _ _ hs=>by cases hs)) (liftR_ok (RS_ok hV6_ok) (fun _ _ _ _ _ _ hx h1 h2 hs=>rTHas hx h1 h2 hs) fun _ _ _ hs=>by cases hs)
end Go.AI
/- A node's parent. -/
namespace Go.AI
open Go.Proofs
variable {W0:World}{Cls:Nat→Int→Prop}
theorem wTParent_1{x:Ar}{rr rb:List Value}{a b:Int}:scriptR F1 cleanT (hookL hV7)
 [.run 8,.callR (.int .i64 (b)) (x),.run 16]
 1000 10 [trC,.int .i64 a] x rr rb=some ((.int .i64 (b)),(x),pA::rb,pB::rr,[(.callR 28 (x) (rr) (rb) [(vA [pR]),(.int .i64 (a)),(vI 1)] (.int .i64 (b)) (x))]):=by kernel_rfl
theorem wTParent{x:Ar}{rr rb:List Value}{a b:Int}(hx:x.refuse<9223372036854775808)(hrr:can3Fs ⟨0,1,2⟩ rr=some rr)(hrb:can3Fs ⟨0,1,2⟩ rb=some rb)(hN:spTGet x [trC,.int .i64 a,vI 1]=some (.int .i64 b,x)):∃t nx,RS hV7 10 [trC,.int .i64 a] ⟨sm3 x rr rb,3⟩=some (.int .i64 b,⟨t,nx⟩)∧look 0 t=some (.ext x)∧look 1 t=some (.cells (pA::rb))∧look 2 t=some (.cells (pB::rr)):=by
 refine to_runR (scriptR_run (wTParent_1 (x:=x) (rr:=rr) (rb:=rb) (a:=a) (b:=b)) ?_) ?_ ?_
 ·repeat' first
   |exact trivial
   |assumption
   |exact ob_bin rfl (by assumption)
   |exact⟨_,_,rfl,by first|assumption|rfl⟩
   |refine And.intro ?_ ?_
   |exact rfl
 ·first|rfl|(simp only[cond_true, *,zT,cond_false]<;>rfl)
 ·first|rfl|(simp only[cond_true, *,cond_false]<;>rfl)
theorem rTParent{x x':Ar}{rr rb vs:List Value}{v:Value}(hx:x.refuse<9223372036854775808)(hrr:can3Fs ⟨0,1,2⟩ rr=some rr)(hrb:can3Fs ⟨0,1,2⟩ rb=some rb)(hs:spTParent x vs=some (v,x')):∃t n,RS hV7 10 vs ⟨sm3 x rr rb,3⟩=some (v,⟨t,n⟩)∧look 0 t=some (.ext x')∧look 1 t=some (.cells (pA::rb))∧look 2 t=some (.cells (pB::rr)):=by
 unfold spTParent at hs
 split at hs
 ·rename_i a
  have hf:fldB 1=true:=rfl
  unfold ofNode at hs
  split at hs
  ·rename_i e he;injection hs with hs;injection hs with h1 h2;subst h1;subst h2;exact wTParent hx hrr hrb (by simp only[spTGet,hf,cond_true,ofNode,he])
  ·rename_i he
   cases a with
   |ofNat a=>simp only at hs;injection hs with hs;injection hs with h1 h2;subst h1;subst h2;exact wTParent hx hrr hrb (by simp only[spTGet,hf,cond_true,ofNode,he])
   |negSucc a=>cases hs
  ·cases hs
 ·cases hs
def hV8:List (HookF Ar):=(10,liftR spTParent (fun _=>none))::hV7
theorem hV8_ok:∀y∈hV8,HookOk (Ext1 Cls) PZ W0 y.1 y.2 :=
 more_ok (E:=(Ext1 Cls)) hV7_ok (liftR_ok (RS_ok hV7_ok) (fun _ _ _ _ _ _ hx h1 h2 hs=>rTParent hx h1 h2 hs) fun _ _ _ hs=>by cases hs)
end Go.AI
/- A function whose arguments show a recycler and that answers a row of whole numbers, which is new: told by what it reads in the arena. No program is named here. -/
namespace Go.AI
variable {P:Program}{W0:World}{Cls:Nat→Int→Prop}
abbrev SpecL:=Ar→List Value→Option (List Nat)
abbrev nI(n:Nat):Value:=.int .i64 (.ofNat n)
def RowIs(T:Nat)(t:List (Nat×AObj Ar))(v:Value):List Nat→Prop
 |[]=>v = .slice none 0 0
 |a::l=>∃b,3≤b∧v = .slice (some ⟨b,0,none⟩) (a::l).length (a::l).length∧look b t=some (.grown 1 T ((a::l).map nI))
def rowOut(T:Nat)(h:Hp Ar):List Nat→Value×Hp Ar
 |[]=>(.slice none 0 0,h)
 |a::l=>(.slice (some ⟨h.next,0,none⟩) (a::l).length (a::l).length,⟨(h.next,.grown 1 T ((a::l).map nI))::h.tbl,h.next+1⟩)
def liftL(T:Nat)(spec:SpecL):List Value→Hp Ar→Option (Value×Hp Ar):=fun vs h =>
 match find3 vs h.tbl with
 |some (q,x,rr,rb)=>bif Nat.blt x.refuse 9223372036854775808 then(match can3L q vs,can3Fs q rr,can3Fs q rb with
  |some vs0,some _,some _=>match spec x vs0 with
   |some l=>some (rowOut T h l)
   |none=>none
  |_,_,_=>none) else none
 |none=>none
theorem nI_rf{R:Rl}:∀l:List Nat,All2 (RF R) (l.map nI) (l.map nI)
 |[]=>.nil
 |_::l=>.cons (.int _ _) (nI_rf l)
theorem find3_out{vs:List Value}{tbl:List (Nat×AObj Ar)}{q:B3}{x:Ar}{rr rb:List Value}(hfind:find3 vs tbl=some (q,x,rr,rb)) :
  look q.r tbl=some (.cells (.pointer (some ⟨q.b,0,none⟩)::rr))∧look q.b tbl=some (.cells (.pointer (some ⟨q.i,0,none⟩)::rb))∧look q.i tbl=some (.ext x)∧q.r≠q.b∧q.i≠q.b∧q.i≠q.r:=by
 have h4:look q.r tbl=some (.cells (.pointer (some ⟨q.b,0,none⟩)::rr))∧look q.b tbl=some (.cells (.pointer (some ⟨q.i,0,none⟩)::rb))∧look q.i tbl=some (.ext x)∧q.r≠q.b:=by
  unfold find3 at hfind
  split at hfind
  ·rename_i r0 hfirst
   split at hfind
   ·rename_i b rr1 hr1
    split at hfind
    ·rename_i i rb1 hb1
     split at hfind
     ·rename_i x1 hx1
      cases hne:Nat.beq r0 b with
      |true=>rw[hne] at hfind;cases hfind
      |false =>
       rw[hne,cond_false] at hfind
       injection hfind with hfind
       injection hfind with e1 e2
       injection e2 with e2 e3
       injection e3 with e3 e4
       subst e1;subst e2;subst e3;subst e4
       refine⟨hr1,hb1,hx1,fun e=>?_⟩
       have e:r0=b:=e
       rw[e,Nat.beq_refl] at hne;cases hne
     ·cases hfind
    ·cases hfind
   ·cases hfind
  ·cases hfind
 obtain⟨f1,f2,f3,f4⟩:=h4
 exact⟨f1,f2,f3,f4,(fun e=>by rw[e,f2] at f3;cases f3),(fun e=>by rw[e,f1] at f3;cases f3)⟩
theorem liftL_ok{call:CallFn Ar}(hC:CallsOk (Ext1 Cls) P W0 call){k T:Nat}{spec:SpecL}
  (h1:∀x rr rb vs l,x.refuse<9223372036854775808→can3Fs ⟨0,1,2⟩ rr=some rr→can3Fs ⟨0,1,2⟩ rb=some rb→spec x vs=some l→∃t n v,call k vs ⟨sm3 x rr rb,3⟩=some (v,⟨t,n⟩)∧look 0 t=some (.ext x)∧look 1 t=some (.cells (pA::rb))∧look 2 t=some (.cells (pB::rr))∧RowIs T t v l) :
  HookOk (Ext1 Cls) P W0 k (liftL T spec):=by
 intro vs h v h2 hr ρ φ w hG vs' hvs
 unfold liftL at hr
 split at hr
 ·rename_i q x rr rb hfind
  cases hf:Nat.blt x.refuse 9223372036854775808 with
  |false=>rw[hf] at hr;cases hr
  |true =>
   rw[hf,cond_true] at hr
   rw[blt_iff,decide_eq_true_eq] at hf
   split at hr
   ·rename_i vs0 rr0 rb0 hvs0 hrr hrb
    split at hr
    ·rename_i l hs
     injection hr with hr
     obtain⟨f1,f2,f3,f4,fib,fir⟩:=find3_out hfind
     obtain⟨t,n,v0,hrun,hl0,hl1,hl2,hrow⟩:=h1 x rr0 rb0 vs0 l hf (can3Fs_idem hrr) (can3Fs_idem hrb) hs
     have hσ0:rts (fun j=>match j with|0=>q.i|1=>q.b|_=>q.r) 3 0 q.i:=⟨by omega,rfl⟩
     have hσ1:rts (fun j=>match j with|0=>q.i|1=>q.b|_=>q.r) 3 1 q.b:=⟨by omega,rfl⟩
     have hσ2:rts (fun j=>match j with|0=>q.i|1=>q.b|_=>q.r) 3 2 q.r:=⟨by omega,rfl⟩
     have li:=hG.lt f3
     have lb:=hG.lt f2
     have lr:=hG.lt f1
     have c1:∀j,j<3→(match j with|0=>q.i|1=>q.b|_=>q.r)<h.next:=by
      intro j hj
      match j with
      |0=>exact li
      |1=>exact lb
      |j+2=>exact lr
     have c2:∀a c,a<3→c<3→(match a with|0=>q.i|1=>q.b|_=>q.r)=(match c with|0=>q.i|1=>q.b|_=>q.r)→a=c:=by
      intro a c ha hc e
      match a,c,ha,hc,e with
      |0,0,_,_,_=>rfl
      |1,1,_,_,_=>rfl
      |2,2,_,_,_=>rfl
      |0,1,_,_,e=>exact absurd e fib
      |0,2,_,_,e=>exact absurd e fir
      |1,0,_,_,e=>exact absurd e.symm fib
      |2,0,_,_,e=>exact absurd e.symm fir
      |1,2,_,_,e=>exact absurd e.symm f4
      |2,1,_,_,e=>exact absurd e f4
     have c3:∀j o,look j (sm3 x rr0 rb0)=some o→j<3∧∃o',look (match j with|0=>q.i|1=>q.b|_=>q.r) h.tbl=some o'∧RO (E0:=Ext1 Cls) (E:=Ext1 Cls) id (rts (fun j=>match j with|0=>q.i|1=>q.b|_=>q.r) 3) o o':=by
      intro j o hj
      change look j [(2,AObj.cells (pB::rr0)),(1,.cells (pA::rb0)),(0,.ext x)]=some o at hj
      rw[zC,zC,zC] at hj
      split at hj
      ·rename_i e
       injection hj with hj
       subst hj
       have e:j=2:=e
       subst e
       exact⟨by omega,_,f1,.cells (.cons (.ptr hσ1) (can3Fs_rf hσ0 hσ1 hσ2 hrr))⟩
      ·split at hj
       ·rename_i e
        injection hj with hj
        subst hj
        have e:j=1:=e
        subst e
        exact⟨by omega,_,f2,.cells (.cons (.ptr hσ0) (can3Fs_rf hσ0 hσ1 hσ2 hrb))⟩
       ·split at hj
        ·rename_i e
         injection hj with hj
         subst hj
         have e:j=0:=e
         subst e
         exact⟨by omega,_,f3,RO.ext (E0:=Ext1 Cls) (E:=Ext1 Cls) (f:=id) x⟩
        ·simp[look] at hj
     -- what lay there lies there still
     have old:∀(τ:Nat→Nat) (m:Nat) k o,look k h.tbl=some o→(∃i o',rtn (fun j=>match j with|0=>q.i|1=>q.b|_=>q.r) 3 τ h.next m i k∧look i t=some o'∧RO (E0:=Ext1 Cls) (E:=Ext1 Cls) id (rtn (fun j=>match j with|0=>q.i|1=>q.b|_=>q.r) 3 τ h.next m) o' o)∨(look k h.tbl=some o∧∀i,i<3→(match i with|0=>q.i|1=>q.b|_=>q.r)≠k):=by
      intro τ m k o hk
      have hn0:rtn (fun j=>match j with|0=>q.i|1=>q.b|_=>q.r) 3 τ h.next m 0 q.i:=.inl hσ0
      have hn1:rtn (fun j=>match j with|0=>q.i|1=>q.b|_=>q.r) 3 τ h.next m 1 q.b:=.inl hσ1
      have hn2:rtn (fun j=>match j with|0=>q.i|1=>q.b|_=>q.r) 3 τ h.next m 2 q.r:=.inl hσ2
      by_cases e:k=q.i
      ·subst e
       rw[f3] at hk
       injection hk with hk
       subst hk
       exact .inl ⟨0,_,hn0,hl0,RO.ext (E0:=Ext1 Cls) (E:=Ext1 Cls) (f:=id) x⟩
      ·by_cases eb:k=q.b
       ·subst eb
        rw[f2] at hk
        injection hk with hk
        subst hk
        exact .inl ⟨1,_,hn1,hl1,.cells (.cons (.ptr hn0) (can3Fs_rf hn0 hn1 hn2 hrb))⟩
       ·by_cases er:k=q.r
        ·subst er
         rw[f1] at hk
         injection hk with hk
         subst hk
         exact .inl ⟨2,_,hn2,hl2,.cells (.cons (.ptr hn1) (can3Fs_rf hn0 hn1 hn2 hrr))⟩
        ·refine .inr ⟨hk,fun j hj e2=>?_⟩
         match j with
         |0=>exact e e2.symm
         |1=>exact eb e2.symm
         |j+2=>exact er e2.symm
     cases l with
     |nil =>
      injection hr with hr1 hr2
      subst hr1;subst hr2
      change v0=_ at hrow
      subst hrow
      exact reloc (E0:=Ext1 Cls) (g:=id) same2_id hC hrun (h:=h) (h':=h) (σ:=fun j=>match j with|0=>q.i|1=>q.b|_=>q.r) (τ:=fun t=>t+3) (m:=0) c1 c2 (can3L_rv hσ0 hσ1 hσ2 hvs0) c3 (fun t ht=>absurd ht (by omega)) (fun t u ht=>absurd ht (by omega)) (.of_flat (.nils _ _)) rfl (fun k o hk=>old _ _ k o hk) hG hvs
     |cons a l =>
      injection hr with hr1 hr2
      subst hr1;subst hr2
      obtain⟨b,hb,hv0,hlb⟩:=hrow
      subst hv0
      have hnb:rtn (fun j=>match j with|0=>q.i|1=>q.b|_=>q.r) 3 (fun _=>b) h.next 1 b h.next:=.inr ⟨0,by omega,rfl,rfl⟩
      refine reloc (E0:=Ext1 Cls) (g:=id) same2_id hC hrun (h:=h) (h':=⟨(h.next,.grown 1 T ((a::l).map nI))::h.tbl,h.next+1⟩) (σ:=fun j=>match j with|0=>q.i|1=>q.b|_=>q.r) (τ:=fun _=>b) (m:=1) c1 c2 (can3L_rv hσ0 hσ1 hσ2 hvs0) c3 (fun t _=>hb) (fun t u ht hu _=>by omega) (.of_flat (.slc hnb)) rfl ?_ hG hvs
      intro k o hk
      change look k ((h.next,AObj.grown 1 T ((a::l).map nI))::h.tbl)=some o at hk
      rw[zC] at hk
      split at hk
      ·rename_i e
       injection hk with hk
       subst hk
       have e:k=h.next:=e
       subst e
       exact .inl ⟨b,_,hnb,hlb,.grown _ _ (nI_rf _)⟩
      ·exact old _ _ k o hk
    ·cases hr
   ·cases hr
 ·cases hr
theorem find3_at{vs:List Value}{tbl:List (Nat×AObj Ar)}{r b i:Nat}{x:Ar}{rr rb:List Value}(h:firstV vs=some r)(h1:look r tbl=some (.cells (.pointer (some ⟨b,0,none⟩)::rr)))(h2:look b tbl=some (.cells (.pointer (some ⟨i,0,none⟩)::rb)))(h3:look i tbl=some (.ext x))(hne:r≠b):find3 vs tbl=some (⟨i,b,r⟩,x,rr,rb):=by
 have e:Nat.beq r b=false:=by rw[← Bool.not_eq_true,Nat.beq_eq];exact hne
 simp only[find3,h,h1,h2,h3,e,cond_false]
theorem liftL_at{T:Nat}{spec:SpecL}{vs vs0 rr' rb':List Value}{h:Hp Ar}{q:B3}{x:Ar}{rr rb:List Value}{l:List Nat}(hf:find3 vs h.tbl=some (q,x,rr,rb))(hx:x.refuse<9223372036854775808)(hv:can3L q vs=some vs0)(h1:can3Fs q rr=some rr')(h2:can3Fs q rb=some rb')(hs:spec x vs0=some l):liftL T spec vs h=some (rowOut T h l):=by
 have e:Nat.blt x.refuse 9223372036854775808=true:=by rw[blt_iff];exact decide_eq_true hx
 simp only[liftL,hf,e,cond_true,hv,h1,h2,hs]
theorem liftR_at{spec:Spec}{spec0:List Value→Option Value}{vs vs0 rr' rb':List Value}{h:Hp Ar}{q:B3}{x x':Ar}{rr rb:List Value}{v0 v:Value}{r:Nat}(hr:firstV vs=some r)(hf:find3 vs h.tbl=some (q,x,rr,rb))(hx:x.refuse<9223372036854775808)(hv:can3L q vs=some vs0)(h1:can3Fs q rr=some rr')(h2:can3Fs q rb=some rb')(hs:spec x vs0=some (v0,x'))(hb:back3V q v0=some v):liftR spec spec0 vs h=some (v,⟨upd q.i (.ext x') h.tbl,h.next⟩):=by
 have e:Nat.blt x.refuse 9223372036854775808=true:=by rw[blt_iff];exact decide_eq_true hx
 simp only[liftR,hr,hf,e,cond_true,hv,h1,h2,hs,hb]
end Go.AI
