/- The law's hooks; the call, whatever the acts. -/
import Derived.Test.YtohdfkipbgnkoaaGreatDoorKLm
import Derived.Test.YtohdfkipbgnkoaaGreatDoorKM
import Derived.Test.YtohdfkipbgnkoaaGreatDoorOpA
import Derived.Test.YtohdfkipbgnkoaaGreatDoorOpB
import Derived.Test.YtohdfkipbgnkoaaGreatDoorOpC
import Derived.Test.YtohdfkipbgnkoaaGreatDoorOpD
import Derived.Test.YtohdfkipbgnkoaaGreatDoorKSf
namespace Go.AI
open Go.Proofs
variable {W0:World}{Cls:Nat→Int→Prop}{S:List Nat}
theorem FY{k off:Nat}{acts:List Value}(h1:1≤k)(h2:k≤12):fc k off acts:=by
 match k,h1,h2 with
 |1,_,_=>exact oO1 off acts
 |2,_,_=>exact oO2 off acts
 |3,_,_=>exact oO3 off acts
 |4,_,_=>exact oO4 off acts
 |5,_,_=>exact oO5 off acts
 |6,_,_=>exact oO6 off acts
 |7,_,_=>exact oO7 off acts
 |8,_,_=>exact oO8 off acts
 |9,_,_=>exact oO9 off acts
 |10,_,_=>exact Qo off acts
 |11,_,_=>exact Qj off acts
 |12,_,_=>exact Ps off acts
theorem x9(hT:Tabs W0):aQ (a8 Cls) PZ W0 5 pw:=by
 intro vs h v h2 hr ρ φ w hG vs' hvs;have hC:=eE (E:=a8 Cls) (esc:=jR) (clean:=ac) j6 (f7 (yZ hT)) 1000;unfold pw at hr;exact hC _ vs h v h2 hr ρ φ w hG vs' hvs
theorem M8(hT:Tabs W0)(hS:S.length<900):∀y∈hQ S,aQ (a8 Cls) PZ W0 y.1 y.2 :=
 bk (E:=(a8 Cls)) (bk (E:=(a8 Cls)) (bk (E:=(a8 Cls)) (bk (E:=(a8 Cls)) (Mo hS) IQ) Hj) (Ic hT _ (Zr ..))) (x9 hT)
theorem EX{W:World}{b off:Nat}{cs:List Value}{cs':Array Value}{e:TypeId}{f:Nat×Nat}(hb:W.heap[b]? = some (.cells cs' e f))(hl:off+cs.length≤cs'.size)(hc:All2 (FR fun i=>if i=0 then some (b,0) else none) cs ((cs'.toList.drop off).take cs.length)) :
  Good (E:=a8 Cls) W (fun i=>if i=0 then some (b,0) else none) (fun _=>(fun _=>False,fun c=>c=b)) (fun i=>aa i (⟨[(0,.ro off cs)],1⟩:Hp Ar).tbl) 1 W:=by
 have hlk:∀i o,aa i [(0,(AObj.ro off cs:AObj Ar))]=some o→i=0∧o = .ro off cs:=by
  intro i o h;rw[zC] at h;split at h
  ·rename_i e;injection h with h;exact⟨e,h.symm⟩
  ·simp[aa] at h
 have hlt:b<W.heap.size:=(Array.getElem?_eq_some_iff.1 hb).1;refine⟨fun i hi=>if_neg (by omega),fun i o h=>?_,fun i j oi oj c _ _ _ h=>h.elim,fun i o c _ h=>h.elim,fun i o c h hc=>?_,fun i o c _ h=>h.elim,Ze _,fun _ _=>rfl,rfl,rfl⟩
 ·obtain⟨rfl,rfl⟩:=hlk i o h;exact⟨b,0,if_pos rfl,fun _ h=>h,fun c=>Iff.rfl,cs',e,f,hb,hl,hc⟩
 ·have hc:c=b:=hc;rw[hc];exact hlt
theorem rMoves{W:World}(hT:Tabs W){n n2 n3:Nat}(hn:n<256)(hn2:n2<256)(hn3:n3<256){l:List ActM}(hu:∀a,a∈l→a.2.1<256∧a.2.2.1<256 ∧ -9223372036854775808≤a.2.2.2)(hll:l.length≤9223372036854775807){b off cap:Nat}{cs':Array Value}{e:TypeId}{f:Nat×Nat}(hb:W.heap[b]? = some (.cells cs' e f))(hl:off+l.length*4≤cs'.size)(hc:(cs'.toList.drop off).take (l.length*4)=actsM l)
  {ad:Option Addr} (had:l.length≠0→ad=some ⟨0,off,some 1⟩) {V':Value} (hV:FR (fun i=>if i=0 then some (b,0) else none) (.slice ad l.length cap) V') :
  Calls PZ 3 ⟨[.int .u8 (.ofNat n),V',.int .u8 (.ofNat n2),.int .u8 (.ofNat n3)]⟩ W fun e W'=>e = .returned (.bool true)∧Same W W':=by
 have hlen:∀l:List ActM,(actsM l).length=l.length*4:=by
  intro l;induction l with
  |nil=>rfl
  |cons a r ih =>
   have:(actsM (a::r)).length=4+(actsM r).length:=by
    show(actM a++actsM r).length=_;rw[Zw];rfl
   rw[this,ih,Zy];omega
 obtain⟨S,hS,v,h',hr,rfl⟩:=Dm (off:=off) hn hn2 hn3 hu hll (cp:=cap) had (FY (by omega) (by omega));have hC:=wU (Cls:=fun _ _=>False) (M8 hT hS) 2014;have hF:∀l:List ActM,All2 (FR fun i=>if i=0 then some (b,0) else none) (actsM l) (actsM l):=by
  intro l;induction l with
  |nil=>exact .nil
  |cons a r ih =>
   show All2 _ (actM a++actsM r) (actM a++actsM r);exact .cons (.int _ _) (.cons (.int _ _) (.cons (.int _ _) (.cons (.int _ _) ih)))
 have hg:=EX (Cls:=fun _ _=>False) (off:=off) (cs:=actsM l) hb (by rw[hlen];exact hl) (by rw[hlen,hc];exact hF l);have hv:All2 (VR fun i=>if i=0 then some (b,0) else none) [.int .u8 (.ofNat n),.slice ad l.length cap,.int .u8 (.ofNat n2),.int .u8 (.ofNat n3)] [.int .u8 (.ofNat n),V',.int .u8 (.ofNat n2),.int .u8 (.ofNat n3)] :=
  .cons (.of_flat (.int _ _)) (.cons (.of_flat hV) (.cons (.of_flat (.int _ _)) (.cons (.of_flat (.int _ _)) .nil)))
 refine calls_mono (CH hC ⟨_,_,Tryz.func3,rfl,by kernel_rfl⟩ hr hg hv) ?_;rintro e W' ⟨v',ρ',rfl,h1,h2⟩;exact⟨by rw[h1.IS],h2⟩
end Go.AI
