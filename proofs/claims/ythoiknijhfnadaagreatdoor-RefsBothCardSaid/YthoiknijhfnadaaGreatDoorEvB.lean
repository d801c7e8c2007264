/- The law's hooks; the call, whatever the acts. -/
import Derived.Test.YthoiknijhfnadaaGreatDoorKNu
import Derived.Test.YthoiknijhfnadaaGreatDoorKM
import Derived.Test.YthoiknijhfnadaaGreatDoorKSf
import Derived.Test.YthoiknijhfnadaaGreatDoorOpA
import Derived.Test.YthoiknijhfnadaaGreatDoorOpB
import Derived.Test.YthoiknijhfnadaaGreatDoorOpC
import Derived.Test.YthoiknijhfnadaaGreatDoorOpD
namespace Go.AI
open Go.Proofs
variable {W0:World}{Cls:Nat→Int→Prop}
theorem nodes_all{k off:Nat}{acts:List Value}(h1:1≤k)(h2:k≤12):NodesOk k off acts:=by
 match k,h1,h2 with
 |1,_,_=>exact oO1 off acts
 |2,_,_=>exact oO2 off acts
 |3,_,_=>exact oO3 off acts
 |4,_,_=>exact oO4 off acts
 |5,_,_=>exact oO5 off acts
 |6,_,_=>exact oO6 off acts
 |7,_,_=>exact oO7 off acts
 |8,_,_=>exact oO8 off acts
 |9,_,_=>exact oO9 off acts
 |10,_,_=>exact oO10 off acts
 |11,_,_=>exact oO11 off acts
 |12,_,_=>exact oO12 off acts
theorem nodes_ok(hT:Tabs W0):HookOk (Ext1 Cls) PZ W0 7 runNodes:=by
 intro vs h v h2 hr ρ φ w hG vs' hvs
 have hC:=run_sound (E:=Ext1 Cls) (esc:=escT) (clean:=cleanT) mixedZ (hookL_ok (h19a_ok hT)) 1000
 unfold runNodes at hr
 exact hC _ vs h v h2 hr ρ φ w hG vs' hvs
theorem hRT_ok(hT:Tabs W0):∀y∈hRT,HookOk (Ext1 Cls) PZ W0 y.1 y.2 :=
 more_ok (E:=(Ext1 Cls)) (more_ok (E:=(Ext1 Cls)) (more_ok (E:=(Ext1 Cls)) (more_ok (E:=(Ext1 Cls)) (more_ok (E:=(Ext1 Cls)) (more_ok (E:=(Ext1 Cls)) hV4_ok insH_ok) putW_ok) allW_ok) rec_ok) (nodes_ok hT)) (h23a_ok hT _ (List.mem_cons_self ..))
theorem good_row{W:World}{b off:Nat}{cs:List Value}{cs':Array Value}{e:TypeId}{f:Nat×Nat}(hb:W.heap[b]? = some (.cells cs' e f))(hl:off+cs.length≤cs'.size)(hc:All2 (FR fun i=>if i=0 then some (b,0) else none) cs ((cs'.toList.drop off).take cs.length)) :
  Good (E:=Ext1 Cls) W (fun i=>if i=0 then some (b,0) else none) (fun _=>(fun _=>False,fun c=>c=b)) (fun i=>look i (⟨[(0,.ro off cs)],1⟩:Hp Ar).tbl) 1 W:=by
 have hlk:∀i o,look i [(0,(AObj.ro off cs:AObj Ar))]=some o→i=0∧o = .ro off cs:=by
  intro i o h
  rw[zC] at h
  split at h
  ·rename_i e
   injection h with h
   exact⟨e,h.symm⟩
  ·simp[look] at h
 have hlt:b<W.heap.size:=(Array.getElem?_eq_some_iff.1 hb).1
 refine⟨fun i hi=>if_neg (by omega),fun i o h=>?_,fun i j oi oj c _ _ _ h=>h.elim,fun i o c _ h=>h.elim,fun i o c h hc=>?_,fun i o c _ h=>h.elim,Nat.le_refl _,fun _ _=>rfl,rfl,rfl⟩
 ·obtain⟨rfl,rfl⟩:=hlk i o h
  exact⟨b,0,if_pos rfl,fun _ h=>h,fun c=>Iff.rfl,cs',e,f,hb,hl,hc⟩
 ·have hc:c=b:=hc
  rw[hc];exact hlt
theorem rBothL{W:World}(hT:Tabs W){n:Nat}(hn:n<256){l:List ActK}(hu:∀a,a∈l→a.2.1<256∧a.2.2.1<256∧a.2.2.2<18446744073709551616)(hll:l.length≤9223372036854775807){b off cap:Nat}{cs':Array Value}{e:TypeId}{f:Nat×Nat}(hb:W.heap[b]? = some (.cells cs' e f))(hl:off+l.length*4≤cs'.size)(hc:(cs'.toList.drop off).take (l.length*4)=actsK l)
  {ad:Option Addr} (had:l.length≠0→ad=some ⟨0,off,some 1⟩) {V':Value} (hV:FR (fun i=>if i=0 then some (b,0) else none) (.slice ad l.length cap) V') :
  Calls PZ 5 ⟨[.int .u8 (.ofNat n),V']⟩ W fun e W'=>e = .returned (.bool true)∧Same W W':=by
 have hlen:=actsK_len
 obtain⟨v,h',hr,rfl⟩:=bothL_run (off:=off) hn hu hll (cp:=cap) had (nodes_all (by omega) (by omega))
 have hC:CallsOk (Ext1 fun _ _=>False) PZ W (RW hRT 2014):=run_sound (esc:=escA) mixedZ (hookL_ok (hRT_ok hT)) 2014
 have hF:∀l:List ActK,All2 (FR fun i=>if i=0 then some (b,0) else none) (actsK l) (actsK l):=by
  intro l
  induction l with
  |nil=>exact .nil
  |cons a r ih =>
   show All2 _ (actK a++actsK r) (actK a++actsK r)
   exact .cons (.bool _) (.cons (.int _ _) (.cons (.int _ _) (.cons (.int _ _) ih)))
 have hg:=good_row (Cls:=fun _ _=>False) (off:=off) (cs:=actsK l) hb (by rw[hlen];exact hl) (by rw[hlen,hc];exact hF l)
 have hv:All2 (VR fun i=>if i=0 then some (b,0) else none) [.int .u8 (.ofNat n),.slice ad l.length cap] [.int .u8 (.ofNat n),V'] :=
  .cons (.of_flat (.int _ _)) (.cons (.of_flat hV) .nil)
 refine calls_mono (calls_run hC ⟨_,_,Tryz.func5,rfl,by kernel_rfl⟩ hr hg hv) ?_
 rintro e W' ⟨v',ρ',rfl,h1,h2⟩
 exact⟨by rw[h1.bool_inv],h2⟩
end Go.AI
