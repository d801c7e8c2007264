/- The chapters' examples, one behind the other. -/
import Derived.Test.YtodcomgkpifpfaaGreatDoorKM
import Derived.Test.YtodcomgkpifpfaaGreatDoorM19
import Derived.Test.YtodcomgkpifpfaaGreatDoorKLa
import Derived.Test.YtodcomgkpifpfaaGreatDoorOpA
import Derived.Test.YtodcomgkpifpfaaGreatDoorOpB
import Derived.Test.YtodcomgkpifpfaaGreatDoorOpC
import Derived.Test.YtodcomgkpifpfaaGreatDoorOpD
import Derived.Test.YtodcomgkpifpfaaGreatDoorKSf
namespace Go.AI
open Go.Proofs
variable {W0:World}{Cls:Nat→Int→Prop}
theorem h16a_ok(hT:Tabs W0):∀x∈h16a,HookOk (Ext1 Cls) PZ W0 x.1 x.2:=next_ok (h15a_ok hT) r16
theorem h18a_ok(hT:Tabs W0):∀x∈h18a,HookOk (Ext1 Cls) PZ W0 x.1 x.2:=next_ok (h16a_ok hT) r18
theorem h19a_ok(hT:Tabs W0):∀x∈h19a,HookOk (Ext1 Cls) PZ W0 x.1 x.2:=next_ok (h18a_ok hT) r19
end Go.AI
/- The law's hooks;the call, whatever the acts. -/
namespace Go.AI
open Go.Proofs
variable {W0:World}{Cls:Nat→Int→Prop}{S:List Nat}
theorem open_all{k off:Nat}{acts:List Value}(h1:1≤k)(h2:k≤12):OpenOk k off acts:=by
 match k,h1,h2 with
 |1,_,_=>exact oO1 off acts
 |2,_,_=>exact oO2 off acts
 |3,_,_=>exact oO3 off acts
 |4,_,_=>exact oO4 off acts
 |5,_,_=>exact oO5 off acts
 |6,_,_=>exact oO6 off acts
 |7,_,_=>exact oO7 off acts
 |8,_,_=>exact oO8 off acts
 |9,_,_=>exact oO9 off acts
 |10,_,_=>exact oO10 off acts
 |11,_,_=>exact oO11 off acts
 |12,_,_=>exact oO12 off acts
theorem runOpen_ok(hT:Tabs W0):HookOk (Ext1 Cls) PZ W0 6 runOpen:=by
 intro vs h v h2 hr ρ φ w hG vs' hvs
 have hC:=run_sound (E:=Ext1 Cls) (esc:=escT) (clean:=cleanT) mixedZ (hookL_ok (h19a_ok hT)) 1000
 unfold runOpen at hr
 exact hC _ vs h v h2 hr ρ φ w hG vs' hvs
theorem hL_ok(hT:Tabs W0)(hS:S.length<900):∀y∈hL S,HookOk (Ext1 Cls) PZ W0 y.1 y.2 :=
 more_ok (E:=(Ext1 Cls)) (more_ok (E:=(Ext1 Cls)) (hT6_ok hS) (h19a_ok hT _ (List.mem_cons_self ..))) (runOpen_ok hT)
theorem good_row{W:World}{b off:Nat}{cs:List Value}{cs':Array Value}{e:TypeId}{f:Nat×Nat}(hb:W.heap[b]? = some (.cells cs' e f))(hl:off+cs.length≤cs'.size)(hc:All2 (FR fun i=>if i=0 then some (b,0) else none) cs ((cs'.toList.drop off).take cs.length)) :
  Good (E:=Ext1 Cls) W (fun i=>if i=0 then some (b,0) else none) (fun _=>(fun _=>False,fun c=>c=b)) (fun i=>look i (⟨[(0,.ro off cs)],1⟩:Hp Ar).tbl) 1 W:=by
 have hlk:∀i o,look i [(0,(AObj.ro off cs:AObj Ar))]=some o→i=0∧o = .ro off cs:=by
  intro i o h
  rw[zC] at h
  split at h
  ·rename_i e
   injection h with h
   exact⟨e,h.symm⟩
  ·simp[look] at h
 have hlt:b<W.heap.size:=(Array.getElem?_eq_some_iff.1 hb).1
 refine⟨fun i hi=>if_neg (by omega),fun i o h=>?_,fun i j oi oj c _ _ _ h=>h.elim,fun i o c _ h=>h.elim,fun i o c h hc=>?_,fun i o c _ h=>h.elim,Nat.le_refl _,fun _ _=>rfl,rfl,rfl⟩
 ·obtain⟨rfl,rfl⟩:=hlk i o h
  exact⟨b,0,if_pos rfl,fun _ h=>h,fun c=>Iff.rfl,cs',e,f,hb,hl,hc⟩
 ·have hc:c=b:=hc
  rw[hc];exact hlt
end Go.AI
