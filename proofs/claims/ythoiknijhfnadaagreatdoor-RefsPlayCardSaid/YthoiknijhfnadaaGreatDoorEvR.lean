/- The law's hooks; the call, whatever the acts. -/
import Derived.Test.YthoiknijhfnadaaGreatDoorKKd
import Derived.Test.YthoiknijhfnadaaGreatDoorKM
import Derived.Test.YthoiknijhfnadaaGreatDoorKSf
namespace Go.AI
open Go.Proofs
variable {W0:World}{Cls:Nat→Int→Prop}
theorem hRP_ok(hT:Tabs W0):∀y∈hRP,HookOk (Ext1 Cls) PZ W0 y.1 y.2 :=
 more_ok (E:=(Ext1 Cls)) (more_ok (E:=(Ext1 Cls)) (more_ok (E:=(Ext1 Cls)) (more_ok (E:=(Ext1 Cls)) (more_ok (E:=(Ext1 Cls)) (more_ok (E:=(Ext1 Cls)) hV4_ok insH_ok) putW_ok) allW_ok) rec_ok) clone_ok) (h23a_ok hT _ (List.mem_cons_self ..))
theorem good_row{W:World}{b off:Nat}{cs:List Value}{cs':Array Value}{e:TypeId}{f:Nat×Nat}(hb:W.heap[b]? = some (.cells cs' e f))(hl:off+cs.length≤cs'.size)(hc:All2 (FR fun i=>if i=0 then some (b,0) else none) cs ((cs'.toList.drop off).take cs.length)) :
  Good (E:=Ext1 Cls) W (fun i=>if i=0 then some (b,0) else none) (fun _=>(fun _=>False,fun c=>c=b)) (fun i=>look i (⟨[(0,.ro off cs)],1⟩:Hp Ar).tbl) 1 W:=by
 have hlk:∀i o,look i [(0,(AObj.ro off cs:AObj Ar))]=some o→i=0∧o = .ro off cs:=by
  intro i o h
  rw[zC] at h
  split at h
  ·rename_i e
   injection h with h
   exact⟨e,h.symm⟩
  ·simp[look] at h
 have hlt:b<W.heap.size:=(Array.getElem?_eq_some_iff.1 hb).1
 refine⟨fun i hi=>if_neg (by omega),fun i o h=>?_,fun i j oi oj c _ _ _ h=>h.elim,fun i o c _ h=>h.elim,fun i o c h hc=>?_,fun i o c _ h=>h.elim,Nat.le_refl _,fun _ _=>rfl,rfl,rfl⟩
 ·obtain⟨rfl,rfl⟩:=hlk i o h
  exact⟨b,0,if_pos rfl,fun _ h=>h,fun c=>Iff.rfl,cs',e,f,hb,hl,hc⟩
 ·have hc:c=b:=hc
  rw[hc];exact hlt
theorem rPlayL{W:World}(hT:Tabs W){n:Nat}(hn:n<65536){l:List ActL}(hu:∀a,a∈l→a.2.1<18446744073709551616∧a.2.2<18446744073709551616)(hll:l.length≤9223372036854775807){b off cap:Nat}{cs':Array Value}{e:TypeId}{f:Nat×Nat}(hb:W.heap[b]? = some (.cells cs' e f))(hl:off+l.length*3≤cs'.size)(hc:(cs'.toList.drop off).take (l.length*3)=actsL l)
  {ad:Option Addr} (had:l.length≠0→ad=some ⟨0,off,some 1⟩) {V':Value} (hV:FR (fun i=>if i=0 then some (b,0) else none) (.slice ad l.length cap) V') :
  Calls PZ 4 ⟨[.int .u16 (.ofNat n),V']⟩ W fun e W'=>e = .returned (.bool true)∧Same W W':=by
 have hlen:=actsL_len
 obtain⟨v,h',hr,rfl⟩:=rplay_run (off:=off) hn hu hll (cp:=cap) had
 have hC:CallsOk (Ext1 fun _ _=>False) PZ W (RW hRP 2014):=run_sound (esc:=escA) mixedZ (hookL_ok (hRP_ok hT)) 2014
 have hF:∀l:List ActL,All2 (FR fun i=>if i=0 then some (b,0) else none) (actsL l) (actsL l):=by
  intro l
  induction l with
  |nil=>exact .nil
  |cons a r ih =>
   show All2 _ (actL a++actsL r) (actL a++actsL r)
   exact .cons (.bool _) (.cons (.int _ _) (.cons (.int _ _) ih))
 have hg:=good_row (Cls:=fun _ _=>False) (off:=off) (cs:=actsL l) hb (by rw[hlen];exact hl) (by rw[hlen,hc];exact hF l)
 have hv:All2 (VR fun i=>if i=0 then some (b,0) else none) [.int .u16 (.ofNat n),.slice ad l.length cap] [.int .u16 (.ofNat n),V'] :=
  .cons (.of_flat (.int _ _)) (.cons (.of_flat hV) .nil)
 refine calls_mono (calls_run hC ⟨_,_,Tryz.func4,rfl,by kernel_rfl⟩ hr hg hv) ?_
 rintro e W' ⟨v',ρ',rfl,h1,h2⟩
 exact⟨by rw[h1.bool_inv],h2⟩
end Go.AI
