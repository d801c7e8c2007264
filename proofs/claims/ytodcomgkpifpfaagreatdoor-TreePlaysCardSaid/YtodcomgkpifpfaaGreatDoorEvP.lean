/- The law's hooks; the call, whatever the acts. -/
import Derived.Test.YtodcomgkpifpfaaGreatDoorKRh
import Derived.Test.YtodcomgkpifpfaaGreatDoorKEv
namespace Go.AI
open Go.Proofs
variable {W0:World}{Cls:Nat→Int→Prop}{S:List Nat}
theorem hP_ok(hT:Tabs W0)(hS:S.length<900):∀y∈hP S,HookOk (Ext1 Cls) PZ W0 y.1 y.2:=more_ok (E:=(Ext1 Cls)) (hL_ok hT hS) clone_ok
theorem rPlays{W:World}(hT:Tabs W){n:Nat}(hn:n<256){l:List ActT}(hu:∀a,a∈l→a.2.1<256∧a.2.2<256)(hll:l.length≤9223372036854775807){b off cap:Nat}{cs':Array Value}{e:TypeId}{f:Nat×Nat}(hb:W.heap[b]? = some (.cells cs' e f))(hl:off+l.length*3≤cs'.size)(hc:(cs'.toList.drop off).take (l.length*3)=actsC l)
  {ad:Option Addr} (had:l.length≠0→ad=some ⟨0,off,some 1⟩) {V':Value} (hV:FR (fun i=>if i=0 then some (b,0) else none) (.slice ad l.length cap) V') :
  Calls PZ 4 ⟨[.int .u8 (.ofNat n),V']⟩ W fun e W'=>e = .returned (.bool true)∧Same W W':=by
 have hlen:∀l:List ActT,(actsC l).length=l.length*3:=by
  intro l
  induction l with
  |nil=>rfl
  |cons a r ih =>
   have:(actsC (a::r)).length=3+(actsC r).length:=by
    show(actC a++actsC r).length=_
    rw[List.length_append];rfl
   rw[this,ih,List.length_cons];omega
 obtain⟨S,hS,v,h',hr,rfl⟩:=plays_run (off:=off) hn hu hll (cp:=cap) had (open_all (by omega) (by omega))
 have hC:=RF_ok (Cls:=fun _ _=>False) (hP_ok hT hS) 2014
 have hF:∀l:List ActT,All2 (FR fun i=>if i=0 then some (b,0) else none) (actsC l) (actsC l):=by
  intro l
  induction l with
  |nil=>exact .nil
  |cons a r ih =>
   show All2 _ (actC a++actsC r) (actC a++actsC r)
   exact .cons (.bool _) (.cons (.int _ _) (.cons (.int _ _) ih))
 have hg:=good_row (Cls:=fun _ _=>False) (off:=off) (cs:=actsC l) hb (by rw[hlen];exact hl) (by rw[hlen,hc];exact hF l)
 have hv:All2 (VR fun i=>if i=0 then some (b,0) else none) [.int .u8 (.ofNat n),.slice ad l.length cap] [.int .u8 (.ofNat n),V'] :=
  .cons (.of_flat (.int _ _)) (.cons (.of_flat hV) .nil)
 refine calls_mono (calls_run hC ⟨_,_,Tryz.func4,rfl,by kernel_rfl⟩ hr hg hv) ?_
 rintro e W' ⟨v',ρ',rfl,h1,h2⟩
 exact⟨by rw[h1.bool_inv],h2⟩
end Go.AI
