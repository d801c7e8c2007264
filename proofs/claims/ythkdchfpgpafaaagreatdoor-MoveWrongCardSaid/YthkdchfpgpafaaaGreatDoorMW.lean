/- The law: whatever the handle. -/
import Derived.Test.YthkdchfpgpafaaaGreatDoorKMc
import Derived.Test.YthkdchfpgpafaaaGreatDoorKHd
import Derived.Test.YthkdchfpgpafaaaGreatDoorStart
namespace Go.AI
open Go.Proofs
variable {W0:World} {Cls:Nat → Int → Prop}
def h28b:List (HookF Ar):=(141,liftH spHF (fun _=>none)) :: h28a
theorem h28b_ok (hT:Tabs W0):∀ x ∈ h28b,HookOk (Ext1 Cls) PZ W0 x.1 x.2:=more_ok (E:=(Ext1 Cls)) (h28a_ok hT) find_ok
def xM:Ar:=(.mk [(some 0x301070000000000000000000000000000000000000000000000000000000000000000000000000000000000000000000000000000000000000000000000000000000000000000000000000000000000000000000000000000000000000000000000000000000000000000000000000000000000000000000000000000000000000000000000000000000000000000000000000059444455424c494d0000000000000003000000000000000000000000000000000000000000000000000000000000000000000000000000000000000000000000000000000000000000000000000000000000000000000000000000000000000000000000000000000000000000000000),(some 0x545345520000000000000000000000000000010000000000000000000000000000000000000000000000001000000000000000000000000000000000000000000000000000000000000000000000000000000000),(some 18446744073709563904),(some 0x3000000000000000000000000000000000000000000045444f4e0000000000000000000000000000000000000000000000000000000000000001000000000000000000000000000000000000000000000000000000000000000000000000000000000000000000000000000000000000000000000000000000000000000000000100000000000000000000000000000000000000000000000100000000004b4e4843),none,none,none,none,none,none,none,none,none,none,none,none,none,none,none,none] false 0)
abbrev vE:Value:=.tuple ⟨[vI 0,vI 0,errV 6]⟩
set_option maxRecDepth 1000000 in
theorem sMW (hh:Nat):scriptZ F1 cleanT (hookL h28b) [.run 11826,.val (.bool false),.run 42,.call vE xM,.run 102,.call vE xM,.run 110,.call vE xM,.run 117,.call vE xM,.run 275,.call vE xM,.run 607,.call vE xM,.run 609,.call vE xM,.run 607,.call vE xM,.run 156,.call vE xM,.run 607,.call vE xM,.run 5120] 1000 3 [vU hh]=some (.bool true,[.call 141 xM [vw4 8192,vU hh] vE xM,
 .call 141 xM [vw4 8192,vU hh] vE xM,
 .call 141 xM [vw4 8192,vU hh] vE xM,
 .call 141 xM [vw4 8192,vU hh] vE xM,
 .call 141 xM [vw4 8192,vU hh] vE xM,
 .call 141 xM [vw4 8192,vU hh] vE xM,
 .call 141 xM [vw4 8192,vU hh] vE xM,
 .call 141 xM [vw4 8192,vU hh] vE xM,
 .call 141 xM [vw4 8192,vU hh] vE xM,
 .call 141 xM [vw4 8192,vU hh] vE xM,
 .bin .eql .no (vU hh) (vU 256) (.bool false)]):=by kernel_rfl
set_option maxRecDepth 1000000 in
theorem sMG:scriptZ F1 cleanT (hookL h28b) [.run 13014] 1000 3 [vU 256]=some (.bool true,[]):=by kernel_rfl
set_option maxRecDepth 1000000 in
theorem xM_chk:chkH xM 8192 256=true:=by kernel_rfl
theorem rMoveWrong {W:World} (hT:Tabs W) {h:Nat} (hh:h < 18446744073709551616):Calls Tryz.prog 3 #[.int .u64 (.ofNat h)] W fun e W'=>e = .returned (.bool true) ∧ Same W W':=by
 have hr:∃ h',run F1 cleanT (hookL h28b) 1000 3 [vU h] (⟨[],0⟩:Hp Ar)=some (.bool true,h'):=by
  by_cases e:h=256
  ·subst e; exact scriptZ_run sMG trivial
  ·have hf:=chk_find xM_chk hh e
   have ho:Ob.holds (hookL h28b) (.call 141 xM [vw4 8192,vU h] vE xM):=⟨hf.1,spHF,_,rfl,hf.2⟩
   refine scriptZ_run (sMW h) ⟨ho,ho,ho,ho,ho,ho,ho,ho,ho,ho,?_,trivial⟩
   show binVal .eql .no (vU h) (vU 256)=some (.bool false)
   have hn:¬ Int.ofNat h=Int.ofNat 256:=fun q=>e (Int.ofNat.inj q)
   have hb:(Int.ofNat h == Int.ofNat 256)=false:=by rw [beq_eq_false_iff_ne]; exact hn
   simp only [binVal,intBin,if_true,ieqF_eq,hb]
 obtain ⟨h',hr⟩:=hr
 have hC:=run_sound (E:=Ext1 (fun _ _=>False)) (esc:=escT) (clean:=cleanT) mixedZ (hookL_ok (h28b_ok hT)) 1000
 have hc:=calls_run hC ⟨_,_,Tryz.func3,rfl,by kernel_rfl⟩ hr (good_start W) (.cons (.of_flat (.int _ _)) .nil)
 refine calls_mono hc ?_
 rintro e W' ⟨v',ρ',rfl,h1,h2⟩
 exact ⟨by rw [h1.bool_inv],h2⟩
end Go.AI
