/- The law's frame; its acts. -/
import Derived.Test.YtodcomgkpifpfaaGreatDoorKTr
import Derived.Test.YtodcomgkpifpfaaGreatDoorKIf
import Derived.Test.YtodcomgkpifpfaaGreatDoorKOp
import Derived.Test.YtodcomgkpifpfaaGreatDoorKFo
namespace Go.AI
open Go.Proofs
open Go.Fo (Wd Un Pre)
variable {W0:World}{Cls:Nat→Int→Prop}{x:Ar}{S:List Nat}{off ka tb:Nat}{acts:List Value}{tbl:List (Nat×AObj Ar)}{nx:Nat}
abbrev qO:B3:=⟨2,3,241⟩
abbrev pO:Value:=.pointer (some ⟨241,0,none⟩)
abbrev trO:Value:=.agg ⟨[pO]⟩
structure Lw(S:List Nat)(off:Nat)(acts:List Value)(ka tb:Nat)(tbl:List (Nat×AObj Ar))(nx:Nat)(x:Ar):Prop where
 l0:look 0 tbl=some (.ro off acts)
 li:look 2 tbl=some (.ext x)
 lb:look 3 tbl=some (.cells (.pointer (some ⟨2,0,none⟩)::rbO))
 lr:look 241 tbl=some (.cells (.pointer (some ⟨3,0,none⟩)::rrO))
 la:look ka tbl=some (.grown 1 3 (S.map nI))
 lt:look tb tbl=some (.cells [pO])
 h1:249<ka
 h2:ka<tb
 h3:tb<nx
theorem Lw.cons(F:Lw S off acts ka tb tbl nx x){k nx':Nat}{o:AObj Ar}(h:tb<k)(h':tb<nx'):Lw S off acts ka tb ((k,o)::tbl) nx' x:=by
 have hk:∀j,j≤tb→look j ((k,o)::tbl)=look j tbl:=fun j hj=>by rw[zC,if_neg (by show¬j=k;omega)]
 have a:=F.h1
 have b:=F.h2
 exact⟨(hk _ (by omega)).trans F.l0,(hk _ (by omega)).trans F.li,(hk _ (by omega)).trans F.lb,(hk _ (by omega)).trans F.lr,(hk _ (by omega)).trans F.la,(hk _ (by omega)).trans F.lt,a,b,h'⟩
theorem Lw.set(F:Lw S off acts ka tb tbl nx x){x':Ar}{nx':Nat}(h':tb<nx'):Lw S off acts ka tb (upd 2 (.ext x') tbl) nx' x':=by
 have a:=F.h1
 have b:=F.h2
 have hk:∀j,j≠2→look j (upd 2 (AObj.ext x') tbl)=look j tbl:=fun j hj=>zU hj
 exact⟨(hk _ (by omega)).trans F.l0,zS F.li,(hk _ (by omega)).trans F.lb,(hk _ (by omega)).trans F.lr,(hk _ (by omega)).trans F.la,(hk _ (by omega)).trans F.lt,a,b,h'⟩
theorem Lw.up(F:Lw S off acts ka tb tbl nx x){nx':Nat}(h':nx≤nx'):Lw S off acts ka tb tbl nx' x:=⟨F.l0,F.li,F.lb,F.lr,F.la,F.lt,F.h1,F.h2,Nat.lt_of_lt_of_le F.h3 h'⟩
theorem lift_O{spec:Spec}{spec0:List Value→Option Value}{vs vs0:List Value}{v v0:Value}{x':Ar}(F:Lw S off acts ka tb tbl nx x)(hx:x.refuse<9223372036854775808)(h1:firstV vs=some 241)(h2:can3L qO vs=some vs0)(hs:spec x vs0=some (v0,x'))(hb:back3V qO v0=some v):liftR spec spec0 vs ⟨tbl,nx⟩=some (v,⟨upd 2 (.ext x') tbl,nx⟩) :=
 liftR_at (q:=qO) (rr:=rrO) (rb:=rbO) h1 (find3_at h1 F.lr F.lb F.li (by decide)) hx h2 rfl rfl hs hb
section
variable {F:Nat→Option IFn}{cl:Nat→Bool}{hk:Hook Ar}{n:Nat}{K:List (Nat×Value)→Mem Ar→Prop}{env:List (Nat×Value)}{l:List (Option (Nat×Bool)×IOp)}
theorem call_O{kf:Nat}{vs vs0:List Value}{v v0:Value}{x':Ar}{spec:Spec}{spec0:List Value→Option Value}(H:Lw S off acts ka tb tbl nx x)(hx:x.refuse<9223372036854775808)(hs:spec x vs0=some (v0,x'))(hh:hk kf=some (liftR spec spec0))(h1:firstV vs=some 241)(h2:can3L qO vs=some vs0)(hb:back3V qO v0=some v) :
  run F cl hk (n+1) kf (vs++(#[]:Array Value).toList) ⟨tbl,nx⟩=some (v,⟨upd 2 (.ext x') tbl,nx⟩):=by
 have he:vs++(#[]:Array Value).toList=vs:=List.append_nil vs
 rw[he,run_hook hh,lift_O H hx h1 h2 hs hb]
end
theorem look_ne{α:Type}{t k:Nat}{v:α}{e:List (Nat×α)}(h:t≠k):look t ((k,v)::e)=look t e:=by rw[zC,if_neg h]
theorem pv_conv{env:List (Nat×Value)}{x:Opd}{n:Nat}(hx:evo env x=some (.int .u8 (.ofNat n)))(hn:n<256):peval env (.conv .i64 x)=some (.int .i64 (.ofNat n)):=by
 have h:wrapF .i64 (.ofNat n) = .ofNat n:=wrap64 (by simp only[zO];omega) (by simp only[zO];omega)
 simp only[peval,hx,h]
theorem pv_rem{env:List (Nat×Value)}{e:EqK}{x y:Opd}{a b:Nat}(hx:evo env x=some (.int .i64 (.ofNat a)))(hy:evo env y=some (.int .i64 (.ofNat b)))(hb:0<b):peval env (.bin .rem e x y)=some (.int .i64 (.ofNat (a % b))):=by
 obtain⟨c,rfl⟩:∃c,b=c+1:=⟨b-1,by omega⟩
 have h3:Nat.mod a (c+1)=a % (c+1):=rfl
 simp only[peval,hx,hy,binVal,intBin,divF,if_true,h3,Option.map]
theorem pv_len{env:List (Nat×Value)}{x:Opd}{a:Option Addr}{n c:Nat}(hx:evo env x=some (.slice a n c)):peval env (.len x)=some (.int .i64 (.ofNat n)):=by
 simp only[peval,hx]
 rfl
theorem pv_faddZ{env:List (Nat×Value)}{o:Nat}{x:Opd}{i j:Nat}(hx:evo env x=some (.pointer (some ⟨i,j,none⟩))):peval env (.fadd o x)=some (.pointer (some ⟨i,j+o,none⟩)):=by
 simp only[peval,hx]
abbrev ActT:=Bool×Nat×Nat
def actC(a:ActT):List Value:=[.bool a.1,.int .u8 (.ofNat a.2.1),.int .u8 (.ofNat a.2.2)]
def actsC(l:List ActT):List Value:=l.flatMap actC
theorem acts_get:∀{l:List ActT} {i:Nat} {a:ActT},l[i]? = some a→takeN (actsC l) (i*3) 3=some (actC a)
 |[],i,a,h=>by simp at h
 |b::r,0,a,h=>by
  simp only[List.getElem?_cons_zero,zI] at h;subst h
  rfl
 |b::r,i+1,a,h=>by
  have ih:=acts_get (l:=r) (i:=i) (a:=a) (by simpa using h)
  have e:(actsC (b::r)).drop ((i+1)*3)=(actsC r).drop (i*3):=by
   have h1:actsC (b::r)=actC b++actsC r:=rfl
   rw[h1,List.drop_append]
   have h2:(actC b).length=3:=rfl
   rw[h2,List.drop_eq_nil_of_le (by rw[h2];omega),List.nil_append]
   congr 1;omega
  unfold takeN at ih ⊢
  rw[e];exact ih
theorem win_load{l:List ActT}{i:Nat}{a:ActT}(h0:look 0 tbl=some (.ro off (actsC l)))(h:l[i]? = some a):(⟨[],tbl,nx⟩:Mem Ar).load ⟨0,off+i*3,none⟩ 3=some (actC a):=by
 have hg:(⟨[],tbl,nx⟩:Mem Ar).get 0=some (.ro off (actsC l)):=h0
 have hb:Nat.ble off (off+i*3)=true:=by rw[Nat.ble_eq];omega
 have hs:Nat.sub (off+i*3) off=i*3:=by show off+i*3-off=i*3;omega
 simp only[Mem.load,hg,cellsO,winO,hb,cond_true,hs,acts_get h]
noncomputable def runOpen:List Value→Hp Ar→Option (Value×Hp Ar):=fun vs h=>run F1 cleanT (hookL h19a) 1000 6 vs h
noncomputable def hL(S:List Nat):List (HookF Ar):=(6,runOpen)::(5,constH (.bool true))::hT6 S
end Go.AI
/- The law's map;its subtrees. -/
namespace Go.AI
open Go.Proofs
open Go.Fo (Wd Un Pre Qof)
variable {W0:World}{Cls:Nat→Int→Prop}{x:Ar}{S:List Nat}{off ka tb mb:Nat}{acts:List Value}{tbl:List (Nat×AObj Ar)}{nx:Nat}
section
variable {call:CallFn Ar}{env:List (Nat×Value)}{m:Mem Ar}
end
end Go.AI
/- The law's subtree, child by child;its nodes, one by one. -/
namespace Go.AI
open Go.Proofs
open Go.Fo (Wd Un Pre Qof)
variable {W0:World}{Cls:Nat→Int→Prop}{x:Ar}{S:List Nat}{off ka tb mb:Nat}{acts:List Value}{tbl:List (Nat×AObj Ar)}{nx:Nat}
theorem TW.under(h:TW x S){a top:Nat}(ha:a∈S)(ht:top∈S){b:Bool}(hb:b=true↔Un (wds x S) top a):spTUnder S x [trC,vI a,vI top]=some (.bool b,x):=by
 classical
 have hc:TW x S∧a∈S∧top∈S:=⟨h,ha,ht⟩
 simp only[spTUnder,if_pos hc]
 congr 3
 cases b with
 |true=>exact decide_eq_true (hb.1 rfl)
 |false=>exact decide_eq_false fun hu=>by have:=hb.2 hu;cases this
end Go.AI
/- The law's nodes, one by one;its last count. -/
namespace Go.AI
open Go.Proofs
open Go.Fo (Wd Un Pre Qof)
variable {W0:World}{Cls:Nat→Int→Prop}{x:Ar}{S:List Nat}{off ka tb mb:Nat}{acts:List Value}{tbl:List (Nat×AObj Ar)}{nx:Nat}
theorem Lw.map(F:Lw S off acts ka tb tbl nx x){o:AObj Ar}(h:tb<mb):Lw S off acts ka tb (upd mb o tbl) nx x:=by
 have a:=F.h1
 have b:=F.h2
 have hk:∀j,j≤tb→look j (upd mb o tbl)=look j tbl:=fun j hj=>zU (by omega)
 exact⟨(hk _ (by omega)).trans F.l0,(hk _ (by omega)).trans F.li,(hk _ (by omega)).trans F.lb,(hk _ (by omega)).trans F.lr,(hk _ (by omega)).trans F.la,(hk _ (by omega)).trans F.lt,a,b,F.h3⟩
structure Ev(S:List Nat)(ka tb mb i:Nat)(e:Nat→Option Value):Prop where
 e6:e 6=some (.slice (some ⟨ka,0,none⟩) S.length S.length)
 e7:e 7=some (.bool true)
 e8:e 8=some (.pointer (some ⟨tb,0,none⟩))
 e11:e 11=some (.map (some mb))
 e83:e 83=some (.slice (some ⟨ka,0,none⟩) S.length S.length)
 e84:e 84=some (vI S.length)
 e85:e 85=some (vI i)
theorem Ev.of{i:Nat}{e e':Nat→Option Value}(h:Ev S ka tb mb i e)(h1:∀t,t<12→e' t=e t)(h2:∀t,82<t→t<86→e' t=e t):Ev S ka tb mb i e' :=
 ⟨(h1 _ (by decide)).trans h.e6,(h1 _ (by decide)).trans h.e7,(h1 _ (by decide)).trans h.e8,(h1 _ (by decide)).trans h.e11,(h2 _ (by decide) (by decide)).trans h.e83,(h2 _ (by decide) (by decide)).trans h.e84,(h2 _ (by decide) (by decide)).trans h.e85⟩
end Go.AI
/- The law as a whole. -/
namespace Go.AI
open Go.Proofs
open Go.Fo (Wd Un Pre Qof)
variable {W0:World}{Cls:Nat→Int→Prop}{x:Ar}{S:List Nat}{off ka tb mb:Nat}{acts:List Value}{tbl:List (Nat×AObj Ar)}{nx:Nat}
theorem of_run{hk:List (HookF Ar)}(hh:hookL hk 7=none){n r:Nat} :
  ∃u h',RF1 hk (n+1) 7 [.pointer (some ⟨r,0,none⟩)] ⟨tbl,nx⟩=some (u,h')∧(u = .agg ⟨[.pointer (some ⟨r,0,none⟩)]⟩∧h'=⟨(nx,.cells [.pointer (some ⟨r,0,none⟩)])::tbl,nx+1⟩):=by
 refine run_fn hh fOf (zL rfl) ?_
 dsimp only[iOf,argsE]
 refine WC.seq (WC.ops (WO.new (WO.nil (zN (WC.seq (WC.ops (WO.mv rfl (WO.pure rfl ?_))))))))
 refine WO.step (i:=.store 1 (.t 2) (.t 4)) (v:=undef) (m':=⟨[],(nx,.cells [.pointer (some ⟨r,0,none⟩)])::tbl,nx+1⟩) ?_ (WO.nil (zN (WC.ret ?_)))
 ·have hm:=mem_store (nx:=nx+1) (vs:=[.pointer (some ⟨r,0,none⟩)]) (o:=0) (ob':=.cells (splice [.pointer none] 0 [.pointer (some ⟨r,0,none⟩)])) (tbl:=(nx,.cells [.pointer none])::tbl) (i:=nx) (by rw[zC,if_pos rfl]) rfl (zL rfl) rfl
  rw[upd_head] at hm
  exact estep_store rfl rfl rfl rfl hm
 ·have hl:(⟨[],(nx,AObj.cells [.pointer (some ⟨r,0,none⟩)])::tbl,nx+1⟩:Mem Ar).load ⟨nx,0,none⟩ 1=some [.pointer (some ⟨r,0,none⟩)]:=mem_load (by rw[zC,if_pos rfl]) rfl rfl
  exact⟨_,_,resV_cell rfl hl rfl rfl,rfl,rfl,rfl⟩
end Go.AI
