/- What a law sees of a recycler's world. -/
import Derived.Test.YtohdfkipbgnkoaaGreatDoorKTr
import Derived.Test.YtohdfkipbgnkoaaGreatDoorKOp
import Derived.Test.YtohdfkipbgnkoaaGreatDoorKRf
import Derived.Test.YtohdfkipbgnkoaaGreatDoorKSp
import Derived.Test.YtohdfkipbgnkoaaGreatDoorKIf
set_option maxRecDepth 4000
namespace Go.AI
open Go.Proofs
open Go.Fo (Wd Un Pre)
variable {W0:World}{Cls:Nat→Int→Prop}{x:Ar}{S:List Nat}{off ka tb:Nat}{acts:List Value}{tbl:LO}{nx:Nat}
abbrev qO:B3:=⟨2,3,241⟩
abbrev pO:Value:=.pointer (some ⟨241,0,none⟩)
abbrev trO:Value:=.agg ⟨[pO]⟩
structure Lw(S:List Nat)(off:Nat)(acts:List Value)(ka tb:Nat)(tbl:LO)(nx:Nat)(x:Ar):Prop where
 l0:aa 0 tbl=some (.ro off acts)
 li:aa 2 tbl=some (.ext x)
 lb:aa 3 tbl=some (.cells (.pointer (some ⟨2,0,none⟩)::rbO))
 lr:aa 241 tbl=some (.cells (.pointer (some ⟨3,0,none⟩)::rrO))
 la:aa ka tbl=some (.grown 1 3 (S.map nI))
 lt:aa tb tbl=some (.cells [pO])
 h1:249<ka
 h2:ka<tb
 h3:tb<nx
theorem Lw.cons(F:Lw S off acts ka tb tbl nx x){k nx':Nat}{o:AObj Ar}(h:tb<k)(h':tb<nx'):Lw S off acts ka tb ((k,o)::tbl) nx' x:=by
 have hk:∀j,j≤tb→aa j ((k,o)::tbl)=aa j tbl:=fun j hj=>by rw[zC,if_neg (by show¬j=k;omega)]
 have a:=F.h1;have b:=F.h2;exact⟨(hk _ (by omega)).trans F.l0,(hk _ (by omega)).trans F.li,(hk _ (by omega)).trans F.lb,(hk _ (by omega)).trans F.lr,(hk _ (by omega)).trans F.la,(hk _ (by omega)).trans F.lt,a,b,h'⟩
theorem Lw.set(F:Lw S off acts ka tb tbl nx x){x':Ar}{nx':Nat}(h':tb<nx'):Lw S off acts ka tb (upd 2 (.ext x') tbl) nx' x':=by
 have a:=F.h1;have b:=F.h2;have hk:∀j,j≠2→aa j (upd 2 (AObj.ext x') tbl)=aa j tbl:=fun j hj=>zU hj
 exact⟨(hk _ (by omega)).trans F.l0,zS F.li,(hk _ (by omega)).trans F.lb,(hk _ (by omega)).trans F.lr,(hk _ (by omega)).trans F.la,(hk _ (by omega)).trans F.lt,a,b,h'⟩
theorem Lw.up(F:Lw S off acts ka tb tbl nx x){nx':Nat}(h':nx≤nx'):Lw S off acts ka tb tbl nx' x:=⟨F.l0,F.li,F.lb,F.lr,F.la,F.lt,F.h1,F.h2,Zj F.h3 h'⟩
section
variable {F:Nat→Option IFn}{cl:Nat→Bool}{hk:dS Ar}{n:Nat}{K:LV→Mem Ar→Prop}{env:LV}{l:List (Option (Nat×Bool)×IOp)}
end
theorem bc{α:Type}{t k:Nat}{v:α}{e:List (Nat×α)}(h:t≠k):aa t ((k,v)::e)=aa t e:=by rw[zC,if_neg h]
theorem np{env:LV}{x:Opd}{n:Nat}(hx:evo env x=some (.int .u8 (.ofNat n)))(hn:n<256):aw env (.conv .i64 x)=some (i0 n):=by
 have h:ai .i64 (.ofNat n) = .ofNat n:=gA (by simp only[zO];omega) (by simp only[zO];omega);simp only[aw,hx,h]
theorem uv{env:LV}{e:EqK}{x y:Opd}{a b:Nat}(hx:evo env x=some (i0 a))(hy:evo env y=some (i0 b))(hb:0<b):aw env (.bin .rem e x y)=some (i0 (a % b)):=by
 obtain⟨c,rfl⟩:∃c,b=c+1:=⟨b-1,by omega⟩;have h3:Nat.mod a (c+1)=a % (c+1):=rfl;simp only[aw,hx,hy,bu,bF,vq,if_true,h3,Option.map]
theorem uw{env:LV}{x:Opd}{a:Option Addr}{n c:Nat}(hx:evo env x=some (.slice a n c)):aw env (.len x)=some (i0 n):=by
 simp only[aw,hx];rfl
theorem ct{env:LV}{o:Nat}{x:Opd}{i j:Nat}(hx:evo env x=some (.pointer (some ⟨i,j,none⟩))):aw env (.fadd o x)=some (.pointer (some ⟨i,j+o,none⟩)):=by
 simp only[aw,hx]
end Go.AI
namespace Go.AI
open Go.Proofs
open Go.Fo (Wd Un Pre up)
variable {x x':Ar}{S:List Nat}{lm ow sm:Nat→Nat}{tbl t' t'':LO}{nx n' n'':Nat}
structure Rc(tbl:LO)(nx:Nat)(x:Ar):Prop where
 li:aa 2 tbl=some (.ext x)
 lb:aa 3 tbl=some (.cells (.pointer (some ⟨2,0,none⟩)::rbO))
 lr:aa 241 tbl=some (.cells (.pointer (some ⟨3,0,none⟩)::rrO))
 h:249<nx
def Kx(t:LO)(n:Nat)(x:Ar)(t':LO)(n':Nat):Prop:=n≤n'∧aa 2 t'=some (.ext x)∧∀j,j<n→j≠2→aa j t'=aa j t
theorem Rc.kx(F:Rc tbl nx x)(K:Kx tbl nx x' t' n'):Rc t' n' x':=by
 have h:=F.h;exact⟨K.2.1,(K.2.2 3 (by omega) (by decide)).trans F.lb,(K.2.2 241 (by omega) (by decide)).trans F.lr,Zj F.h K.1⟩
theorem Rc.kp(F:Rc tbl nx x)(K:Kp tbl nx t' n'):Rc t' n' x:=by
 have h:=F.h;exact⟨(K.2 2 (by omega)).trans F.li,(K.2 3 (by omega)).trans F.lb,(K.2 241 (by omega)).trans F.lr,Zj F.h K.1⟩
theorem Kp.kx(K:Kp tbl nx t' n')(F:Rc tbl nx x):Kx tbl nx x t' n':=by
 have h:=F.h;exact⟨K.1,(K.2 2 (by omega)).trans F.li,fun j hj _=>K.2 j hj⟩
theorem Kx.trans(a:Kx tbl nx x t' n')(b:Kx t' n' x' t'' n''):Kx tbl nx x' t'' n'':=⟨ZE a.1 b.1,b.2.1,fun j hj h=>(b.2.2 j (Zj hj a.1) h).trans (a.2.2 j hj h)⟩
theorem Kx.kp(a:Kx tbl nx x t' n')(b:Kp t' n' t'' n'')(h:2<n'):Kx tbl nx x t'' n'':=⟨ZE a.1 b.1,(b.2 2 h).trans a.2.1,fun j hj h=>(b.2 j (Zj hj a.1)).trans (a.2.2 j hj h)⟩
theorem Kx.set(F:Rc tbl nx x):Kx tbl nx x' (upd 2 (.ext x') tbl) nx:=⟨Ze _,zS F.li,fun j _ h=>zU h⟩
section
variable {F:Nat→Option IFn}{cl:Nat→Bool}{hk:dS Ar}{n:Nat}{K:LV→Mem Ar→Prop}{env:LV}{l:List (Option (Nat×Bool)×IOp)}
theorem HG{spec:Spec}{spec0:List Value→Option Value}{vs vs0:List Value}{v v0:Value}(H:Rc tbl nx x)(hx:x.refuse<9223372036854775808)(h1:eq vs=some 241)(h2:fZ qO vs=some vs0)(hs:spec x vs0=some (v0,x'))(hb:gR qO v0=some v) :
  cH spec spec0 vs ⟨tbl,nx⟩=some (v,⟨upd 2 (.ext x') tbl,nx⟩) :=
 vh (q:=qO) (rr:=rrO) (rb:=rbO) h1 (qP h1 H.lr H.lb H.li (by decide)) hx h2 rfl rfl hs hb
theorem jc{kf:Nat}{vs vs0:List Value}{v v0:Value}{spec:Spec}{spec0:List Value→Option Value}(H:Rc tbl nx x)(hx:x.refuse<9223372036854775808)(hs:spec x vs0=some (v0,x'))(hh:hk kf=some (cH spec spec0))(h1:eq vs=some 241)(h2:fZ qO vs=some vs0)(hb:gR qO v0=some v) :
  run F cl hk (n+1) kf (vs++(#[]:Array Value).toList) ⟨tbl,nx⟩=some (v,⟨upd 2 (.ext x') tbl,nx⟩):=by
 have he:vs++(#[]:Array Value).toList=vs:=List.append_nil vs;rw[he,fQ hh,HG H hx h1 h2 hs hb]
theorem WO.rdR{d:Option Nat}{f:Opd}{xs:List Opd}{kf:Nat}{vs vs0:List Value}{v v0:Value}{spec:Spec}{spec0:List Value→Option Value}(H:Rc tbl nx x)(hx:x.refuse<9223372036854775808)
  (hs:spec x vs0=some (v0,x)) (hf:evo env f=some (.func (.func kf) #[] #[])) (hxs:evs env xs=some vs) (hh:hk kf=some (cH spec spec0)) (h1:eq vs=some 241) (h2:fZ qO vs=some vs0)
  (hb:gR qO v0=some v) (k:WO (run F cl hk (n+1)) l (bD d v env) ⟨[],tbl,nx⟩ K):WO (run F cl hk (n+1)) ((none,.call d f xs)::l) env ⟨[],tbl,nx⟩ K:=by
 refine .BY (v:=v) (h:=⟨tbl,nx⟩) hf hxs ?_ k;have h:=jc (F:=F) (cl:=cl) (hk:=hk) (n:=n) H hx hs hh h1 h2 hb;rw[iV H.li] at h;exact h
theorem WO.wrR{d:Option Nat}{f:Opd}{xs:List Opd}{kf:Nat}{vs vs0:List Value}{v v0:Value}{spec:Spec}{spec0:List Value→Option Value}(H:Rc tbl nx x)(hx:x.refuse<9223372036854775808)
  (hs:spec x vs0=some (v0,x')) (hf:evo env f=some (.func (.func kf) #[] #[])) (hxs:evs env xs=some vs) (hh:hk kf=some (cH spec spec0)) (h1:eq vs=some 241) (h2:fZ qO vs=some vs0)
  (hb:gR qO v0=some v) (k:WO (run F cl hk (n+1)) l (bD d v env) ⟨[],upd 2 (.ext x') tbl,nx⟩ K):WO (run F cl hk (n+1)) ((none,.call d f xs)::l) env ⟨[],tbl,nx⟩ K :=
 .BY (v:=v) (h:=⟨upd 2 (.ext x') tbl,nx⟩) hf hxs (jc (F:=F) (cl:=cl) (hk:=hk) (n:=n) H hx hs hh h1 h2 hb) k
end
theorem uZ{v:Nat}(h:v<9223372036854775808):ai .i64 (.ofNat v) = .ofNat v:=gA (by simp only[zO];omega) (by simp only[zO];omega)
theorem LW.get(h:LW x S lm ow sm){a f v:Nat}(ha:a∈S)(hf:f=6∧v=lm a∨f=7∧v=ow a∨f=8∧v=sm a)(hv:v<9223372036854775808):lU x [trC,vI a,vI f]=some (vI v,x):=by
 have h0:dX x (.ofNat a)=some 0:=(h.tw.node a ha).ok;have hw:wd x (a+32+8*f)=v:=by
  rcases hf with⟨rfl,rfl⟩|⟨rfl,rfl⟩|⟨rfl,rfl⟩
  ·exact h.lx.l a ha
  ·exact h.lx.o a ha
  ·exact h.lx.s a ha
 have hc:wA f=true:=by rcases hf with⟨rfl,_⟩|⟨rfl,_⟩|⟨rfl,_⟩<;>rfl
 simp only[lU,hc,cond_true,dT,h0,BF,hw,uZ hv]
theorem LW.nat(h:LW x S lm ow sm){a:Nat}(ha:a∈S):aZ x [pR,vI a]=some (.tuple ⟨[ndC a (ckW x a),ah 0]⟩,x):=dE (h.tw.node a ha).ok
theorem LW.nset(h:LW x S lm ow sm){a f v:Nat}(ha:a∈S)(hf:f=6∨f=7∨f=8)(hv:v<18446744073709551616):mf x [ndC a (ckW x a),vI f,.int .u64 (.ofNat v)]=some (.tuple ⟨[]⟩,stw x (a+(32+8*f)) v):=by
 have h0:dX x (.ofNat a)=some 0:=(h.tw.node a ha).ok;have hc:wA f=true:=by rcases hf with rfl|rfl|rfl<;>rfl
 have hv':Nat.blt v 18446744073709551616=true:=by rw[aD];exact Zh hv
 have hb:Nat.ble 32 (a+32)=true:=by rw[Zk];omega
 have e1:a+32-32=a:=Nat.add_sub_cancel ..;simp only[mf,hc,hv',hb,e1,eS,Bool.and_self,cond_true,h0,Nat.add_assoc]
end Go.AI
namespace Go.AI
open Go.Proofs
open Go.Fo (Wd Un Pre up)
open Classical
variable {x x':Ar}{S:List Nat}{lm ow sm:Nat→Nat}{tbl t' t'':LO}{nx n' n'':Nat}
structure LHk(hk:List (aK Ar))(S:List Nat):Prop where
 get:∃z,ab hk 27=some (cH lU z)
 nat:∃z,ab hk 28=some (cH aZ z)
 nset:∃z,ab hk 35=some (cH mf z)
 par:∃z,ab hk 10=some (cH cq z)
 und:∃z,ab hk 29=some (cH (dL S) z)
 add:∃z,ab hk 31=some (cH (gS S) z)
 cut:∃z,ab hk 34=some (cH (kK S) z)
 own:ab hk 37=none
 sum:ab hk 11=none
 lim:ab hk 58=none
 sums:ab hk 32=none
 fits:ab hk 33=none
 takes:ab hk 30=none
 lcut:ab hk 22=none
theorem bxk{o:AObj Ar}:Kp tbl nx ((nx,o)::tbl) (nx+1):=Kp.refl.cons (Ze _) (Zo _)
theorem bxl{o:AObj Ar}:aa nx ((nx,o)::tbl)=some o:=by rw[zC,if_pos rfl]
theorem wH{hk:List (aK Ar)}(hh:LHk hk S){n a:Nat}(R:Rc tbl nx x)(h:LW x S lm ow sm)(ha:a∈S)(hv:ow a<9223372036854775808) :
  ∃u h',RF1 hk (n+2) 37 [trO,vI a] ⟨tbl,nx⟩=some (u,h')∧(u=vI (ow a)∧Kp tbl nx h'.tbl h'.next):=by
 obtain⟨_,hg⟩:=hh.get;refine aG hh.own O6 (zL rfl) ?_;dsimp only[JC,aM];refine sQ (WO.box (v:=trO) (cs:=[pO]) rfl rfl (WO.mv rfl (nZ (sQ ?_))));refine WO.load (v:=trO) rfl bxl rfl rfl rfl (WO.mv rfl ?_);refine WO.rdR (R.kp bxk) h.tw.ref (h.get ha (f:=7) (v:=ow a) (by simp) hv) rfl rfl hg rfl rfl rfl ?_;exact WO.mv rfl (nZ (WC.ret ⟨_,_,rfl,rfl,rfl,bxk⟩))
theorem cO{hk:List (aK Ar)}(hh:LHk hk S){n a:Nat}(R:Rc tbl nx x)(h:LW x S lm ow sm)(ha:a∈S)(hv:sm a<9223372036854775808) :
  ∃u h',RF1 hk (n+2) 11 [trO,vI a] ⟨tbl,nx⟩=some (u,h')∧(u=vI (sm a)∧Kp tbl nx h'.tbl h'.next):=by
 obtain⟨_,hg⟩:=hh.get;refine aG hh.sum O9 (zL rfl) ?_;dsimp only[JL,aM];refine sQ (WO.box (v:=trO) (cs:=[pO]) rfl rfl (WO.mv rfl (nZ (sQ ?_))));refine WO.load (v:=trO) rfl bxl rfl rfl rfl (WO.mv rfl ?_);refine WO.rdR (R.kp bxk) h.tw.ref (h.get ha (f:=8) (v:=sm a) (by simp) hv) rfl rfl hg rfl rfl rfl ?_;exact WO.mv rfl (nZ (WC.ret ⟨_,_,rfl,rfl,rfl,bxk⟩))
theorem Hb{env:LV}{e:EqK}{x:Opd}{m:Nat}(hx:evo env x=some (i0 (m+1)))(hm:m<9223372036854775807):aw env (.bin .sub e x (.c (i0 1)))=some (i0 m):=by
 have h1:(Int.ofNat (m+1))-(Int.ofNat 1)=Int.ofNat m:=by simp only[zO];omega
 have h2:ai .i64 (.ofNat m) = .ofNat m:=gA (by simp only[zO];omega) (by simp only[zO];omega);have e1:evo env (.c (i0 1))=some (i0 1):=rfl;simp only[aw,hx,e1,bu,bF,if_true,h1,h2]
theorem zP{env:LV}{y:Opd}{m:Nat}(hy:evo env y=some (i0 m)):aw env (.max [.c (i0 0),y])=some (i0 m):=by
 have e1:evo env (.c (i0 0))=some (i0 0):=rfl;simp only[aw,evs,e1,hy,nD];cases m with
 |zero=>rfl
 |succ m=>rfl
theorem qR{hk:List (aK Ar)}(hh:LHk hk S){n a:Nat}(R:Rc tbl nx x)(h:LW x S lm ow sm)(ha:a∈S)(hv:lm a<9223372036854775807) :
  ∃u h',RF1 hk (n+2) 58 [trO,vI a] ⟨tbl,nx⟩=some (u,h')∧(u = .tuple ⟨[vI (lm a-1),.bool (decide (0<lm a))]⟩∧Kp tbl nx h'.tbl h'.next):=by
 obtain⟨_,hg⟩:=hh.get;refine aG hh.lim Jk (zL rfl) ?_;dsimp only[zc,aM];refine sQ (WO.box (v:=trO) (cs:=[pO]) rfl rfl (WO.mv rfl (WO.mv rfl (nZ (sQ ?_)))));refine WO.load (v:=trO) rfl bxl rfl rfl rfl (WO.mv rfl ?_);refine WO.rdR (R.kp bxk) h.tw.ref (h.get ha (f:=6) (v:=lm a) (by simp) (Zv hv (by decide))) rfl rfl hg rfl rfl rfl ?_;refine WO.mv rfl (nZ (sQ (WO.mv rfl ?_)));generalize hm:lm a=m at hv ⊢;cases m with
 |zero =>
  refine WO.pure (v:=.int .i64 (.negSucc 0)) rfl (WO.pure (v:=vI 0) rfl (WO.mv rfl (WO.pure (v:=.bool false) rfl (WO.mv rfl (WO.mv rfl (nZ (WC.ret ?_)))))));exact⟨_,_,rfl,rfl,rfl,bxk⟩
 |succ m =>
  refine WO.pure (Hb rfl (by omega)) (WO.pure (zP rfl) (WO.mv rfl (WO.k rfl rfl (fun _=>?_) (fun hz=>?_))))
  ·refine WO.mv rfl (WO.mv rfl (nZ (WC.ret ?_)));exact⟨_,_,rfl,rfl,by rw[Zh (Nat.succ_pos m)];rfl,bxk⟩
  ·exfalso;simp only[zO] at hz;omega
end Go.AI
namespace Go.AI
open Go.Proofs
open Go.Fo (Wd Un Pre up)
open Classical
variable {x x':Ar}{S:List Nat}{lm ow sm:Nat→Nat}{tbl t' t'':LO}{nx n' n'':Nat}
theorem LW.congr{sm':Nat→Nat}(h:LW x S lm ow sm)(e:∀a,a∈S→sm' a=sm a):LW x S lm ow sm':=⟨h.tw,h.lx.nds,h.lx.l,h.lx.o,fun a ha=>(h.lx.s a ha).trans (e a ha).symm⟩
noncomputable def rS(w:Wd)(sm:Nat→Nat)(a:Nat)(k:Int):Nat→Nat:=fun z=>if Un w z a then((sm z:Int)+k).toNat else sm z
abbrev ndL(a w:Nat):List Value:=[pO,.pointer (some ⟨2,0,none⟩),i0 (a+160),i0 32,.int .u64 (.ofNat w),.pointer (some ⟨2,0,none⟩),i0 (a+160),i0 32,i0 1024,.pointer (some ⟨2,0,none⟩),i0 (a+32),i0 992]
abbrev N1:List Value:=[.pointer none,.pointer none,i0 0,i0 0,.int .u64 (.ofNat 0),.pointer none,i0 0,i0 0,i0 0,.pointer none,i0 0,i0 0]
theorem ke{a w:Nat}:(⟨[],(nx,AObj.cells N1)::tbl,nx+1⟩:Mem Ar).store ⟨nx,0,none⟩ (ndL a w)=some ⟨[],(nx,.cells (ndL a w))::tbl,nx+1⟩:=by
 have hm:=ba (nx:=nx+1) (vs:=ndL a w) (o:=0) (ob':=.cells (ndL a w)) (tbl:=(nx,.cells N1)::tbl) (i:=nx) bxl rfl (zL rfl) rfl;rwa [cw] at hm
theorem tQ{env:LV}{e:EqK}{x y:Opd}{a v:Nat}{k:Int}(hx:evo env x=some (i0 a))(hy:evo env y=some (.int .i64 k))(h:(a:Int)+k=v)(hv:v<9223372036854775808):aw env (.bin .add e x y)=some (i0 v):=by
 have h1:(Int.ofNat a)+k=Int.ofNat v:=h;simp only[aw,hx,hy,bu,bF,if_true,h1,uZ hv]
theorem tN{env:LV}{x:Opd}{v:Nat}(hx:evo env x=some (i0 v))(hv:v<18446744073709551616):aw env (.conv .u64 x)=some (.int .u64 (.ofNat v)):=by
 simp only[aw,hx,fb hv]
theorem Ac{a w:Nat}:dC (ndL a w) (ndL a w)=true:=by simp[dC,ceq,eS]
theorem fp:dC [pO] [pO]=true:=rfl
theorem kU{hk:List (aK Ar)}(hh:LHk hk S)(hS:S.length<800){n a0:Nat}{k:Int}(hn:1001≤n)(R:Rc tbl nx x)(h:LW x S lm ow sm)(ha:a0∈S)(hv:∀z,z∈S→sm z<9223372036854775808)
  (hf:∀z,z∈S→Un (wds x S) z a0→0≤(sm z:Int)+k∧(sm z:Int)+k<9223372036854775808) :
  ∃u h',RF1 hk (n+3) 32 [trO,vI a0,.int .i64 k] ⟨tbl,nx⟩=some (u,h')∧(∃x',LW x' S lm ow (rS (wds x S) sm a0 k)∧wds x' S=wds x S∧Kx tbl nx x' h'.tbl h'.next):=by
 obtain⟨_,hnat⟩:=hh.nat;obtain⟨_,hset⟩:=hh.nset;obtain⟨_,hpar⟩:=hh.par;obtain⟨d,I⟩:=h.tw.inv;have hnx:249<nx:=R.h;refine aG hh.sums KW (zL rfl) ?_;dsimp only[Dz,aM];refine sQ (WO.box (v:=trO) (cs:=[pO]) rfl rfl (nZ (WC.block ?_)));generalize hw:wds x S=w at I hf ⊢;have Rb:=R.kp (bxk (o:=AObj.cells [pO]));refine WC.loop (fun j e tb nb=>∃x1 cur,(cur≠0→cur∈S∧Un w cur a0)∧j=(if cur=0 then 0 else d cur+1)∧e 1=some (vI cur)∧e 2=some (.int .i64 k)∧e 3=some (.pointer (some ⟨nx,0,none⟩)) ∧
   LW x1 S lm ow (fun z=>if Un w z a0∧¬(cur≠0∧Un w z cur) then((sm z:Int)+k).toNat else sm z)∧wds x1 S=w∧Kx ((nx,.cells [pO])::tbl) (nx+1) x1 tb nb) (k:=d a0+1) (by have:=I.lt ha;omega)
  ⟨x,a0,fun _=>⟨ha,.refl⟩,by rw[if_neg (I.ne0 ha)],rfl,rfl,rfl,h.congr fun z _=>by rw[if_neg fun q=>q.2 ⟨I.ne0 ha,q.1⟩],hw,Kp.refl.kx Rb⟩ ?_
 rintro j e tb nb ⟨x1,cur,hc,hj,e1,e2,e3,h1,hw1,hK⟩;dsimp only at e1 e2 e3;have R1:=Rb.kx hK;have hbx:aa nx tb=some (.cells [pO]):=(hK.2.2 nx (ZF _) (by omega)).trans bxl;have hnb:nx+1≤nb:=hK.1;refine WC.seq (sQ (WO.mv e1 (WO.e rfl rfl (fun hz=>?_) (fun hz=>?_))))
 ·have h0:cur≠0:=fun q=>hz (by rw[q])
  obtain⟨hcS,hcU⟩:=hc h0;rw[if_neg h0] at hj;refine nZ (WC.cond_true rfl (WC.skip (zN (WC.seq (WC.block (sQ ?_))))));refine WO.fadd e3 (WO.fadd rfl (WO.load (v:=pO) rfl hbx rfl rfl rfl (WO.mv e1 ?_)));refine WO.rdR R1 h1.tw.ref (h1.nat hcS) rfl rfl hnat rfl rfl rfl ?_;refine WO.mv rfl (WO.pure (v:=.agg ⟨ndL cur (ckW x1 cur)⟩) rfl (WO.pure (v:=vI 0) rfl (WO.new (WO.step (i:=.store 12 (.t 6) (.t 20)) (v:=undef) (m':=⟨[],(nb,.cells (ndL cur (ckW x1 cur)))::tb,nb+1⟩) (aJ (vs:=ndL cur (ckW x1 cur)) rfl rfl rfl rfl ke) ?_))));refine WO.mv rfl (nZ (WC.a ?_));have R2:=R1.kp (bxk (o:=AObj.cells (ndL cur (ckW x1 cur))));have lA:aa nb ((nb,AObj.cells (ndL cur (ckW x1 cur)))::tb)=some (.cells (ndL cur (ckW x1 cur))):=bxl;have lB:aa nx ((nb,AObj.cells (ndL cur (ckW x1 cur)))::tb)=some (.cells [pO]):=by rw[zC,if_neg (by show¬nx=nb;omega)];exact hbx
  have K2:Kp tb nb ((nb,AObj.cells (ndL cur (ckW x1 cur)))::tb) (nb+1):=bxk;generalize ht2:((nb,AObj.cells (ndL cur (ckW x1 cur)))::tb)=t2 at R2 lA lB K2 ⊢;have hsm:(if Un w cur a0∧¬(cur≠0∧Un w cur cur) then((sm cur:Int)+k).toNat else sm cur)=sm cur:=if_neg fun q=>q.2 ⟨h0,.refl⟩
  obtain⟨q1,q2⟩:=hf cur hcS hcU;obtain⟨v,hvk⟩:∃v:Nat,(sm cur:Int)+k=v:=⟨((sm cur:Int)+k).toNat,by omega⟩;have hv63:v<9223372036854775808:=by omega
  have R2':Rc t2 (nb+1+8) x1:=⟨R2.li,R2.lb,R2.lr,by have:=R2.h;omega⟩;obtain⟨u,⟨t3,n3⟩,hd1,rfl,k3⟩:=cO hh (n:=n) R2' h1 hcS (by rw[hsm];exact hv cur hcS);rw[hsm] at hd1;dsimp only at k3;have g3:=k3.1;have R3:=R2'.kp k3;have lA3:=(k3.2 nb (by omega)).trans lA;have lB3:=(k3.2 nx (by omega)).trans lB;have hc2:=jc (F:=FA) (cl:=fun _=>false) (hk:=ab hk) (n:=n+1) (vs:=[.agg ⟨ndL cur (ckW x1 cur)⟩,vI 8,.int .u64 (.ofNat v)]) (v:=.tuple ⟨[]⟩) R3 h1.tw.ref (h1.nset hcS (f:=8) (v:=v) (by omega) (by omega)) hset rfl rfl rfl;obtain⟨h2,hw2⟩:=h1.set (o:=96) (v:=v) (lm':=lm) (ow':=ow) hcS (by omega) (.inr (.inr ⟨rfl,rfl,rfl,rfl⟩));rw[show cur+(32+8*8)=cur+96 from rfl] at hc2;generalize hx2:stw x1 (cur+96) v=x2 at hc2 h2 hw2;have lA4:aa nb (upd 2 (AObj.ext x2) t3)=some (.cells (ndL cur (ckW x1 cur))):=(zU (by omega)).trans lA3;have lB4:aa nx (upd 2 (AObj.ext x2) t3)=some (.cells [pO]):=(zU (by omega)).trans lB3;have xa:∀m,(⟨[],t2,m⟩:Mem Ar).load ⟨nb,0,none⟩ 12=some (ndL cur (ckW x1 cur)):=fun m=>ae lA rfl rfl
  have xa3:(⟨[],t3,n3⟩:Mem Ar).load ⟨nb,0,none⟩ 12=some (ndL cur (ckW x1 cur)):=ae lA3 rfl rfl;have xa4:(⟨[],upd 2 (AObj.ext x2) t3,n3⟩:Mem Ar).load ⟨nb,0,none⟩ 12=some (ndL cur (ckW x1 cur)):=ae lA4 rfl rfl;have xb:∀m,(⟨[],t2,m⟩:Mem Ar).load ⟨nx,0,none⟩ 1=some [pO]:=fun m=>ae lB rfl rfl
  have xb3:(⟨[],t3,n3⟩:Mem Ar).load ⟨nx,0,none⟩ 1=some [pO]:=ae lB3 rfl rfl;have xb4:(⟨[],upd 2 (AObj.ext x2) t3,n3⟩:Mem Ar).load ⟨nx,0,none⟩ 1=some [pO]:=ae lB4 rfl rfl;refine WD.load (m:=⟨[],t2,nb+1+8⟩) (ms:=[]) (v:=.agg ⟨ndL cur (ckW x1 cur)⟩) rfl (xa _) rfl (WD.load (m:=⟨[],t2,nb+1+8⟩) (ms:=[]) (v:=trO) (az e3 rfl rfl) (xb _) rfl (WD.pure (az e1 rfl rfl) ?_));refine WD.chn (m:=⟨[],t2,nb+1+8⟩) (m':=⟨[],t3,n3⟩) (v:=vI (sm cur)) rfl rfl rfl (aW (m:=⟨[],t2,nb+1+8⟩) (h:=⟨t3,n3⟩) (vs:=[trO,vI cur]) rfl rfl hd1) ?_;refine WD.pure (az e2 rfl rfl) (WD.pure (v:=vI v) (tQ rfl rfl hvk hv63) (WD.pure (v:=.int .u64 (.ofNat v)) (tN rfl (by omega)) ?_));refine WD.chn (m:=⟨[],t3,n3⟩) (m':=⟨[],upd 2 (AObj.ext x2) t3,n3⟩) rfl rfl rfl (aW (m:=⟨[],t3,n3⟩) (h:=⟨upd 2 (AObj.ext x2) t3,n3⟩) (vs:=[.agg ⟨ndL cur (ckW x1 cur)⟩,vI 8,.int .u64 (.ofNat v)]) rfl rfl hc2) ?_;refine WD.nil ⟨?_,_,_,rfl,?_⟩
  ·simp only[bi,bn,xa,xa3,xa4,xb,xb3,xb4,Ac,fp];rfl
  have R4:Rc (upd 2 (AObj.ext x2) t3) n3 x2:=R3.kx (Kx.set R3);refine zB (zN (WC.ops ?_));refine WO.fadd (m:=⟨[],upd 2 (AObj.ext x2) t3,n3⟩) e3 (WO.load (v:=trO) rfl lB4 rfl rfl rfl (WO.mv e1 ?_));have hp:=h2.tw.par hcS;rw[hw2,hw1] at hp;refine WO.rdR R4 h2.tw.ref hp rfl rfl hpar rfl rfl rfl (WO.mv rfl (WO.nil ?_));refine⟨if w.par cur=0 then 0 else d (w.par cur)+1,?_,rfl,x2,w.par cur,fun q=>⟨(I.par cur hcS q).1,hcU.trans (.up q .refl)⟩,rfl,rfl,e2,e3,h2.congr fun z hz=>?_,hw2.trans hw1,?_⟩
  ·rw[hj];by_cases q:w.par cur=0
   ·rw[if_pos q];omega
   ·rw[if_neg q,I.dep cur hcS q];omega
  ·by_cases e:z=cur
   ·subst e;rw[Go.Fo.up_same,if_pos ⟨hcU,fun q=>I.Qy hcS q.1 q.2⟩,hvk];rfl
   ·rw[Go.Fo.up_ne e];have q:Un w z cur↔(w.par cur≠0∧Un w z (w.par cur)):=by
     rw[Go.Fo.un_step];exact⟨fun q=>q.resolve_left e,.inr⟩
    simp only[h0,ne_eq,not_false_eq_true,true_and,q]
  ·exact hK.trans (((K2.up (Zn _ 8)).trans k3).kx R1 |>.trans (Kx.set R3))
 ·have h0:cur=0:=Zx hz;refine nZ (WC.cond_false rfl (WC.exit (aR (aI ?_))));refine⟨_,_,rfl,rfl,x1,h1.congr fun z _=>?_,hw1,?_⟩
  ·subst h0;unfold rS;simp only[ne_eq,not_true_eq_false,false_and,not_false_eq_true,and_true]
  ·exact(bxk.kx R).trans hK
end Go.AI
namespace Go.AI
open Go.Proofs
open Go.Fo (Wd Un Pre up)
open Classical
variable {x x':Ar}{S:List Nat}{lm ow sm:Nat→Nat}{tbl t' t'':LO}{nx n' n'':Nat}
def Cx(w:Wd)(S:List Nat)(lm sm:Nat→Nat)(a k:Nat):Prop:=∀z,z∈S→Un w z a→lm z=0∨sm z+k+1≤lm z
theorem tD{hk:List (aK Ar)}(hh:LHk hk S)(hS:S.length<800){n a0 k:Nat}(hn:1001≤n)(R:Rc tbl nx x)(h:LW x S lm ow sm)(ha:a0∈S)(hv:∀z,z∈S→sm z<4611686018427387904)(hl:∀z,z∈S→lm z<9223372036854775807)(hk0:k<4611686018427387904) :
  ∃u h',RF1 hk (n+3) 33 [trO,vI a0,vI k] ⟨tbl,nx⟩=some (u,h')∧(u = .bool (decide (k≤4294967296∧Cx (wds x S) S lm sm a0 k))∧Kp tbl nx h'.tbl h'.next):=by
 obtain⟨_,hnat⟩:=hh.nat;obtain⟨_,hpar⟩:=hh.par;obtain⟨d,I⟩:=h.tw.inv;have hnx:249<nx:=R.h;have hp0:=fun a (ha:a∈S)=>h.tw.par ha
 refine aG hh.fits MS (zL rfl) ?_;dsimp only[DD,aM];generalize hw:wds x S=w at I hp0 ⊢;refine sQ (WO.box (v:=trO) (cs:=[pO]) rfl rfl (WO.mv rfl (nZ (WC.seq (sQ ?_)))));have Rb:=R.kp (bxk (o:=AObj.cells [pO]));have hb0:aa nx ((nx,AObj.cells [pO])::tbl)=some (.cells [pO]):=bxl;have Kb:Kp tbl nx ((nx,AObj.cells [pO])::tbl) (nx+1):=bxk;refine WO.fadd rfl (WO.fadd rfl (WO.load (v:=pO) rfl hb0 rfl rfl rfl (WO.mv rfl ?_)));refine WO.rdR Rb h.tw.ref (h.nat ha) rfl rfl hnat rfl rfl rfl ?_;refine WO.mv rfl (WO.pure (v:=.agg ⟨ndL a0 (ckW x a0)⟩) rfl (WO.pure (v:=vI 0) rfl (WO.new (WO.step (i:=.store 12 (.t 7) (.t 17)) (v:=undef) (m':=⟨[],(nx+1,.cells (ndL a0 (ckW x a0)))::(nx,.cells [pO])::tbl,nx+1+1⟩) (aJ (vs:=ndL a0 (ckW x a0)) rfl rfl rfl rfl ke) ?_))));have Kb2:=Kb.trans (bxk (o:=AObj.cells (ndL a0 (ckW x a0))));have Rb2:=R.kp Kb2;have hb2:aa nx ((nx+1,AObj.cells (ndL a0 (ckW x a0)))::(nx,.cells [pO])::tbl)=some (.cells [pO]):=by rw[zC,if_neg (by show¬nx=nx+1;omega)];exact hb0
 generalize ht0:((nx+1,AObj.cells (ndL a0 (ckW x a0)))::(nx,.cells [pO])::tbl)=t0 at Kb2 Rb2 hb2 ⊢;refine WO.mv rfl (nZ (sQ (WO.mv rfl (WO.pure (v:=.bool false) rfl (WO.mv rfl (WO.take rfl rfl (WO.mv rfl (WO.take rfl rfl (WO.j rfl rfl (fun hz=>?_) (fun _=>?_))))))))))
 ·exfalso;simp only[zO] at hz;omega
 refine WO.pure (v:=.bool false) rfl (WO.mv rfl (WO.take rfl rfl (WO.mv rfl (WO.take rfl rfl (WO.k rfl rfl (fun hz=>?_) (fun hz=>?_))))))
 ·refine WO.pure (v:=.bool true) rfl (nZ (WC.cond_true rfl (sQ (WO.mv rfl (nZ (WC.ret (aB ⟨_,_,rfl,rfl,?_,Kb2⟩)))))));have:¬(k≤4294967296∧Cx w S lm sm a0 k):=fun q=>by have:=q.1;simp only[zO] at hz;omega
  rw[Zs this]
 have hk32:k≤4294967296:=by simp only[zO] at hz;omega
 refine WO.pure (v:=.bool false) rfl (nZ (cF rfl (WC.seq (WC.block ?_))));refine WC.loop (fun j e tb nb=>∃cur,(cur≠0→cur∈S∧Un w cur a0)∧j=(if cur=0 then 0 else d cur+1)∧e 1=some (vI cur)∧e 2=some (vI k)∧e 3=some (.pointer (some ⟨nx,0,none⟩)) ∧
   (∀z,z∈S→Un w z a0→(cur≠0∧Un w z cur)∨(lm z=0∨sm z+k+1≤lm z))∧Kp t0 (nx+1+1) tb nb) (k:=d a0+1) (by have:=I.lt ha;omega)
  ⟨a0,fun _=>⟨ha,.refl⟩,by rw[if_neg (I.ne0 ha)],rfl,rfl,rfl,fun z _ hz=>.inl ⟨I.ne0 ha,hz⟩,Kp.refl⟩ ?_
 rintro j e tb nb ⟨cur,hc,hj,e1,e2,e3,hf,hK⟩;dsimp only at e1 e2 e3;have R1:=Rb2.kp hK;have hbx:aa nx tb=some (.cells [pO]):=(hK.2 nx (by omega)).trans hb2;refine WC.seq (sQ (WO.mv e1 (WO.e rfl rfl (fun hz=>?_) (fun hz=>?_))))
 ·have h0:cur≠0:=fun q=>hz (by rw[q])
  obtain⟨hcS,hcU⟩:=hc h0;rw[if_neg h0] at hj
  -- what comes behind the check
  have next:lm cur=0∨sm cur+k+1≤lm cur→∀(Q:Ex→LV→Mem Ar→Prop) (e':LV) (tb':LO) (nb':Nat),aa 1 e'=some (vI cur)→aa 2 e'=some (vI k)→aa 3 e'=some (.pointer (some ⟨nx,0,none⟩))→Kp tb nb tb' nb' →
    (∀e'' tb'' nb'' j' cur',j'<j→(cur'≠0→cur'∈S∧Un w cur' a0)→j'=(if cur'=0 then 0 else d cur'+1)→aa 1 e''=some (vI cur')→aa 2 e''=some (vI k)→aa 3 e''=some (.pointer (some ⟨nx,0,none⟩))→(∀z,z∈S→Un w z a0→(cur'≠0∧Un w z cur')∨(lm z=0∨sm z+k+1≤lm z))→Kp t0 (nx+1+1) tb'' nb''→Q .norm e'' ⟨[],tb'',nb''⟩) →
    WC (RF1 hk (n+2)) (n+2) (.ops [(none,.pure 31 (.fadd 0 (.t 3))),(none,.load 32 1 true (.t 31)),(none,.pure 33 (.mv (.t 1))),(none,.call (some 34) (.c (.func (.func 10) (.mk []) (.mk []))) [.t 32,.t 33]),(none,.pure 1 (.mv (.t 34)))]) e' ⟨[],tb',nb'⟩ Q:=by
   intro hfit Q e' tb' nb' f1 f2 f3 hK' hQ;have R4:=R1.kp hK';have hbx':aa nx tb'=some (.cells [pO]):=(hK'.2 nx (by have:=hK.1;omega)).trans hbx;refine WC.ops (WO.fadd f3 (WO.load (v:=trO) rfl hbx' rfl rfl rfl (WO.mv f1 ?_)));refine WO.rdR R4 h.tw.ref (hp0 cur hcS) rfl rfl hpar rfl rfl rfl (WO.mv rfl (WO.nil ?_));refine hQ _ _ _ (if w.par cur=0 then 0 else d (w.par cur)+1) (w.par cur) ?_ (fun q=>⟨(I.par cur hcS q).1,hcU.trans (.up q .refl)⟩) rfl rfl f2 f3 (fun z hzS hzU=>?_) (hK.trans hK')
   ·rw[hj];by_cases q:w.par cur=0
    ·rw[if_pos q];omega
    ·rw[if_neg q,I.dep cur hcS q];omega
   ·rcases hf z hzS hzU with⟨_,q⟩|q
    ·rcases Go.Fo.un_step.1 q with e|q
     ·exact .inr (e▸hfit)
     ·exact .inl q
    ·exact .inr q
  refine nZ (WC.cond_true rfl (WC.skip (zN (WC.seq (WC.block (sQ ?_))))));refine WO.load (v:=trO) e3 hbx rfl rfl rfl (WO.mv e1 ?_);have hL:=qR hh (n:=n) R1 h hcS (hl cur hcS);by_cases hz0:lm cur=0
  ·rw[hz0] at hL;refine WO.a (vs:=[trO,vI cur]) rfl rfl hL ?_;rintro u ⟨t1,n1⟩ ⟨rfl,k1⟩;refine WO.mv rfl (WO.pure rfl (WO.pure (v:=.bool false) rfl (WO.mv rfl (WO.mv rfl (nZ (sQ (WO.mv rfl (WO.mv rfl ?_))))))));refine WO.skip rfl rfl (WO.skip rfl rfl (WO.skip rfl rfl (WO.skip rfl rfl (WO.skip rfl rfl (WO.skip rfl rfl (WO.skip rfl rfl (WO.pure (v:=.bool false) rfl (nZ (WC.cond_false rfl (WC.skip (zB (zN ?_))))))))))));exact next (.inl hz0) _ _ _ _ e1 e2 e3 k1 fun e'' tb'' nb'' j' cur' p1 p2 p3 p4 p5 p6 p7 p8=>⟨j',p1,rfl,cur',p2,p3,p4,p5,p6,p7,p8⟩
  ·have hd:decide (0<lm cur)=true:=Zh (Nat.pos_of_ne_zero hz0);rw[hd] at hL;refine WO.a (vs:=[trO,vI cur]) rfl rfl hL ?_;rintro u ⟨t1,n1⟩ ⟨rfl,k1⟩;dsimp only at k1;have R2:=R1.kp k1;have hbx1:aa nx t1=some (.cells [pO]):=(k1.2 nx (by have:=hK.1;omega)).trans hbx;refine WO.mv rfl (WO.pure rfl (WO.pure (v:=.bool true) rfl (WO.mv rfl (WO.mv rfl (nZ (sQ (WO.mv rfl (WO.mv rfl ?_))))))));refine WO.take rfl rfl (WO.load (v:=trO) e3 hbx1 rfl rfl rfl (WO.take rfl rfl (WO.mv e1 (WO.take rfl rfl ?_))));refine WO.a (vs:=[trO,vI cur]) rfl rfl (cO hh (n:=n) R2 h hcS (Zv (hv cur hcS) (by decide))) ?_;rintro u ⟨t2,n2⟩ ⟨rfl,k2⟩;have hvc:=hv cur hcS;refine WO.take rfl rfl (WO.mv e2 (WO.take rfl rfl (WO.add rfl rfl (by simp only[zO];omega) (by simp only[zO];omega) (WO.take rfl rfl (WO.mv rfl (WO.take rfl rfl (WO.k rfl rfl (fun hg=>?_) (fun hg=>?_))))))))
   ·refine WO.pure (v:=.bool true) rfl (nZ (WC.cond_true rfl (sQ (WO.mv rfl (nZ (WC.ret ?_))))));refine a9 (aB (a9 (aB ?_)));refine⟨_,_,rfl,rfl,?_,Kb2.trans (hK.trans (k1.trans k2))⟩;have:¬(k≤4294967296∧Cx w S lm sm a0 k):=fun q=>by
     have h3:=q.2 cur hcS hcU;simp only[zO] at hg;omega
    rw[Zs this]
   ·refine WO.pure (v:=.bool false) rfl (nZ (WC.cond_false rfl (WC.skip (zB (zN ?_)))));refine next (.inr ?_) _ _ _ _ e1 e2 e3 (k1.trans k2) fun e'' tb'' nb'' j' cur' p1 p2 p3 p4 p5 p6 p7 p8=>⟨j',p1,rfl,cur',p2,p3,p4,p5,p6,p7,p8⟩
    simp only[zO] at hg;omega
 ·have h0:cur=0:=Zx hz;refine nZ (WC.cond_false rfl (WC.exit (aR (aI ?_))));refine zN (sQ (WO.mv rfl (nZ (WC.ret ⟨_,_,rfl,rfl,?_,Kb2.trans hK⟩))));have:k≤4294967296∧Cx w S lm sm a0 k:=⟨hk32,fun z hzS hzU=>(hf z hzS hzU).resolve_left fun q=>q.1 h0⟩;rw[Zh this]
end Go.AI
namespace Go.AI
open Go.Proofs
open Go.Fo (Wd Un Pre up)
open Classical
variable {x x':Ar}{S:List Nat}{lm ow sm:Nat→Nat}{tbl t' t'':LO}{nx n' n'':Nat}
section
variable {call:aP Ar}{bf:List (List Nat)}{base k:Nat}{ds:List (Nat×Option Nat)}{env0:LV}{r:List (Option (Nat×Bool)×IOp)}{vals:List (Nat×Option Nat×Value)}{snaps:List (Mem Ar)}{chain:List Nat}{fls:List (Nat×Bool×AObj Ar)}{lds:List (Nat×Rq×List Value)}{Q:DS Ar→Prop}
theorem WD.take{g:Nat×Bool}{i:IOp}(hg:wanted (bq bf ds env0 vals k) (some g)=some true)(q:WD call bf base ds env0 k ((none,i)::r) ⟨vals,snaps,chain,fls,lds⟩ Q):WD call bf base ds env0 k ((some g,i)::r) ⟨vals,snaps,chain,fls,lds⟩ Q:=by
 obtain⟨Z',h1,h2⟩:=q;refine⟨Z',?_,h2⟩;have e:dD call bf base ds env0 k (some g) i ⟨vals,snaps,chain,fls,lds⟩=dD call bf base ds env0 k none i ⟨vals,snaps,chain,fls,lds⟩:=by
  unfold dD;rw[hg];rfl
 unfold d8 at h1 ⊢;rw[e];exact h1
theorem WD.skip{g:Nat×Bool}{i:IOp}(hg:wanted (bq bf ds env0 vals k) (some g)=some false)(q:WD call bf base ds env0 (k+1) r ⟨(k,i.dst,undef)::vals,snaps,chain,fls,lds⟩ Q):WD call bf base ds env0 k ((some g,i)::r) ⟨vals,snaps,chain,fls,lds⟩ Q:=by
 obtain⟨Z',h1,h2⟩:=q;refine⟨Z',?_,h2⟩;have e:dD call bf base ds env0 k (some g) i ⟨vals,snaps,chain,fls,lds⟩=some ⟨(k,i.dst,undef)::vals,snaps,chain,fls,lds⟩:=by
  unfold dD;rw[hg]
 unfold d8;rw[e];exact h1
end
theorem zF{env:LV}{e:EqK}{x y:Opd}{a b:Nat}(hx:evo env x=some (i0 a))(hy:evo env y=some (i0 b)):aw env (.bin .gtr e x y)=some (.bool (decide (b<a))):=by
 have h:decide ((Int.ofNat b)<Int.ofNat a)=decide (b<a):=decide_eq_decide.2 (by simp only[zO];omega);simp only[aw,hx,hy,bu,bF,if_true,eZ,h]
theorem TW.QS(h:TW x S){a top:Nat}(ha:a∈S)(ht:top∈S):dL S x [trC,vI a,vI top]=some (.bool (decide (Un (wds x S) top a)),x):=by
 have hc:TW x S∧a∈S∧top∈S:=⟨h,ha,ht⟩;simp only[dL,if_pos hc]
def ui(w:Wd)(S:List Nat)(lm sm:Nat→Nat)(a c:Nat):Prop:=∀z,z∈S→Un w z a→¬Un w z c→lm z=0∨sm z+sm c+1≤lm z
theorem yw{hk:List (aK Ar)}(hh:LHk hk S)(hS:S.length<800){n a0 c:Nat}(hn:1001≤n)(R:Rc tbl nx x)(h:LW x S lm ow sm)(ha:a0∈S)(hcS:c∈S)(hv:∀z,z∈S→sm z<4611686018427387904)(hl:∀z,z∈S→lm z<9223372036854775807) :
  ∃u h',RF1 hk (n+3) 30 [trO,vI a0,vI c] ⟨tbl,nx⟩=some (u,h')∧(u = .bool (decide (ui (wds x S) S lm sm a0 c))∧Kp tbl nx h'.tbl h'.next):=by
 obtain⟨_,hund⟩:=hh.und;obtain⟨_,hpar⟩:=hh.par;obtain⟨d,I⟩:=h.tw.inv;have hnx:249<nx:=R.h;have hp0:=fun a (ha:a∈S)=>h.tw.par ha
 have hu0:=fun a (ha:a∈S)=>h.tw.QS hcS ha
 refine aG hh.takes Jm (zL rfl) ?_;dsimp only[Am,aM];generalize hw:wds x S=w at I hp0 hu0 ⊢;refine sQ (WO.box (v:=trO) (cs:=[pO]) rfl rfl (WO.mv rfl (nZ (WC.seq (WC.block ?_)))));have Rb:=R.kp (bxk (o:=AObj.cells [pO]));have hb0:aa nx ((nx,AObj.cells [pO])::tbl)=some (.cells [pO]):=bxl;have Kb:Kp tbl nx ((nx,AObj.cells [pO])::tbl) (nx+1):=bxk;generalize ht0:((nx,AObj.cells [pO])::tbl)=t0 at Rb hb0 Kb ⊢;refine WC.loop (fun j e tb nb=>∃cur,(cur≠0→cur∈S∧Un w cur a0)∧j=(if cur=0 then 0 else d cur+1)∧e 1=some (vI cur)∧e 2=some (vI c)∧e 3=some (.pointer (some ⟨nx,0,none⟩)) ∧
   (∀z,z∈S→Un w z a0→¬Un w z c→(cur≠0∧Un w z cur)∨(lm z=0∨sm z+sm c+1≤lm z))∧Kp t0 (nx+1) tb nb) (k:=d a0+1) (by have:=I.lt ha;omega)
  ⟨a0,fun _=>⟨ha,.refl⟩,by rw[if_neg (I.ne0 ha)],rfl,rfl,rfl,fun z _ hz _=>.inl ⟨I.ne0 ha,hz⟩,Kp.refl⟩ ?_
 rintro j e tb nb ⟨cur,hc,hj,e1,e2,e3,hf,hK⟩;dsimp only at e1 e2 e3;have R1:=Rb.kp hK;have hbx:aa nx tb=some (.cells [pO]):=(hK.2 nx (by omega)).trans hb0
 -- the end,where all is well
 have fine:(∀z,z∈S→Un w z a0→¬Un w z c→lm z=0∨sm z+sm c+1≤lm z)→Value.bool true = .bool (decide (ui w S lm sm a0 c)):=fun q=>by
  have:ui w S lm sm a0 c:=q;rw[Zh this]
 refine WC.seq (sQ (WO.mv e1 (WO.e rfl rfl (fun hz=>?_) (fun hz=>?_))))
 ·have h0:cur≠0:=fun q=>hz (by rw[q])
  obtain⟨hcS',hcU⟩:=hc h0;rw[if_neg h0] at hj;have next:(lm cur=0∨sm cur+sm c+1≤lm cur)→∀(Q:Ex→LV→Mem Ar→Prop) (e':LV) (tb':LO) (nb':Nat),aa 1 e'=some (vI cur)→aa 2 e'=some (vI c)→aa 3 e'=some (.pointer (some ⟨nx,0,none⟩))→Kp tb nb tb' nb' →
    (∀e'' tb'' nb'' j' cur',j'<j→(cur'≠0→cur'∈S∧Un w cur' a0)→j'=(if cur'=0 then 0 else d cur'+1)→aa 1 e''=some (vI cur')→aa 2 e''=some (vI c)→aa 3 e''=some (.pointer (some ⟨nx,0,none⟩))→(∀z,z∈S→Un w z a0→¬Un w z c→(cur'≠0∧Un w z cur')∨(lm z=0∨sm z+sm c+1≤lm z))→Kp t0 (nx+1) tb'' nb''→Q .norm e'' ⟨[],tb'',nb''⟩) →
    WC (RF1 hk (n+2)) (n+2) (.ops [(none,.pure 19 (.fadd 0 (.t 3))),(none,.load 20 1 true (.t 19)),(none,.pure 21 (.mv (.t 1))),(none,.call (some 22) (.c (.func (.func 10) (.mk []) (.mk []))) [.t 20,.t 21]),(none,.pure 1 (.mv (.t 22)))]) e' ⟨[],tb',nb'⟩ Q:=by
   intro hfit Q e' tb' nb' f1 f2 f3 hK' hQ;have R4:=R1.kp hK';have hbx':aa nx tb'=some (.cells [pO]):=(hK'.2 nx (by have:=hK.1;omega)).trans hbx;refine WC.ops (WO.fadd f3 (WO.load (v:=trO) rfl hbx' rfl rfl rfl (WO.mv f1 ?_)));refine WO.rdR R4 h.tw.ref (hp0 cur hcS') rfl rfl hpar rfl rfl rfl (WO.mv rfl (WO.nil ?_));refine hQ _ _ _ (if w.par cur=0 then 0 else d (w.par cur)+1) (w.par cur) ?_ (fun q=>⟨(I.par cur hcS' q).1,hcU.trans (.up q .refl)⟩) rfl rfl f2 f3 (fun z hzS hzU hzc=>?_) (hK.trans hK')
   ·rw[hj];by_cases q:w.par cur=0
    ·rw[if_pos q];omega
    ·rw[if_neg q,I.dep cur hcS' q];omega
   ·rcases hf z hzS hzU hzc with⟨_,q⟩|q
    ·rcases Go.Fo.un_step.1 q with e|q
     ·exact .inr (e▸hfit)
     ·exact .inl q
    ·exact .inr q
  refine WO.mv rfl (WO.take rfl rfl (WO.fadd e3 (WO.take rfl rfl (WO.load (v:=trO) rfl hbx rfl rfl rfl (WO.take rfl rfl (WO.mv e2 (WO.take rfl rfl (WO.mv e1 (WO.take rfl rfl ?_)))))))));refine WO.rdR R1 h.tw.ref (hu0 cur hcS') rfl rfl hund rfl rfl rfl ?_;by_cases huc:Un w cur c
  ·rw[Zh huc];refine WO.take rfl rfl (WO.pure (v:=.bool false) rfl (WO.pure (v:=.bool false) rfl (nZ (WC.cond_false rfl (WC.exit (aR (aI ?_)))))));refine zN (sQ (WO.mv rfl (nZ (WC.ret ⟨_,_,rfl,rfl,fine ?_,Kb.trans hK⟩))));intro z hzS hzU hzc;exact(hf z hzS hzU hzc).resolve_left fun q=>hzc (huc.trans q.2)
  ·rw[Zs huc];refine WO.take rfl rfl (WO.pure (v:=.bool true) rfl (WO.pure (v:=.bool true) rfl (nZ (WC.cond_true rfl (WC.skip (zN (WC.seq (WC.block (sQ ?_)))))))));refine WO.load (v:=trO) e3 hbx rfl rfl rfl (WO.mv e1 ?_);have hL:=qR hh (n:=n) R1 h hcS' (hl cur hcS');by_cases hz0:lm cur=0
   ·rw[hz0] at hL;refine WO.a (vs:=[trO,vI cur]) rfl rfl hL ?_;rintro u ⟨t1,n1⟩ ⟨rfl,k1⟩;dsimp only at k1;refine WO.mv rfl (WO.pure rfl (WO.pure (v:=.bool false) rfl (WO.mv rfl (WO.mv rfl (nZ (WC.seq (WC.a ?_)))))));refine WD.pure (v:=.bool false) rfl (WD.pure (v:=.bool false) rfl (WD.skip rfl (WD.skip rfl (WD.skip rfl (WD.skip rfl (WD.skip rfl (WD.skip rfl (WD.skip rfl (WD.skip rfl (WD.skip rfl (WD.pure (v:=.bool false) rfl (WD.nil ⟨rfl,_,_,rfl,?_⟩))))))))))));refine zN (WC.cond_false rfl (WC.skip (zB (zN ?_))));exact next (.inl hz0) _ _ _ _ e1 e2 e3 (k1.up (Zn _ 12)) fun e'' tb'' nb'' j' cur' p1 p2 p3 p4 p5 p6 p7 p8=>⟨j',p1,rfl,cur',p2,p3,p4,p5,p6,p7,p8⟩
   ·have hd:decide (0<lm cur)=true:=Zh (Nat.pos_of_ne_zero hz0);rw[hd] at hL;refine WO.a (vs:=[trO,vI cur]) rfl rfl hL ?_;rintro u ⟨t1,n1⟩ ⟨rfl,k1⟩;dsimp only at k1;have R2:=R1.kp (k1.up (Zn _ 12));have hbx1:aa nx t1=some (.cells [pO]):=(k1.2 nx (by have:=hK.1;omega)).trans hbx;refine WO.mv rfl (WO.pure rfl (WO.pure (v:=.bool true) rfl (WO.mv rfl (WO.mv rfl (nZ (WC.seq (WC.a ?_)))))));obtain⟨u1,⟨t2,n2⟩,hd1,rfl,k2⟩:=cO hh (n:=n) R2 h hcS' (Zv (hv cur hcS') (by decide));dsimp only at k2;have R3:=R2.kp k2;obtain⟨u2,⟨t3,n3⟩,hd2,rfl,k3⟩:=cO hh (n:=n) R3 h hcS (Zv (hv c hcS) (by decide));dsimp only at k3;have g0:=hK.1;have g1:=k1.1;have g2:=k2.1;have hbx2:=(k2.2 nx (by omega)).trans hbx1;have hbx3:=(k3.2 nx (by omega)).trans hbx2;have x1:∀m,(⟨[],t1,m⟩:Mem Ar).load ⟨nx,0,none⟩ 1=some [pO]:=fun m=>ae hbx1 rfl rfl
    have x2:(⟨[],t2,n2⟩:Mem Ar).load ⟨nx,0,none⟩ 1=some [pO]:=ae hbx2 rfl rfl;have x3:(⟨[],t3,n3⟩:Mem Ar).load ⟨nx,0,none⟩ 1=some [pO]:=ae hbx3 rfl rfl;have hvc:=hv cur hcS';have hvc2:=hv c hcS;refine WD.pure (v:=.bool true) rfl (WD.pure (v:=.bool true) rfl (WD.take rfl (WD.load (m:=⟨[],t1,n1+12⟩) (ms:=[]) (v:=trO) (az e3 rfl rfl) (x1 _) rfl (WD.take rfl (WD.pure (az e1 rfl rfl) (WD.take rfl ?_))))));refine WD.chn (m:=⟨[],t1,n1+12⟩) (m':=⟨[],t2,n2⟩) (v:=vI (sm cur)) rfl rfl rfl (aW (m:=⟨[],t1,n1+12⟩) (h:=⟨t2,n2⟩) (vs:=[trO,vI cur]) rfl rfl hd1) ?_;refine WD.take rfl (WD.load (m:=⟨[],t2,n2⟩) (v:=trO) (az e3 rfl rfl) x2 rfl (WD.take rfl (WD.pure (az e2 rfl rfl) (WD.take rfl ?_))));refine WD.chn (m:=⟨[],t2,n2⟩) (m':=⟨[],t3,n3⟩) (v:=vI (sm c)) rfl rfl rfl (aW (m:=⟨[],t2,n2⟩) (h:=⟨t3,n3⟩) (vs:=[trO,vI c]) rfl rfl hd2) ?_;refine WD.take rfl (WD.pure (v:=vI (sm cur+sm c)) (tQ rfl rfl rfl (by omega)) (WD.take rfl (WD.pure rfl (WD.take rfl ?_))));by_cases hg:lm cur-1<sm cur+sm c
    ·refine WD.pure (v:=.bool true) ((zF rfl rfl).trans (by rw[Zh hg])) (WD.pure (v:=.bool true) rfl (WD.nil ⟨?_,_,_,rfl,?_⟩))
     ·simp only[bi,bn,x1,x2,x3,fp];rfl
     ·refine zN (WC.cond_true rfl (sQ (WO.mv rfl (nZ (WC.ret ?_)))));refine a9 (aB (a9 (aB ?_)));refine⟨_,_,rfl,rfl,?_,Kb.trans (hK.trans (((k1.up (Zn _ 12)).trans k2).trans k3))⟩;have:¬ui w S lm sm a0 c:=fun q=>by
       have h3:=q cur hcS' hcU huc;omega
      rw[Zs this]
    ·refine WD.pure (v:=.bool false) ((zF rfl rfl).trans (by rw[Zs hg])) (WD.pure (v:=.bool false) rfl (WD.nil ⟨?_,_,_,rfl,?_⟩))
     ·simp only[bi,bn,x1,x2,x3,fp];rfl
     ·refine zN (WC.cond_false rfl (WC.skip (zB (zN ?_))));exact next (.inr (by omega)) _ _ _ _ e1 e2 e3 (((k1.up (Zn _ 12)).trans k2).trans k3) fun e'' tb'' nb'' j' cur' p1 p2 p3 p4 p5 p6 p7 p8=>⟨j',p1,rfl,cur',p2,p3,p4,p5,p6,p7,p8⟩
 ·have h0:cur=0:=Zx hz;refine WO.mv rfl (WO.skip rfl rfl (WO.skip rfl rfl (WO.skip rfl rfl (WO.skip rfl rfl (WO.skip rfl rfl (WO.skip rfl rfl (WO.pure (v:=.bool false) rfl (nZ (WC.cond_false rfl (WC.exit (aR (aI ?_))))))))))));refine zN (sQ (WO.mv rfl (nZ (WC.ret ⟨_,_,rfl,rfl,fine ?_,Kb.trans hK⟩))));exact fun z hzS hzU hzc=>(hf z hzS hzU hzc).resolve_left fun q=>q.1 h0
end Go.AI
