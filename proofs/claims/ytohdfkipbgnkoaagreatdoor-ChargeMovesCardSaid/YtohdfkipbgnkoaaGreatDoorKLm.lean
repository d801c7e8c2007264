/- A map of numbers; there and back: plain laws. -/
import Derived.Test.YtohdfkipbgnkoaaGreatDoorKDb
import Derived.Test.YtohdfkipbgnkoaaGreatDoorKIf
import Derived.Test.YtohdfkipbgnkoaaGreatDoorKSp
set_option maxRecDepth 4000
namespace Go.AI
open Go.Proofs
open Go.Fo (Wd Un Pre LInv mvS addW cutW)
open Classical
variable {x:Ar}{S:List Nat}{lm ow sm:Nat→Nat}{B:Nat}{w:Wd}{kids:Nat→List Nat}{d:Nat→Nat}
def iD(f:Nat→Nat):Nat→List Nat→List (Value×Value×Nat)
 |_,[]=>[]
 |n,a::r=>(nI a,nI (f a),n)::iD f (n+1) r
theorem tK{f:Nat→Nat}:∀(n:Nat) (Q:List Nat) (a:Nat),iD f n (Q++[a])=iD f n Q++[(nI a,nI (f a),n+Q.length)]
 |n,[],a=>rfl
 |n,b::r,a=>by
  show(nI b,nI (f b),n)::iD f (n+1) (r++[a])=(nI b,nI (f b),n)::(iD f (n+1) r++_);rw[tK (n+1) r a];have:n+1+r.length=n+(b::r).length:=by simp only[Zy];omega
  rw[this]
theorem Aq{a b:Nat}(h:a≠b):bz (.ofNat a) (.ofNat b)=false:=by
 rw[d7];simp only[beq_eq_false_iff_ne,ne_eq];exact fun e=>h (Zx e)
theorem va{f:Nat→Nat}{a:Nat}:∀(Q:List Nat) (n i:Nat),¬a∈Q→ij .i64 (.ofNat a) (iD f n Q) i=some none
 |[],_,_,_=>rfl
 |b::r,n,i,h=>by
  have hne:a≠b:=fun e=>h (by simp[e])
  show(if IntKind.i64=IntKind.i64 then(bif bz (.ofNat a) (.ofNat b) then some (some (i,nI (f b),n)) else ij .i64 (.ofNat a) (iD f (n+1) r) (i+1)) else none)=some none;rw[if_pos rfl,Aq hne,cond_false];exact va r (n+1) (i+1) fun hm=>h (by simp[hm])
theorem zb{f:Nat→Nat}{a:Nat}:∀(Q:List Nat) (n i:Nat),a∈Q→∃j b,ij .i64 (.ofNat a) (iD f n Q) i=some (some (j,nI (f a),b))
 |[],_,_,h=>by cases h
 |c::r,n,i,h=>by
  show∃j b,(if IntKind.i64=IntKind.i64 then(bif bz (.ofNat a) (.ofNat c) then some (some (i,nI (f c),n)) else ij .i64 (.ofNat a) (iD f (n+1) r) (i+1)) else none)=some (some (j,nI (f a),b));rw[if_pos rfl];by_cases e:a=c
  ·subst e;exact⟨i,n,by rw[eS];rfl⟩
  ·rw[Aq e,cond_false];exact zb r (n+1) (i+1) ((List.mem_cons.1 h).resolve_left e)
theorem oe{f:Nat→Nat}{a mb c nb:Nat}{Q:List Nat}{z:List Value}{tb:LO}(h:aa mb tb=some (.map (iD f 0 Q) c))(ha:a∈Q):(⟨[],tb,nb⟩:Mem Ar).mrd mb .i64 (.ofNat a) z=some [nI (f a)]:=by
 have hg:(⟨[],tb,nb⟩:Mem Ar).get mb=some (.map (iD f 0 Q) c):=h;obtain⟨j,b,hk⟩:=zb (f:=f) Q 0 0 ha;simp only[Mem.mrd,hg,hk]
theorem vd{call:aP Ar}{env:LV}{m:Mem Ar}{i c:Nat}{x y u:Opd}{k vk:IntKind}{n vn:Int}{es:List (Value×Value×Nat)}(hx:evo env x=some (.map (some i)))(hy:evo env y=some (.int k n))(hu:evo env u=some (.int vk vn))(hi:m.get i=some (.map es c))(hn:ij k n es 0=some none):bh call env m (.mset x y u)=some (undef,m.put i (.map (es++[(.int k n,.int vk vn,c)]) (c+1))):=by
 simp only[bh,bM,hx,hy,hu,hi,hn]
theorem nS{c p:Nat}:(addW (cutW w c) p c).par c=p:=by
 rw[Go.Fo.addW_par,if_pos rfl]
theorem qE(L:LInv w S kids d lm ow sm B){c p:Nat}(hc:c∈S)(h0:w.par c≠0)(hp:p∈S){z:Nat}:Un (addW (cutW w c) p c) z (w.par c)↔Un w z (w.par c):=by
 obtain⟨d1,I1⟩:=L.inv.cut hc h0;have ho:=(L.inv.par c hc h0).1;have hpc:(cutW w c).par c=0:=by rw[Go.Fo.cutW_par,if_pos rfl]
 rw[I1.QE hp hpc ho,L.inv.QK hc h0,L.inv.QK hc h0];exact⟨fun h=>h.elim id fun h=>absurd h.2 (L.inv.Qy hc h0),.inl⟩
theorem Eo(L:LInv w S kids d lm ow sm B){c p:Nat}(hc:c∈S)(h0:w.par c≠0)(hp:p∈S)(hu:¬Un w c p){z:Nat}:Un (addW (cutW w c) p c) z p↔Un w z p:=by
 obtain⟨d1,I1⟩:=L.inv.cut hc h0;have hpc:(cutW w c).par c=0:=by rw[Go.Fo.cutW_par,if_pos rfl]
 rw[I1.QJ hp hpc,L.inv.QG hc h0 hp hu]
theorem vu(L:LInv w S kids d lm ow sm B){c p:Nat}(hc:c∈S)(h0:w.par c≠0)(hp:p∈S):¬Un (addW (cutW w c) p c) c (w.par c):=by
 rw[qE L hc h0 hp];exact L.inv.Qy hc h0
theorem CU(L:LInv w S kids d lm ow sm B){c p:Nat}(hc:c∈S)(h0:w.par c≠0)(hp:p∈S)(hu:¬Un w c p):ui (addW (cutW w c) p c) S lm (mvS w sm c p) (w.par c) c:=by
 intro z hz h1 h2;have ho:=(L.inv.par c hc h0).1;rw[qE L hc h0 hp] at h1;have h3:¬Un w z p:=fun h=>h2 (.up (by rw[nS];exact L.inv.ne0 hp) (by rw[nS];exact(Eo L hc h0 hp hu).2 h))
 have hcz:sm c≤sm z:=L.mono hc (.up h0 h1);rw[L.QN hc h0 hp hu,Go.Fo.mvS_eq L hc h0 hp hu,if_pos h1,if_neg h3];have:=L.lim z hz;omega
theorem Gc(L:LInv w S kids d lm ow sm B){c p:Nat}(hc:c∈S)(h0:w.par c≠0)(hp:p∈S)(hu:¬Un w c p){kids2:Nat→List Nat}{d2:Nat→Nat}(L2:LInv (addW (cutW w c) p c) S kids2 d2 lm ow (mvS w sm c p) B){z:Nat}:mvS (addW (cutW w c) p c) (mvS w sm c p) c (w.par c) z=sm z:=by
 have ho:=(L.inv.par c hc h0).1;have e0:(addW (cutW w c) p c).par c≠0:=by rw[nS];exact L.inv.ne0 hp
 rw[Go.Fo.mvS_eq L2 hc e0 ho (vu L hc h0 hp),nS,L.QN hc h0 hp hu,Go.Fo.mvS_eq L hc h0 hp hu];simp only[qE L hc h0 hp,Eo L hc h0 hp hu];have hcz:Un w z (w.par c)→sm c≤sm z:=fun h=>L.mono hc (.up h0 h)
 by_cases e1:Un w z (w.par c)
 ·have:=hcz e1;by_cases e2:Un w z p
  ·simp only[if_pos e1,if_pos e2];omega
  ·simp only[if_pos e1,if_neg e2];omega
 ·by_cases e2:Un w z p
  ·simp only[if_neg e1,if_pos e2];omega
  ·simp only[if_neg e1,if_neg e2];omega
theorem E5(L:LInv w S kids d lm ow sm B){c p:Nat}(hc:c∈S)(h0:w.par c≠0)(hp:p∈S)(hu:¬Un w c p){z:Nat}:mvS w sm c p z=sm z∨mvS w sm c p z=sm z+sm c∨mvS w sm c p z+sm c=sm z:=by
 rw[Go.Fo.mvS_eq L hc h0 hp hu];have hcz:Un w z (w.par c)→sm c≤sm z:=fun h=>L.mono hc (.up h0 h)
 by_cases e1:Un w z (w.par c)
 ·have:=hcz e1;by_cases e2:Un w z p
  ·rw[if_pos e1,if_pos e2];omega
  ·rw[if_pos e1,if_neg e2];omega
 ·by_cases e2:Un w z p
  ·rw[if_neg e1,if_pos e2];exact .inr (.inl rfl)
  ·rw[if_neg e1,if_neg e2];exact .inl rfl
end Go.AI
namespace Go.AI
open Go.Proofs
open Go.Fo (Wd Un Pre)
variable {x:Ar}{S:List Nat}{lm ow sm:Nat→Nat}{tbl t':LO}{nx n' off ka bx:Nat}{acts:List Value}
abbrev ActM:=Nat×Nat×Nat×Int
def actM(a:ActM):List Value:=gg a.1 a.2.1 a.2.2.1 a.2.2.2
def actsM(l:List ActM):List Value:=l.flatMap actM
theorem sP:∀{l:List ActM} {i:Nat} {a:ActM},l[i]? = some a→bg (actsM l) (i*4) 4=some (actM a)
 |[],_,_,h=>by simp at h
 |b::r,0,a,h=>by
  simp only[ZH,zI] at h;subst h;rfl
 |b::r,i+1,a,h=>by
  have ih:=sP (l:=r) (i:=i) (a:=a) (by simpa using h);have e:(actsM (b::r)).drop ((i+1)*4)=(actsM r).drop (i*4):=by
   have h1:actsM (b::r)=actM b++actsM r:=rfl;rw[h1,List.drop_append];have h2:(actM b).length=4:=rfl;rw[h2,List.drop_eq_nil_of_le (by rw[h2];omega),List.nil_append];congr 1;omega
  unfold bg at ih ⊢;rw[e];exact ih
theorem Dh{l:List ActM}{i:Nat}{a:ActM}(h0:aa 0 tbl=some (.ro off (actsM l)))(h:l[i]? = some a):(⟨[],tbl,nx⟩:Mem Ar).load ⟨0,off+i*4,none⟩ 4=some (actM a):=by
 have hg:(⟨[],tbl,nx⟩:Mem Ar).get 0=some (.ro off (actsM l)):=h0;have hb:Nat.ble off (off+i*4)=true:=by rw[Zk];omega
 have hs:Nat.sub (off+i*4) off=i*4:=by show off+i*4-off=i*4;omega
 simp only[Mem.load,hg,bH,FI,hb,cond_true,hs,sP h]
theorem Lw.rc(F:Lw S off acts ka bx tbl nx x):Rc tbl nx x:=⟨F.li,F.lb,F.lr,by have:=F.h1;have:=F.h2;have:=F.h3;omega⟩
theorem Lw.kp'(F:Lw S off acts ka bx tbl nx x)(K:Kp tbl nx t' n'):Lw S off acts ka bx t' n' x:=by
 have a:=F.h1;have b:=F.h2;have c:=F.h3;exact⟨(K.2 _ (by omega)).trans F.l0,(K.2 _ (by omega)).trans F.li,(K.2 _ (by omega)).trans F.lb,(K.2 _ (by omega)).trans F.lr,(K.2 _ (by omega)).trans F.la,(K.2 _ (by omega)).trans F.lt,a,b,Zj c K.1⟩
theorem Lw.kx(F:Lw S off acts ka bx tbl nx x){y:Ar}(K:Kx tbl nx y t' n'):Lw S off acts ka bx t' n' y:=by
 have a:=F.h1;have b:=F.h2;have c:=F.h3;exact⟨(K.2.2 _ (by omega) (by omega)).trans F.l0,K.2.1,(K.2.2 _ (by omega) (by omega)).trans F.lb,(K.2.2 _ (by omega) (by omega)).trans F.lr,(K.2.2 _ (by omega) (by omega)).trans F.la,(K.2.2 _ (by omega) (by omega)).trans F.lt,a,b,Zj c K.1⟩
theorem bnd{i:Nat}(hS:S.length≤12)(hi:i≤60):S.length*(i*4294967296)<2305843009213693952 :=
 Nat.lt_of_le_of_lt (Nat.mul_le_mul hS (Nat.mul_le_mul_right _ hi)) (by decide)
theorem NB{hk:List (aK Ar)}(hh:QHk hk S){n:Nat}(hn:2001≤n)(hS0:0<S.length)(hS:S.length≤12)(hnd:S.Nodup){l:List ActM}(hl:l.length≤60)(hu:∀a,a∈l→a.2.1<256∧a.2.2.1<256 ∧ -9223372036854775808≤a.2.2.2){bl:List Value}{ad:Option Addr}{cp:Nat}{w2 w3:Value}
  (F:Lw S off (actsM l) ka bx tbl nx x) (hbx:bx+1<nx) (had:l.length≠0→ad=some ⟨0,off,some 1⟩) (lb:aa (bx+1) tbl=some (.cells bl)) (G:GB tbl nx bl S) (H:Sl x S lm ow sm 0) {e:LV} {Q:Ex→LV→Mem Ar→Prop}
  (e2:aa 2 e=some w2) (e3:aa 3 e=some w3) (e10:aa 10 e=some (.slice (some ⟨ka,0,none⟩) S.length S.length)) (e12:aa 12 e=some (.pointer (some ⟨bx,0,none⟩))) (e13:aa 13 e=some (.pointer (some ⟨bx+1,0,none⟩))) (e51:aa 51 e=some (.slice ad l.length cp)) (e52:aa 52 e=some (vI l.length)) (e53:aa 53 e=some (vI 0))
  (hQ:∀e' tbl' nx' x' lm' ow' sm',aa 2 e'=some w2→aa 3 e'=some w3→aa 10 e'=some (.slice (some ⟨ka,0,none⟩) S.length S.length)→aa 12 e'=some (.pointer (some ⟨bx,0,none⟩))→Lw S off (actsM l) ka bx tbl' nx' x'→Sl x' S lm' ow' sm' (60*4294967296)→Q .norm e' ⟨[],tbl',nx'⟩) :
  WC (RF1 hk (n+6)) (n+6) rK e ⟨[],tbl,nx⟩ Q:=by
 unfold rK;refine WC.block ?_;refine WC.loop (fun j e tb nb=>∃i x bl lm ow sm,i+j=l.length∧e 2=some w2∧e 3=some w3∧e 10=some (.slice (some ⟨ka,0,none⟩) S.length S.length)∧e 12=some (.pointer (some ⟨bx,0,none⟩))∧e 13=some (.pointer (some ⟨bx+1,0,none⟩))∧e 51=some (.slice ad l.length cp)∧e 52=some (vI l.length)∧e 53=some (vI i)∧Lw S off (actsM l) ka bx tb nb x∧bx+1<nb∧aa (bx+1) tb=some (.cells bl)∧GB tb nb bl S∧Sl x S lm ow sm (i*4294967296)) (k:=l.length) (by omega)
  ⟨0,x,bl,lm,ow,sm,by omega,e2,e3,e10,e12,e13,e51,e52,e53,F,hbx,lb,G,by rw[Nat.zero_mul];exact H⟩ ?_
 clear e2 e3 e10 e12 e13 e51 e52 e53 F hbx lb G H;rintro j e tb nb ⟨i,x,bl,lm,ow,sm,hj,e2,e3,e10,e12,e13,e51,e52,e53,F,hbx,lb,G,H⟩;dsimp only at e2 e3 e10 e12 e13 e51 e52 e53;refine sQ (WO.j e53 e52 (fun hz=>?_) (fun hz=>?_))
 ·have hi:i<l.length:=by simp only[zO] at hz;omega
  obtain⟨a,ha⟩:∃a,l[i]? = some a:=⟨l[i],Zm hi⟩;obtain⟨u1,u2,u3⟩:=hu a (ZJ ha);obtain⟨p0,p1,p2,k⟩:=a;dsimp only at u1 u2 u3;refine nZ (WC.seq (WC.cond_true rfl (WC.skip (zN (WC.seq (WC.block (sQ ?_)))))));rw[had (by omega)] at e51;refine WO.idxL e51 e53 rfl hi ?_;refine WO.step (i:=.load 56 4 true (.t 55)) (v:=.agg ⟨gg p0 p1 p2 k⟩) (m':=⟨[],tb,nb⟩) (xe rfl (Dh F.l0 ha) rfl) ?_;refine WO.new (WO.step (i:=.store 4 (.t 15) (.t 56)) (v:=undef) (m':=⟨[],(nb,.cells (gg p0 p1 p2 k))::tb,nb+1⟩) ?_ ?_)
  ·have hm:=ba (nx:=nb+1) (vs:=gg p0 p1 p2 k) (o:=0) (ob':=.cells (gg p0 p1 p2 k)) (tbl:=(nb,.cells [.int .u8 (.ofNat 0),.int .u8 (.ofNat 0),.int .u8 (.ofNat 0),i0 0])::tb) (i:=nb) (by rw[zC,if_pos rfl]) rfl (zL rfl) rfl;rw[cw] at hm;exact aJ rfl rfl rfl rfl hm
  have hKb:Kp tb nb ((nb,AObj.cells (gg p0 p1 p2 k))::tb) (nb+1):=Kp.refl.cons (Ze _) (Zo _);have F1:=F.kp' hKb;have G1:=G.kp hKb;have lb1:=(hKb.2 (bx+1) hbx).trans lb;have hlk:aa nb ((nb,AObj.cells (gg p0 p1 p2 k))::tb)=some (.cells (gg p0 p1 p2 k)):=by rw[zC,if_pos rfl]
  generalize ht1:((nb,AObj.cells (gg p0 p1 p2 k))::tb)=t1 at F1 G1 lb1 hlk ⊢;have h2:=F1.h2;have h3:=F1.h3;refine nZ (WC.ops (WO.load (v:=trO) e12 F1.lt rfl rfl rfl (WO.load (v:=.agg ⟨bl⟩) e13 lb1 rfl (iS G.len) rfl (WO.mv e10 (WO.load (v:=.agg ⟨gg p0 p1 p2 k⟩) rfl hlk rfl rfl rfl ?_)))));refine WO.a (vs:=[trO,.agg ⟨bl⟩,.slice (some ⟨ka,0,none⟩) S.length S.length,.agg ⟨gg p0 p1 p2 k⟩]) rfl rfl (LP (n:=n) hh (by omega) hS0 hnd hn F1.rc H (bnd hS (by omega)) (by rw[← Nat.succ_mul];exact bnd hS (by omega)) G1 (by show ka<nb+1;omega) F1.la u1 u2 u3) ?_;rintro u ⟨t2,n2⟩ ⟨l2,b,x2,lm2,ow2,sm2,rfl,hG,hSl,hK⟩;dsimp only at hG hK;have F2:=F1.kx hK;have g2:=hK.1;have lb2:=(hK.2.2 (bx+1) (by omega) (by have:=F1.h1;omega)).trans lb1;refine WO.mv rfl (WO.pure (v:=.agg ⟨l2⟩) rfl (WO.pure (v:=.bool b) rfl (WO.step (i:=.store 3 (.t 13) (.t 63)) (dt (l:=l2) e13 rfl hG.len lb2 G.len) (WO.nil (zB (zN (WC.ops ?_)))))));refine WO.add (m:=⟨[],upd (bx+1) (.cells l2) t2,n2⟩) e53 rfl (by simp only[zO];omega) (by simp only[zO];omega) (WO.mv rfl (WO.nil ?_));refine⟨j-1,by omega,rfl,i+1,x2,l2,lm2,ow2,sm2,by omega,e2,e3,e10,e12,e13,?_,e52,rfl,?_,by show bx+1<n2;omega,zS lb2,hG.upd lb2 G.slC,by rw[Nat.succ_mul];exact hSl⟩
  ·rw[had (by omega)];exact e51
  ·have a:=F2.h1;have b:=F2.h2;exact⟨(zU (by omega)).trans F2.l0,(zU (by omega)).trans F2.li,(zU (by omega)).trans F2.lb,(zU (by omega)).trans F2.lr,(zU (by omega)).trans F2.la,(zU (by omega)).trans F2.lt,a,b,F2.h3⟩
 ·refine nZ (WC.seq (WC.cond_false rfl (WC.exit (aR (aI ?_)))));exact hQ _ _ _ x lm ow sm e2 e3 e10 e12 F (H.more (Nat.mul_le_mul_right _ (by omega)))
end Go.AI
namespace Go.AI
open Go.Proofs
open Go.Fo (Wd Un Pre)
variable {x:Ar}{S:List Nat}{lm ow sm f:Nat→Nat}{tbl t':LO}{nx n' off ka bx mb B:Nat}{acts:List Value}
theorem Lw.upd(F:Lw S off acts ka bx tbl nx x){k:Nat}{o:AObj Ar}(h:bx<k):Lw S off acts ka bx (AI.upd k o tbl) nx x:=by
 have a:=F.h1;have b:=F.h2;exact⟨(zU (by omega)).trans F.l0,(zU (by omega)).trans F.li,(zU (by omega)).trans F.lb,(zU (by omega)).trans F.lr,(zU (by omega)).trans F.la,(zU (by omega)).trans F.lt,a,b,F.h3⟩
theorem kT{env:LV}{x y:Opd}{a:Int}(hx:evo env x=some (.int .i64 a))(hy:evo env y=some (.int .i64 a)):aw env (.bin .neq .no x y)=some (.bool false):=by
 simp only[aw,hx,hy];show some (Value.bool (!bz a a))=_;rw[eS];rfl
theorem uy{env:LV}{x y:Opd}{a b:Int}(hx:evo env x=some (.int .i64 a))(hy:evo env y=some (.int .i64 b))(h:a≠b):aw env (.bin .neq .no x y)=some (.bool true):=by
 simp only[aw,hx,hy];show some (Value.bool (!bz a b))=_;have:bz a b=false:=by rw[d7];simpa using h
 rw[this];rfl
theorem Sl.small(H:Sl x S lm ow sm B)(hB:S.length*B<2305843009213693952){a:Nat}(ha:a∈S):sm a<2305843009213693952:=by
 obtain⟨_,_,_,L⟩:=H;exact Nat.lt_of_le_of_lt (L.bound ha) hB
theorem NJ{hk:List (aK Ar)}(hh:QHk hk S){n:Nat}(hn:2001≤n)(hS:S.length≤12)(hnd:S.Nodup)(F:Lw S off acts ka bx tbl nx x)(H:Sl x S lm ow sm B)(hB:S.length*B<2305843009213693952)(hm1:bx<mb)(hm2:mb<nx)(hmb:aa mb tbl=some (.map [] 0))
  {e:LV} {Q:Ex→LV→Mem Ar→Prop} (e12:aa 12 e=some (.pointer (some ⟨bx,0,none⟩))) (e20:aa 20 e=some (.map (some mb))) (e90:aa 90 e=some (.slice (some ⟨ka,0,none⟩) S.length S.length)) (e91:aa 91 e=some (vI S.length)) (e92:aa 92 e=some (vI 0))
  (hQ:∀e' tbl' nx',(∀t,t<22→aa t e'=aa t e)→Lw S off acts ka bx tbl' nx' x→mb<nx'→aa mb tbl'=some (.map (iD sm 0 S) S.length)→Q .norm e' ⟨[],tbl',nx'⟩) :
  WC (RF1 hk (n+6)) (n+6) rA e ⟨[],tbl,nx⟩ Q:=by
 unfold rA;refine WC.block ?_;refine WC.loop (fun j e' tb nb=>∃i,i+j=S.length∧(∀t,t<22→e' t=aa t e)∧e' 90=aa 90 e∧e' 91=aa 91 e∧e' 92=some (vI i)∧Lw S off acts ka bx tb nb x∧mb<nb∧aa mb tb=some (.map (iD sm 0 (S.take i)) i)) (k:=S.length) (by omega)
  ⟨0,by omega,fun t _=>rfl,rfl,rfl,e92,F,hm2,hmb⟩ ?_
 rintro j e' tb nb ⟨i,hj,he,f90,f91,f92,F,hm2,hmb⟩;have f12:=(he 12 (by decide)).trans e12;have f20:=(he 20 (by decide)).trans e20;rw[e90] at f90;rw[e91] at f91;dsimp only at f12 f20 f90 f91 f92;refine sQ (WO.j f92 f91 (fun hz=>?_) (fun hz=>?_))
 ·have hi:i<S.length:=by simp only[zO] at hz;omega
  obtain⟨a,ha⟩:∃a,S[i]? = some a:=⟨S[i],Zm hi⟩;have haS:a∈S:=ZJ ha;have htk:S.take (i+1)=S.take i++[a]:=by rw[List.take_add_one,ha];rfl
  have hfr:¬a∈S.take i:=by
   intro hm;have h1:S=S.take i++a::S.drop (i+1):=by
    have h2:=List.take_append_drop (i+1) S;rw[htk,List.append_assoc] at h2;exact h2.symm
   rw[h1,List.nodup_append] at hnd;exact hnd.2.2 a hm a (by simp) rfl
  refine nZ (WC.seq (WC.cond_true rfl (WC.skip (zN (WC.seq (WC.block (sQ ?_)))))));refine WO.idxL f90 f92 rfl hi (WO.load rfl F.la rfl (eK ha) rfl (WO.mv rfl (nZ (WC.ops ?_))));refine WO.mv f20 (WO.mv rfl (WO.load (v:=trO) f12 F.lt rfl rfl rfl (WO.mv rfl ?_)));refine WO.a (vs:=[trO,vI a]) rfl rfl (cO (n:=n+4) hh.l F.rc H.lw haS (Zv (H.small hB haS) (by decide))) ?_;rintro u ⟨t1,n1⟩ ⟨rfl,k1⟩;dsimp only at k1;have F1:=F.kp' k1;have g1:=k1.1;have hmb1:=(k1.2 mb hm2).trans hmb;refine WO.step (i:=.mset (.t 96) (.t 97) (.t 100)) (vd (vn:=.ofNat (sm a)) rfl rfl rfl hmb1 (va (S.take i) 0 0 hfr)) ?_;refine WO.nil (zB (zN (WC.ops (WO.add f92 rfl (by simp only[zO];omega) (by simp only[zO];omega) (WO.mv rfl (WO.nil ?_))))));refine⟨j-1,by omega,rfl,i+1,by omega,fun t h=>?_,f90.trans e90.symm,f91.trans e91.symm,rfl,F1.upd hm1,by show mb<n1;omega,?_⟩
  ·repeat first|exact he t h|refine(bc (by omega)).trans ?_
  ·show aa mb (upd mb (AObj.map (iD sm 0 (S.take i)++[(nI a,Value.int .i64 (.ofNat (sm a)),i)]) (i+1)) t1)=_;have hl:(S.take i).length=i:=by rw[ZG];omega
   rw[zS hmb1,htk,tK,ZB,hl]
 ·have hi:i=S.length:=by simp only[zO] at hz;omega
  subst hi;rw[List.take_length] at hmb;refine nZ (WC.seq (WC.cond_false rfl (WC.exit (aR (aI ?_)))));refine hQ _ _ _ (fun t h=>?_) F hm2 hmb;exact(bc (by omega)).trans (he t h)
theorem OU{hk:List (aK Ar)}(hh:QHk hk S){n:Nat}(hn:2001≤n)(hS:S.length≤12)(F:Lw S off acts ka bx tbl nx x)(H:Sl x S lm ow sm B)(hB:S.length*B<2305843009213693952)(hm2:mb<nx){c:Nat}(hmb:aa mb tbl=some (.map (iD f 0 S) c))(hf:∀a,a∈S→sm a=f a)
  {e:LV} {Q:Ex→LV→Mem Ar→Prop} (e12:aa 12 e=some (.pointer (some ⟨bx,0,none⟩))) (e20:aa 20 e=some (.map (some mb))) (e160:aa 160 e=some (.slice (some ⟨ka,0,none⟩) S.length S.length)) (e161:aa 161 e=some (vI S.length)) (e162:aa 162 e=some (vI 0))
  (hQ:∀e' tbl' nx',(∀t,t<22→aa t e'=aa t e)→Lw S off acts ka bx tbl' nx' x→Q .norm e' ⟨[],tbl',nx'⟩) :
  WC (RF1 hk (n+6)) (n+6) qN e ⟨[],tbl,nx⟩ Q:=by
 unfold qN;refine WC.block ?_;refine WC.loop (fun j e' tb nb=>∃i,i+j=S.length∧(∀t,t<22→e' t=aa t e)∧e' 160=aa 160 e∧e' 161=aa 161 e∧e' 162=some (vI i)∧Lw S off acts ka bx tb nb x∧mb<nb∧aa mb tb=some (.map (iD f 0 S) c)) (k:=S.length) (by omega)
  ⟨0,by omega,fun t _=>rfl,rfl,rfl,e162,F,hm2,hmb⟩ ?_
 rintro j e' tb nb ⟨i,hj,he,f160,f161,f162,F,hm2,hmb⟩;have f12:=(he 12 (by decide)).trans e12;have f20:=(he 20 (by decide)).trans e20;rw[e160] at f160;rw[e161] at f161;dsimp only at f12 f20 f160 f161 f162;refine sQ (WO.j f162 f161 (fun hz=>?_) (fun hz=>?_))
 ·have hi:i<S.length:=by simp only[zO] at hz;omega
  obtain⟨a,ha⟩:∃a,S[i]? = some a:=⟨S[i],Zm hi⟩;have haS:a∈S:=ZJ ha;refine nZ (WC.seq (WC.cond_true rfl (WC.skip (zN (WC.seq (WC.block (sQ ?_)))))));refine WO.idxL f160 f162 rfl hi (WO.load rfl F.la rfl (eK ha) rfl (WO.mv rfl (nZ (WC.seq (WC.a ?_)))));have K0:Kp tb nb tb (nb+7):=Kp.refl.up (Zn _ _);have F0:=F.kp' K0;obtain⟨u1,⟨t1,n1⟩,hd1,rfl,k1⟩:=cO (n:=n+4) hh.l F0.rc H.lw haS (Zv (H.small hB haS) (by decide));dsimp only at k1;have F1:=F0.kp' k1;have g1:=k1.1;have hmb1:=(k1.2 mb (by omega)).trans hmb;have x0:∀m,(⟨[],tb,m⟩:Mem Ar).load ⟨bx,0,none⟩ 1=some [pO]:=fun m=>ae F.lt rfl rfl
  have x1:(⟨[],t1,n1⟩:Mem Ar).load ⟨bx,0,none⟩ 1=some [pO]:=ae F1.lt rfl rfl;have y0:∀m,(⟨[],tb,m⟩:Mem Ar).mrd mb .i64 (.ofNat a) [.int .i64 (.ofNat 0)]=some [nI (f a)]:=fun m=>oe hmb haS
  have y1:(⟨[],t1,n1⟩:Mem Ar).mrd mb .i64 (.ofNat a) [i0 0]=some [nI (f a)]:=oe hmb1 haS;have ci:dC [nI (f a)] [nI (f a)]=true:=eI _ _;refine WD.load (m:=⟨[],tb,nb+7⟩) (ms:=[]) (v:=trO) (az f12 rfl rfl) (x0 _) rfl (WD.pure (v:=vI a) (az (v:=vI a) rfl rfl rfl) ?_);refine WD.chn (m:=⟨[],tb,nb+7⟩) (m':=⟨[],t1,n1⟩) (v:=vI (sm a)) rfl rfl rfl (aW (m:=⟨[],tb,nb+7⟩) (h:=⟨t1,n1⟩) (vs:=[trO,vI a]) rfl rfl hd1) ?_;refine WD.pure (az f20 rfl rfl) (WD.pure (v:=vI a) (az (v:=vI a) rfl rfl rfl) (WD.mget (b:=mb) (j:=.i64) (n:=.ofNat a) (v:=nI (f a)) rfl rfl y1 ?_));rw[hf a haS];refine WD.pure (kT (a:=.ofNat (f a)) rfl rfl) (WD.nil ⟨?_,_,_,rfl,?_⟩)
  ·simp only[bi,bn,x0,x1,y0,y1,fp,ci];rfl
  refine zN (WC.cond_false rfl (WC.skip (zB (zN (WC.ops ?_)))));refine WO.add (m:=⟨[],t1,n1⟩) f162 rfl (by simp only[zO];omega) (by simp only[zO];omega) (WO.mv rfl (WO.nil ?_));refine⟨j-1,by omega,rfl,i+1,by omega,fun t h=>?_,f160.trans e160.symm,f161.trans e161.symm,rfl,F1,by show mb<n1;omega,hmb1⟩;show aa t _=_;refine(bc (by omega)).trans ((bc (by omega)).trans ?_);repeat first|exact he t h|refine(bc (by omega)).trans ?_
 ·refine nZ (WC.seq (WC.cond_false rfl (WC.exit (aR (aI ?_)))));refine hQ _ _ _ (fun t h=>?_) F;exact(bc (by omega)).trans (he t h)
end Go.AI
namespace Go.AI
open Go.Proofs
open Go.Fo (Wd Un Pre)
variable {x:Ar}{S:List Nat}{lm ow sm f:Nat→Nat}{tbl t':LO}{nx n' off ka bx mb B:Nat}{acts:List Value}
theorem HM{env:LV}{e:EqK}{x y:Opd}{a b c:Int}(hx:evo env x=some (.int .i64 a))(hy:evo env y=some (.int .i64 b))(h:a-b=c)(h1:-9223372036854775808≤c)(h2:c<9223372036854775808):aw env (.bin .sub e x y)=some (.int .i64 c):=by
 subst h;simp only[aw,hx,hy,bu,bF,if_true,gA h1 h2]
theorem NZ{hk:List (aK Ar)}(hh:QHk hk S){n:Nat}(hn:2001≤n)(hS:S.length≤12)(F:Lw S off acts ka bx tbl nx x)(H:Sl x S lm ow sm B)(hB:S.length*B<2305843009213693952)(hm2:mb<nx){cc c s:Nat}(hmb:aa mb tbl=some (.map (iD f 0 S) cc))(hf:∀a,a∈S→sm a=f a∨sm a=f a+s∨sm a+s=f a)(hfs:∀a,a∈S→f a<2305843009213693952)(hs:s<2305843009213693952)
  {e:LV} {Q:Ex→LV→Mem Ar→Prop} (e12:aa 12 e=some (.pointer (some ⟨bx,0,none⟩))) (e16:aa 16 e=some (vI c)) (e19:aa 19 e=some (vI s)) (e20:aa 20 e=some (.map (some mb))) (e107:aa 107 e=some (.slice (some ⟨ka,0,none⟩) S.length S.length)) (e108:aa 108 e=some (vI S.length)) (e109:aa 109 e=some (vI 0))
  (hQ:∀e' tbl' nx',(∀t,t<22→aa t e'=aa t e)→Lw S off acts ka bx tbl' nx' x→mb<nx'→aa mb tbl'=some (.map (iD f 0 S) cc)→Q .norm e' ⟨[],tbl',nx'⟩) :
  WC (RF1 hk (n+6)) (n+6) rM e ⟨[],tbl,nx⟩ Q:=by
 unfold rM;refine WC.block ?_;refine WC.loop (fun j e' tb nb=>∃i,i+j=S.length∧(∀t,t<22→e' t=aa t e)∧e' 107=aa 107 e∧e' 108=aa 108 e∧e' 109=some (vI i)∧Lw S off acts ka bx tb nb x∧mb<nb∧aa mb tb=some (.map (iD f 0 S) cc)) (k:=S.length) (by omega)
  ⟨0,by omega,fun t _=>rfl,rfl,rfl,e109,F,hm2,hmb⟩ ?_
 rintro j e' tb nb ⟨i,hj,he,f107,f108,f109,F,hm2,hmb⟩;have f12:=(he 12 (by decide)).trans e12;have f16:=(he 16 (by decide)).trans e16;have f19:=(he 19 (by decide)).trans e19;have f20:=(he 20 (by decide)).trans e20;rw[e107] at f107;rw[e108] at f108;dsimp only at f12 f16 f19 f20 f107 f108 f109;refine sQ (WO.j f109 f108 (fun hz=>?_) (fun hz=>?_))
 ·have hi:i<S.length:=by simp only[zO] at hz;omega
  obtain⟨a,ha⟩:∃a,S[i]? = some a:=⟨S[i],Zm hi⟩;have haS:a∈S:=ZJ ha;refine nZ (WC.seq (WC.cond_true rfl (WC.skip (zN (WC.seq (WC.block (sQ ?_)))))));refine WO.idxL f107 f109 rfl hi (WO.load rfl F.la rfl (eK ha) rfl (WO.mv rfl (nZ (WC.seq (WC.a ?_)))));have K0:Kp tb nb tb (nb+34):=Kp.refl.up (Zn _ _);have F0:=F.kp' K0;have hsa:=H.small hB haS;have hfa:=hfs a haS;have x0:∀m,(⟨[],tb,m⟩:Mem Ar).load ⟨bx,0,none⟩ 1=some [pO]:=fun m=>ae F.lt rfl rfl
  have y0:∀m,(⟨[],tb,m⟩:Mem Ar).mrd mb .i64 (.ofNat a) [.int .i64 (.ofNat 0)]=some [nI (f a)]:=fun m=>oe hmb haS
  have ci:dC [nI (f a)] [nI (f a)]=true:=eI _ _;by_cases hac:a=c
  ·subst hac;refine WD.pure (v:=vI a) (az (v:=vI a) rfl rfl rfl) (WD.pure (v:=vI a) (az f16 rfl rfl) (WD.pure (kT (a:=.ofNat a) rfl rfl) (WD.pure (v:=.bool false) rfl ?_)));refine WD.skip rfl (WD.skip rfl (WD.skip rfl (WD.skip rfl (WD.skip rfl (WD.skip rfl (WD.skip rfl (WD.pure (v:=.bool false) rfl (WD.pure (v:=.bool false) rfl ?_))))))));refine WD.skip rfl (WD.skip rfl (WD.skip rfl (WD.skip rfl (WD.skip rfl (WD.skip rfl (WD.skip rfl (WD.skip rfl (WD.skip rfl (WD.pure (v:=.bool false) rfl (WD.pure (v:=.bool false) rfl ?_))))))))));refine WD.skip rfl (WD.skip rfl (WD.skip rfl (WD.skip rfl (WD.skip rfl (WD.skip rfl (WD.skip rfl (WD.skip rfl (WD.skip rfl (WD.pure (v:=.bool false) rfl (WD.nil ⟨rfl,_,_,rfl,?_⟩))))))))));refine zN (WC.cond_false rfl (WC.skip (zB (zN (WC.ops ?_)))));refine WO.add (m:=⟨[],tb,nb+34⟩) f109 rfl (by simp only[zO];omega) (by simp only[zO];omega) (WO.mv rfl (WO.nil ?_));refine⟨j-1,by omega,rfl,i+1,by omega,fun t h=>?_,f107.trans e107.symm,f108.trans e108.symm,rfl,F0,by show mb<nb+34;omega,hmb⟩;show aa t _=_;refine(bc (by omega)).trans ((bc (by omega)).trans ?_);repeat first|exact he t h|refine(bc (by omega)).trans ?_
  obtain⟨u1,⟨t1,n1⟩,hd1,rfl,k1⟩:=cO (n:=n+4) hh.l F0.rc H.lw haS (Zv hsa (by decide));dsimp only at k1;have F1:=F0.kp' k1;have g1:=k1.1;have hmb1:=(k1.2 mb (by omega)).trans hmb;have x1:(⟨[],t1,n1⟩:Mem Ar).load ⟨bx,0,none⟩ 1=some [pO]:=ae F1.lt rfl rfl;have y1:(⟨[],t1,n1⟩:Mem Ar).mrd mb .i64 (.ofNat a) [i0 0]=some [nI (f a)]:=oe hmb1 haS;refine WD.pure (v:=vI a) (az (v:=vI a) rfl rfl rfl) (WD.pure (v:=vI c) (az f16 rfl rfl) (WD.pure (uy (a:=.ofNat a) (b:=.ofNat c) rfl rfl fun h=>hac (Zx h)) (WD.pure (v:=.bool true) rfl ?_)));refine WD.take rfl (WD.load (m:=⟨[],tb,nb+34⟩) (ms:=[]) (v:=trO) (az f12 rfl rfl) (x0 _) rfl (WD.take rfl (WD.pure (v:=vI a) (az (v:=vI a) rfl rfl rfl) (WD.take rfl ?_))));refine WD.chn (m:=⟨[],tb,nb+34⟩) (m':=⟨[],t1,n1⟩) (v:=vI (sm a)) rfl rfl rfl (aW (m:=⟨[],tb,nb+34⟩) (h:=⟨t1,n1⟩) (vs:=[trO,vI a]) rfl rfl hd1) ?_;refine WD.take rfl (WD.pure (az f20 rfl rfl) (WD.take rfl (WD.pure (v:=vI a) (az (v:=vI a) rfl rfl rfl) (WD.take rfl (WD.mget (b:=mb) (j:=.i64) (n:=.ofNat a) (v:=nI (f a)) rfl rfl y1 (WD.take rfl ?_))))));by_cases h1:sm a=f a
  ·refine WD.pure (v:=.bool false) (by rw[h1];exact kT (a:=.ofNat (f a)) rfl rfl) (WD.pure (v:=.bool false) rfl (WD.pure (v:=.bool false) rfl ?_));refine WD.skip rfl (WD.skip rfl (WD.skip rfl (WD.skip rfl (WD.skip rfl (WD.skip rfl (WD.skip rfl (WD.skip rfl (WD.skip rfl (WD.pure (v:=.bool false) rfl (WD.pure (v:=.bool false) rfl ?_))))))))));refine WD.skip rfl (WD.skip rfl (WD.skip rfl (WD.skip rfl (WD.skip rfl (WD.skip rfl (WD.skip rfl (WD.skip rfl (WD.skip rfl (WD.pure (v:=.bool false) rfl (WD.nil ⟨?_,_,_,rfl,?_⟩))))))))))
   ·simp only[bi,bn,x0,x1,y0,y1,fp,ci];rfl
   refine zN (WC.cond_false rfl (WC.skip (zB (zN (WC.ops ?_)))));refine WO.add (m:=⟨[],t1,n1⟩) f109 rfl (by simp only[zO];omega) (by simp only[zO];omega) (WO.mv rfl (WO.nil ?_));refine⟨j-1,by omega,rfl,i+1,by omega,fun t h=>?_,f107.trans e107.symm,f108.trans e108.symm,rfl,F1,by show mb<n1;omega,hmb1⟩;show aa t _=_;refine(bc (by omega)).trans ((bc (by omega)).trans ?_);repeat first|exact he t h|refine(bc (by omega)).trans ?_
  refine WD.pure (uy (a:=.ofNat (sm a)) (b:=.ofNat (f a)) rfl rfl fun h=>h1 (Zx h)) (WD.pure (v:=.bool true) rfl (WD.pure (v:=.bool true) rfl ?_));obtain⟨u2,⟨t2,n2⟩,hd2,rfl,k2⟩:=cO (n:=n+4) hh.l F1.rc H.lw haS (Zv hsa (by decide));dsimp only at k2;have F2:=F1.kp' k2;have g2:=k2.1;have hmb2:=(k2.2 mb (by omega)).trans hmb1;have x2:(⟨[],t2,n2⟩:Mem Ar).load ⟨bx,0,none⟩ 1=some [pO]:=ae F2.lt rfl rfl;have y2:(⟨[],t2,n2⟩:Mem Ar).mrd mb .i64 (.ofNat a) [i0 0]=some [nI (f a)]:=oe hmb2 haS;refine WD.take rfl (WD.load (m:=⟨[],t1,n1⟩) (v:=trO) (az f12 rfl rfl) x1 rfl (WD.take rfl (WD.pure (v:=vI a) (az (v:=vI a) rfl rfl rfl) (WD.take rfl ?_))));refine WD.chn (m:=⟨[],t1,n1⟩) (m':=⟨[],t2,n2⟩) (v:=vI (sm a)) rfl rfl rfl (aW (m:=⟨[],t1,n1⟩) (h:=⟨t2,n2⟩) (vs:=[trO,vI a]) rfl rfl hd2) ?_;refine WD.take rfl (WD.pure (az f20 rfl rfl) (WD.take rfl (WD.pure (v:=vI a) (az (v:=vI a) rfl rfl rfl) (WD.take rfl (WD.mget (b:=mb) (j:=.i64) (n:=.ofNat a) (v:=nI (f a)) rfl rfl y2 ?_)))));refine WD.take rfl (WD.pure (az f19 rfl rfl) (WD.take rfl (WD.pure (v:=vI (f a+s)) (ur (a:=.ofNat (f a)) (b:=.ofNat s) rfl rfl rfl (by simp only[zO];omega) (by simp only[zO];omega)) (WD.take rfl ?_))));by_cases h2:sm a=f a+s
  ·refine WD.pure (v:=.bool false) (by rw[h2];exact kT (a:=.ofNat (f a+s)) rfl rfl) (WD.pure (v:=.bool false) rfl (WD.pure (v:=.bool false) rfl ?_));refine WD.skip rfl (WD.skip rfl (WD.skip rfl (WD.skip rfl (WD.skip rfl (WD.skip rfl (WD.skip rfl (WD.skip rfl (WD.skip rfl (WD.pure (v:=.bool false) rfl (WD.nil ⟨?_,_,_,rfl,?_⟩))))))))))
   ·simp only[bi,bn,x0,x1,x2,y0,y1,y2,fp,ci];rfl
   refine zN (WC.cond_false rfl (WC.skip (zB (zN (WC.ops ?_)))));refine WO.add (m:=⟨[],t2,n2⟩) f109 rfl (by simp only[zO];omega) (by simp only[zO];omega) (WO.mv rfl (WO.nil ?_));refine⟨j-1,by omega,rfl,i+1,by omega,fun t h=>?_,f107.trans e107.symm,f108.trans e108.symm,rfl,F2,by show mb<n2;omega,hmb2⟩;show aa t _=_;refine(bc (by omega)).trans ((bc (by omega)).trans ?_);repeat first|exact he t h|refine(bc (by omega)).trans ?_
  have h3:sm a+s=f a:=((hf a haS).resolve_left h1).resolve_left h2;refine WD.pure (uy (a:=.ofNat (sm a)) (b:=.ofNat (f a+s)) rfl rfl fun h=>h2 (Zx h)) (WD.pure (v:=.bool true) rfl (WD.pure (v:=.bool true) rfl ?_));obtain⟨u3,⟨t3,n3⟩,hd3,rfl,k3⟩:=cO (n:=n+4) hh.l F2.rc H.lw haS (Zv hsa (by decide));dsimp only at k3;have F3:=F2.kp' k3;have g3:=k3.1;have hmb3:=(k3.2 mb (by omega)).trans hmb2;have x3:(⟨[],t3,n3⟩:Mem Ar).load ⟨bx,0,none⟩ 1=some [pO]:=ae F3.lt rfl rfl;have y3:(⟨[],t3,n3⟩:Mem Ar).mrd mb .i64 (.ofNat a) [i0 0]=some [nI (f a)]:=oe hmb3 haS;refine WD.take rfl (WD.load (m:=⟨[],t2,n2⟩) (v:=trO) (az f12 rfl rfl) x2 rfl (WD.take rfl (WD.pure (v:=vI a) (az (v:=vI a) rfl rfl rfl) (WD.take rfl ?_))));refine WD.chn (m:=⟨[],t2,n2⟩) (m':=⟨[],t3,n3⟩) (v:=vI (sm a)) rfl rfl rfl (aW (m:=⟨[],t2,n2⟩) (h:=⟨t3,n3⟩) (vs:=[trO,vI a]) rfl rfl hd3) ?_;refine WD.take rfl (WD.pure (az f20 rfl rfl) (WD.take rfl (WD.pure (v:=vI a) (az (v:=vI a) rfl rfl rfl) (WD.take rfl (WD.mget (b:=mb) (j:=.i64) (n:=.ofNat a) (v:=nI (f a)) rfl rfl y3 ?_)))));refine WD.take rfl (WD.pure (az f19 rfl rfl) (WD.take rfl (WD.pure (v:=vI (sm a)) (HM (a:=.ofNat (f a)) (b:=.ofNat s) rfl rfl (by simp only[zO];omega) (by simp only[zO];omega) (by simp only[zO];omega)) (WD.take rfl ?_))));refine WD.pure (kT (a:=.ofNat (sm a)) rfl rfl) (WD.pure (v:=.bool false) rfl (WD.nil ⟨?_,_,_,rfl,?_⟩))
  ·simp only[bi,bn,x0,x1,x2,x3,y0,y1,y2,y3,fp,ci];rfl
  refine zN (WC.cond_false rfl (WC.skip (zB (zN (WC.ops ?_)))));refine WO.add (m:=⟨[],t3,n3⟩) f109 rfl (by simp only[zO];omega) (by simp only[zO];omega) (WO.mv rfl (WO.nil ?_));refine⟨j-1,by omega,rfl,i+1,by omega,fun t h=>?_,f107.trans e107.symm,f108.trans e108.symm,rfl,F3,by show mb<n3;omega,hmb3⟩;show aa t _=_;refine(bc (by omega)).trans ((bc (by omega)).trans ?_);repeat first|exact he t h|refine(bc (by omega)).trans ?_
 ·have hi:i=S.length:=by simp only[zO] at hz;omega
  refine nZ (WC.seq (WC.cond_false rfl (WC.exit (aR (aI ?_)))));refine hQ _ _ _ (fun t h=>?_) F hm2 hmb;exact(bc (by omega)).trans (he t h)
end Go.AI
namespace Go.AI
open Go.Proofs
open Go.Fo (Wd Un Pre LInv mvS addW cutW)
open Classical
variable {x:Ar}{S:List Nat}{lm ow sm:Nat→Nat}{tbl t':LO}{nx n' off ka bx:Nat}{acts:List Value}
noncomputable def pw:List Value→Hp Ar→Option (Value×Hp Ar):=fun vs h=>run F1 ac (ab cr) 1000 5 vs h
noncomputable def hQ(S:List Nat):List (aK Ar):=(5,pw)::(4,cB (.bool true))::(27,cH lU (fun _=>none))::(35,cH mf (fun _=>none))::hT5 S
theorem M0:QHk (hQ S) S :=
 ⟨⟨⟨_,rfl⟩,⟨_,rfl⟩,⟨_,rfl⟩,⟨_,rfl⟩,⟨_,rfl⟩,⟨_,rfl⟩,⟨_,rfl⟩,rfl,rfl,rfl,rfl,rfl,rfl,rfl⟩,⟨⟨rfl,rfl,rfl,rfl,rfl,rfl,rfl⟩,rfl,rfl,rfl,rfl,rfl,rfl,rfl,rfl,rfl⟩,rfl,rfl,rfl,rfl,rfl,rfl⟩
theorem Iz{hk:List (aK Ar)}(hh:ab hk 7=none){n r:Nat} :
  ∃u h',RF1 hk (n+1) 7 [.pointer (some ⟨r,0,none⟩)] ⟨tbl,nx⟩=some (u,h')∧(u = .agg ⟨[.pointer (some ⟨r,0,none⟩)]⟩∧Kp tbl nx h'.tbl h'.next):=by
 refine aG hh fOf (zL rfl) ?_;dsimp only[iOf,aM];refine sQ (WO.new (nZ (sQ (WO.mv rfl (WO.pure rfl ?_)))));refine WO.step (i:=.store 1 (.t 2) (.t 4)) (v:=undef) (m':=⟨[],(nx,.cells [.pointer (some ⟨r,0,none⟩)])::tbl,nx+1⟩) ?_ (nZ (WC.ret ?_))
 ·have hm:=ba (nx:=nx+1) (vs:=[.pointer (some ⟨r,0,none⟩)]) (o:=0) (ob':=.cells (aT [.pointer none] 0 [.pointer (some ⟨r,0,none⟩)])) (tbl:=(nx,.cells [.pointer none])::tbl) (i:=nx) (by rw[zC,if_pos rfl]) rfl (zL rfl) rfl;rw[cw] at hm;exact aJ rfl rfl rfl rfl hm
 ·have hl:(⟨[],(nx,AObj.cells [.pointer (some ⟨r,0,none⟩)])::tbl,nx+1⟩:Mem Ar).load ⟨nx,0,none⟩ 1=some [.pointer (some ⟨r,0,none⟩)]:=ae (by rw[zC,if_pos rfl]) rfl rfl;exact⟨_,_,iK rfl hl rfl rfl,rfl,rfl,bxk⟩
theorem Iq{hk:List (aK Ar)}(hh:ab hk 6=none){n:Nat} :
  ∃u h',RF1 hk (n+1) 6 [trO] ⟨tbl,nx⟩=some (u,h')∧(u=trO∧Kp tbl nx h'.tbl h'.next):=by
 refine aG hh PW (zL rfl) ?_;dsimp only[Oj,aM];have Kb:∀q,Kp tbl nx ((nx+1,AObj.cells [q])::(nx,.cells [pO])::tbl) (nx+1+1):=fun q=>(bxk (o:=AObj.cells [pO])).cons (Zo _) (Zo _)
 have hb:aa nx ((nx+1,AObj.cells [.pointer none])::(nx,.cells [pO])::tbl)=some (.cells [pO]):=by rw[bc (by omega),zC,if_pos rfl]
 refine sQ (WO.box (v:=trO) (cs:=[pO]) rfl rfl (WO.new (nZ (sQ (WO.load (v:=trO) rfl hb rfl rfl rfl (WO.pure (v:=trO) rfl ?_))))));refine WO.step (i:=.store 1 (.t 2) (.t 4)) (v:=undef) (m':=⟨[],(nx+1,.cells [pO])::(nx,.cells [pO])::tbl,nx+1+1⟩) ?_ (nZ (WC.ret ?_))
 ·have hm:=ba (nx:=nx+1+1) (vs:=[pO]) (o:=0) (ob':=.cells [pO]) (tbl:=(nx+1,.cells [.pointer none])::(nx,.cells [pO])::tbl) (i:=nx+1) (by rw[zC,if_pos rfl]) rfl (zL rfl) rfl;rw[cw] at hm;exact aJ rfl rfl rfl rfl hm
 ·have hl:(⟨[],(nx+1,AObj.cells [pO])::(nx,.cells [pO])::tbl,nx+1+1⟩:Mem Ar).load ⟨nx+1,0,none⟩ 1=some [pO]:=ae (by rw[zC,if_pos rfl]) rfl rfl;exact⟨_,_,iK rfl hl rfl rfl,rfl,rfl,Kb _⟩
theorem yF(hC:CV x S=true):bL (wds x S) S (dx x S)=S.map fun a=>(a,0,[]):=by
 have hT:=yO hC;have I:=ft hT;have h2:=hC;unfold CV at h2;rw[Zi] at h2;have hp:∀a,a∈S→(wds x S).par a=0:=by
  intro a ha;have h1:=List.all_eq_true.1 h2.2 a ha;unfold D5 at h1;simp only[Zi,Zg] at h1;exact(cf ha).trans h1.2.2.2.2.2.1
 refine List.map_congr_left fun a ha=>?_
 rw[hp a ha];cases hk:dx x S a with
 |nil=>rfl
 |cons z zs =>
  exfalso;obtain⟨z1,z2⟩:=I.kid ha (b:=z) (by rw[hk];exact Zr ..);rw[hp z z1] at z2;exact z2.2.1 rfl
theorem FH(hC:CV x S=true)(hL:Oi x S=true):Sl x S (fun _=>0) (fun _=>0) (fun _=>0) 0:=by
 have hT:=yO hC;have hl:∀a,a∈S→wd x (a+80)=0∧wd x (a+88)=0∧wd x (a+96)=0:=fun a ha=>by
  have h1:=List.all_eq_true.1 hL a ha;simp only[Zi,Zg] at h1;exact h1
 refine⟨⟨hT,hT.nds,fun a ha=>(hl a ha).1,fun a ha=>(hl a ha).2.1,fun a ha=>(hl a ha).2.2⟩,dx x S,vj hT,ft hT,fun a _=>Ze _,fun a _=>?_,fun a _=>.inl rfl,fun a _=>Nat.zero_le _⟩;unfold Go.Fo.T;exact(Go.Fo.sum_zero fun z _=>by split<;>rfl).symm
theorem Dm{k k2 k3:Nat}(hk8:k<256)(h2:k2<256)(h3:k3<256){l:List ActM}(hu:∀a,a∈l→a.2.1<256∧a.2.2.1<256 ∧ -9223372036854775808≤a.2.2.2)(hll:l.length≤9223372036854775807){cp:Nat}{ad:Option Addr}(had:l.length≠0→ad=some ⟨0,off,some 1⟩)(hO:fc (1+k % 12) off (actsM l)) :
  ∃S:List Nat,S.length<900∧∃v h',RF1 (hQ S) 2014 3 [.int .u8 (.ofNat k),.slice ad l.length cp,.int .u8 (.ofNat k2),.int .u8 (.ofNat k3)] ⟨[(0,.ro off (actsM l))],1⟩=some (v,h')∧v = .bool true:=by
 obtain⟨x,S,ka,rw0,tbl0,nx0,hrun,l0,l2,l3,l241,l249,lka,k1,k2',hC,hB,hCL,hSk,hnd⟩:=hO;have hh:=M0 (S:=S);have hS12:S.length≤12:=by omega
 have hSl:0<S.length:=by omega
 refine⟨S,by omega,?_⟩;refine aG rfl Jg (zL rfl) ?_;dsimp only[zR,aM];refine sQ (WO.mv rfl (nZ (WC.seq (sQ ?_))));refine WO.BY (vs:=[]) (v:=.bool true) (h:=⟨[(0,.ro off (actsM l))],1⟩) rfl rfl ((fQ (n:=2012) (g:=cB (.bool true)) rfl).trans rfl) ?_;refine WO.pure rfl (nZ (cF rfl (WC.seq (sQ (WO.mv rfl (WO.len rfl ?_))))));refine WO.k rfl rfl (fun _=>?_) (fun hle=>?_)
 ·refine nZ (WC.cond_true rfl (sQ (WO.mv rfl (nZ (WC.ret (aB ⟨_,_,rfl,rfl,rfl⟩))))))
 have hl60:l.length≤60:=by simp only[zO] at hle;omega
 refine nZ (cF rfl (sQ ?_));refine WO.mv rfl (WO.pure (zQ (b:=11) rfl rfl) (WO.pure (np rfl (by omega)) (WO.add rfl rfl (by simp only[zO];omega) (by simp only[zO];omega) ?_)));refine WO.BY (vs:=[vI (1+k % 12)]) rfl rfl ((fQ (n:=2012) (g:=pw) rfl).trans hrun) ?_;refine WO.mv rfl (WO.pure rfl (WO.pure rfl (WO.pure rfl (WO.mv rfl (WO.mv rfl (WO.mv rfl (nZ (WC.seq (sQ (WO.mv rfl (WO.pure (v:=.bool false) rfl (nZ (cF rfl (sQ ?_))))))))))))));refine WO.mv rfl (WO.pure (v:=.pointer (some ⟨249,0,none⟩)) rfl (WO.fadd rfl (WO.load (v:=pO) rfl l249 rfl rfl rfl ?_)));refine WO.a (vs:=[pO]) rfl rfl (Iz (hk:=hQ S) (tbl:=tbl0) (nx:=nx0) (n:=2012) (r:=241) rfl) ?_;rintro u ⟨ta,na⟩ ⟨rfl,Ka⟩;dsimp only at Ka;refine WO.a (vs:=[trO]) rfl rfl (Iq (hk:=hQ S) (tbl:=ta) (nx:=na) (n:=2012) rfl) ?_;rintro u ⟨tb,nb⟩ ⟨rfl,Kb⟩;dsimp only at Kb;have K1:=Ka.trans Kb;have g1:=K1.1;refine WO.mv rfl ?_;refine WO.a (vs:=[.slice (some ⟨ka,0,none⟩) S.length S.length]) rfl rfl (EV (S:=S) (n:=2012) hh.book (by omega) (by decide) (by omega) (by show ka<nb;omega) ((K1.2 ka k2').trans lka)) ?_;rintro u ⟨tc,nc⟩ ⟨⟨vN,vO,vL,rfl,B0,hrO,hrL⟩,Kc⟩;dsimp only at B0 hrO hrL Kc;have K2:=K1.trans Kc;have g2:=K2.1;rw[← yF hC] at B0;have G0:GB tc nc [vN,vO,vL] S:=⟨_,_,_,ft (yO hC),vN,vO,vL,rfl,B0,hrO,hrL⟩;refine WO.new (WO.new (WO.step (i:=.store 1 (.t 12) (.t 48)) (v:=undef) (m':=⟨[],(nc+1,.cells bX)::(nc,.cells [pO])::tc,nc+1+1⟩) ?_ (WO.step (i:=.store 3 (.t 13) (.t 50)) (v:=undef) (m':=⟨[],(nc+1,.cells [vN,vO,vL])::(nc,.cells [pO])::tc,nc+1+1⟩) ?_ ?_)))
 ·have hm:=ba (nx:=nc+1+1) (vs:=[pO]) (o:=0) (ob':=.cells [pO]) (tbl:=(nc+1,.cells bX)::(nc,.cells [.pointer none])::tc) (i:=nc) (by rw[bc (by omega),zC,if_pos rfl]) rfl (zL rfl) rfl;rw[wk (by omega),cw] at hm;exact aJ rfl rfl rfl rfl hm
 ·have hm:=ba (nx:=nc+1+1) (vs:=[vN,vO,vL]) (o:=0) (ob':=.cells [vN,vO,vL]) (tbl:=(nc+1,.cells bX)::(nc,.cells [pO])::tc) (i:=nc+1) (by rw[zC,if_pos rfl]) rfl (zL rfl) rfl;rw[cw] at hm;exact aJ rfl rfl rfl rfl hm
 have K3:Kp tc nc ((nc+1,AObj.cells [vN,vO,vL])::(nc,.cells [pO])::tc) (nc+1+1):=(bxk (o:=AObj.cells [pO])).cons (Zo _) (Zo _);have K4:=K2.trans K3;have F:Lw S off (actsM l) ka nc ((nc+1,.cells [vN,vO,vL])::(nc,.cells [pO])::tc) (nc+1+1) x :=
  ⟨(K4.2 _ (by omega)).trans l0,(K4.2 _ (by omega)).trans l2,(K4.2 _ (by omega)).trans l3,(K4.2 _ (by omega)).trans l241,(K4.2 _ (by omega)).trans lka,by rw[bc (by omega),zC,if_pos rfl],k1,by omega,by omega⟩
 have lbk:aa (nc+1) ((nc+1,AObj.cells [vN,vO,vL])::(nc,.cells [pO])::tc)=some (.cells [vN,vO,vL]):=by rw[zC,if_pos rfl]
 have G1:=G0.kp K3;generalize ht1:((nc+1,AObj.cells [vN,vO,vL])::(nc,.cells [pO])::tc)=t1 at F lbk G1 ⊢;refine nZ (WC.seq (sQ (WO.mv rfl (WO.len rfl (WO.mv rfl (nZ ?_))))));refine NB (n:=2007) hh (by decide) hSl hS12 hnd hl60 hu F (by omega) had lbk G1 (FH hC hCL) rfl rfl rfl rfl rfl rfl rfl rfl fun e1 t2 n2 x1 lm ow sm e_2 e_3 e_10 e_12 F1 H1=>?_
 have hBB:S.length*(60*4294967296)<2305843009213693952:=bnd hS12 (Ze _);have b2:=F1.h2;have b3:=F1.h3
 -- who moves,and where to
 refine zN (WC.seq (WC.a ?_));have la:∀(m q y:Nat),S[q]? = some y→(⟨[],t2,m⟩:Mem Ar).load ⟨ka,0+q*1,none⟩ 1=some [nI y]:=fun m q y hq=>ae F1.la rfl (eK hq)
 have ixl:∀p,p % S.length<S.length:=fun p=>Nat.mod_lt _ hSl
 have ix:∀p,∃y,S[p % S.length]? = some y:=fun p=>⟨S[p % S.length]'(ixl p),Zm _⟩
 obtain⟨c,hy1⟩:=ix k2;obtain⟨p,hy2⟩:=ix k3;have hc:c∈S:=ZJ hy1;have hp:p∈S:=ZJ hy2;have la1:=fun m=>la m _ _ hy1
 have la2:=fun m=>la m _ _ hy2
 have ci:∀y,dC [nI y] [nI y]=true:=fun y=>eI _ _
 refine WD.pure (az e_10 rfl rfl) (WD.pure (az e_2 rfl rfl) (WD.pure (np rfl h2) (WD.pure (az e_10 rfl rfl) (WD.pure (uw rfl) (WD.pure (uv rfl rfl hSl) (WD.pure (dF rfl rfl rfl (ixl k2)) (WD.load rfl (la1 _) rfl ?_)))))));refine WD.pure (az e_10 rfl rfl) (WD.pure (az e_3 rfl rfl) (WD.pure (np rfl h3) (WD.pure (az e_10 rfl rfl) (WD.pure (uw rfl) (WD.pure (uv rfl rfl hSl) (WD.pure (dF rfl rfl rfl (ixl k3)) (WD.load rfl (la2 _) rfl ?_)))))));refine WD.pure rfl (WD.pure rfl (WD.nil ⟨?_,_,_,rfl,?_⟩))
 ·simp only[bi,bn,la1,la2,ci];rfl
 -- its parent,and its sum
 obtain⟨_,hpar⟩:=hh.l.par;have F2:=F1.kp' (Kp.refl.up (Zn n2 18));refine zN (WC.seq (WC.a ?_));dsimp only;have F3:Lw S off (actsM l) ka nc t2 (n2+18+9) x1:=F2.kp' (Kp.refl.up (Zn _ 9));have hd1:=jc (F:=FA) (cl:=fun _=>false) (hk:=ab (hQ S)) (n:=2012) (vs:=[trO,vI c]) F3.rc H1.lw.tw.ref (H1.lw.tw.par hc) hpar rfl rfl rfl;rw[iV F3.li] at hd1;obtain⟨u2,⟨t3,n3⟩,hd2,rfl,k3'⟩:=cO (n:=2011) hh.l F3.rc H1.lw hc (Zv (H1.small hBB hc) (by decide));dsimp only at k3';have F4:=F3.kp' k3';have y1:∀m,(⟨[],t2,m⟩:Mem Ar).load ⟨nc,0,none⟩ 1=some [pO]:=fun m=>ae F1.lt rfl rfl
 have y2:(⟨[],t3,n3⟩:Mem Ar).load ⟨nc,0,none⟩ 1=some [pO]:=ae F4.lt rfl rfl;refine WD.pure (ct (az e_12 rfl rfl)) (WD.load (m:=⟨[],t2,n2+18+9⟩) (ms:=[]) (v:=trO) rfl (y1 _) rfl (WD.pure (v:=vI c) (az (v:=vI c) rfl rfl rfl) ?_));refine WD.chn (m:=⟨[],t2,n2+18+9⟩) (m':=⟨[],t2,n2+18+9⟩) (v:=vI ((wds x1 S).par c)) rfl rfl rfl (aW (m:=⟨[],t2,n2+18+9⟩) (h:=⟨t2,n2+18+9⟩) (vs:=[trO,vI c]) rfl rfl hd1) ?_;refine WD.load (m:=⟨[],t2,n2+18+9⟩) (v:=trO) (az e_12 rfl rfl) (y1 _) rfl (WD.pure (v:=vI c) (az (v:=vI c) rfl rfl rfl) ?_);refine WD.chn (m:=⟨[],t2,n2+18+9⟩) (m':=⟨[],t3,n3⟩) (v:=vI (sm c)) rfl rfl rfl (aW (m:=⟨[],t2,n2+18+9⟩) (h:=⟨t3,n3⟩) (vs:=[trO,vI c]) rfl rfl hd2) ?_;refine WD.pure rfl (WD.pure rfl (WD.nil ⟨?_,_,_,rfl,?_⟩))
 ·simp only[bi,bn,y1,y2,fp];rfl
 -- the map of sums
 refine zN (sQ (WO.step (i:=.mmap 89) (v:=.map (some n3)) (m':=⟨[],(n3,.map [] 0)::t3,n3+1⟩) rfl (WO.mv rfl (nZ ?_))));have b4:=F4.h3;have F5:Lw S off (actsM l) ka nc ((n3,.map [] 0)::t3) (n3+1) x1:=F4.kp' bxk;have hm5:aa n3 ((n3,AObj.map [] 0)::t3)=some (.map [] 0):=by rw[zC,if_pos rfl]
 generalize ht5:((n3,AObj.map [] 0)::t3)=t5 at F5 hm5 ⊢;refine WC.seq (sQ (WO.mv (m:=⟨[],t5,n3+1⟩) e_10 (WO.len rfl (WO.mv rfl (nZ ?_)))));refine NJ (n:=2007) hh (by decide) hS12 hnd F5 H1 hBB (by omega) (ZF _) hm5 e_12 rfl rfl rfl rfl fun e6 t6 n6 he6 F6 m6 hm6=>?_
 have hb1:=F1.h1;have f10:aa 10 e6=some (.slice (some ⟨ka,0,none⟩) S.length S.length):=(he6 10 (by decide)).trans e_10;have f12:aa 12 e6=some (.pointer (some ⟨nc,0,none⟩)):=(he6 12 (by decide)).trans e_12;have f16:aa 16 e6=some (vI c):=(he6 16 (by decide)).trans rfl;have f17:aa 17 e6=some (vI p):=(he6 17 (by decide)).trans rfl;have f18:aa 18 e6=some (vI ((wds x1 S).par c)):=(he6 18 (by decide)).trans rfl;have f19:aa 19 e6=some (vI (sm c)):=(he6 19 (by decide)).trans rfl;have f20:aa 20 e6=some (.map (some n3)):=(he6 20 (by decide)).trans rfl;clear he6
 -- there
 refine zN (WC.seq (sQ ?_));refine WO.load (v:=trO) f12 F6.lt rfl rfl rfl (WO.mv f16 (WO.mv f17 ?_));refine WO.a (vs:=[trO,vI c,vI p]) rfl rfl (nY (n:=2008) hh.l hh.lmove (by omega) (by decide) F6.rc H1 hBB hp hc) ?_;rintro u ⟨t7,n7⟩ hM;rcases hM with⟨hE,_⟩|⟨h0,hu',_,rfl,x2,H2,hw2,K7⟩
 ·rcases hE with⟨_,rfl⟩|⟨_,_,rfl⟩|⟨_,_,_,rfl⟩
  ·exact WO.pure (v:=.bool true) rfl (nZ (WC.cond_true rfl (sQ (WO.mv rfl (nZ (WC.ret (aB ⟨_,_,rfl,rfl,rfl⟩)))))))
  ·exact WO.pure (v:=.bool true) rfl (nZ (WC.cond_true rfl (sQ (WO.mv rfl (nZ (WC.ret (aB ⟨_,_,rfl,rfl,rfl⟩)))))))
  ·exact WO.pure (v:=.bool true) rfl (nZ (WC.cond_true rfl (sQ (WO.mv rfl (nZ (WC.ret (aB ⟨_,_,rfl,rfl,rfl⟩)))))))
 dsimp only at K7;have F7:=F6.kx K7;have g7:=K7.1;have hm7:aa n3 t7=some (.map (iD sm 0 S) S.length):=(K7.2.2 n3 m6 (by omega)).trans hm6;obtain⟨_,kids1,d1,L1⟩:=id H1;refine WO.pure (v:=.bool false) rfl (nZ (cF rfl (WC.seq (sQ (WO.mv f10 (WO.len rfl (WO.mv rfl (nZ ?_))))))));refine NZ (n:=2007) (f:=sm) (s:=sm c) (c:=c) hh (by decide) hS12 F7 H2 hBB (by omega) hm7 (fun a ha=>E5 L1 hc h0 hp hu') (fun a ha=>H1.small hBB ha) (H1.small hBB hc) f12 f16 f19 f20 rfl rfl rfl fun e8 t8 n8 he8 F8 m8 hm8=>?_
 have g10:aa 10 e8=some (.slice (some ⟨ka,0,none⟩) S.length S.length):=(he8 10 (by decide)).trans f10;have g12:aa 12 e8=some (.pointer (some ⟨nc,0,none⟩)):=(he8 12 (by decide)).trans f12;have g16:aa 16 e8=some (vI c):=(he8 16 (by decide)).trans f16;have g18:aa 18 e8=some (vI ((wds x1 S).par c)):=(he8 18 (by decide)).trans f18;have g19:aa 19 e8=some (vI (sm c)):=(he8 19 (by decide)).trans f19;have g20:aa 20 e8=some (.map (some n3)):=(he8 20 (by decide)).trans f20;clear he8
 -- and back
 have hsm2:mvS (wds x1 S) sm c p c=sm c:=L1.QN hc h0 hp hu';refine zN (WC.seq (sQ ?_));refine WO.load (v:=trO) g12 F8.lt rfl rfl rfl (WO.mv g16 ?_);refine WO.a (vs:=[trO,vI c]) rfl rfl (cO (n:=2011) hh.l F8.rc H2.lw hc (Zv (H2.small hBB hc) (by decide))) ?_;rintro u ⟨t9,n9⟩ ⟨rfl,k9⟩;dsimp only at k9;have F9:=F8.kp' k9;have hm9:=(k9.2 n3 m8).trans hm8;have m9:n3<n9:=Zj m8 k9.1;rw[hsm2];refine WO.mv g19 (WO.pure (v:=.bool false) (kT (a:=.ofNat (sm c)) rfl rfl) (WO.mv rfl ?_));refine WO.take rfl rfl (WO.load (v:=trO) g12 F9.lt rfl rfl rfl (WO.take rfl rfl (WO.mv g16 (WO.take rfl rfl (WO.mv g18 (WO.take rfl rfl ?_))))));have hoS:(wds x1 S).par c∈S:=(L1.inv.par c hc h0).1;refine WO.a (vs:=[trO,vI c,vI ((wds x1 S).par c)]) rfl rfl (nY (n:=2008) hh.l hh.lmove (by omega) (by decide) F9.rc H2 hBB hoS hc) ?_;rintro u ⟨t10,n10⟩ hM2;obtain⟨_,kids2,d2,L2⟩:=id H2;rw[hw2] at L2;rcases hM2 with⟨hE,_⟩|⟨_,_,_,rfl,x3,H3,hw3,K10⟩
 ·exfalso;rw[hw2] at hE;rcases hE with⟨q,_⟩|⟨_,q,_⟩|⟨_,_,q,_⟩
  ·rw[nS] at q;exact L1.inv.ne0 hp q
  ·exact vu L1 hc h0 hp q
  ·exact q (CU L1 hc h0 hp hu')
 dsimp only at K10;have F10:=F9.kx K10;have g10':=K10.1;have hm10:aa n3 t10=some (.map (iD sm 0 S) S.length):=(K10.2.2 n3 m9 (by omega)).trans hm9;refine WO.take rfl rfl (WO.pure (v:=.bool false) rfl (WO.pure (v:=.bool false) rfl (nZ (cF rfl (WC.seq (sQ (WO.mv g10 (WO.len rfl (WO.mv rfl (nZ ?_))))))))));refine OU (n:=2007) (f:=sm) hh (by decide) hS12 F10 H3 hBB (by omega) hm10 (fun a ha=>by rw[hw2];exact Gc L1 hc h0 hp hu' L2) g12 g20 rfl rfl rfl fun e11 t11 n11 he11 F11=>?_
 have h12:aa 12 e11=some (.pointer (some ⟨nc,0,none⟩)):=(he11 12 (by decide)).trans g12;have h16:aa 16 e11=some (vI c):=(he11 16 (by decide)).trans g16;have h18:aa 18 e11=some (vI ((wds x1 S).par c)):=(he11 18 (by decide)).trans g18;have hpar3:(wds x3 S).par c=(wds x1 S).par c:=by rw[hw3];exact nS
 have hd3:=jc (F:=FA) (cl:=fun _=>false) (hk:=ab (hQ S)) (n:=2012) (vs:=[trO,vI c]) F11.rc H3.lw.tw.ref (H3.lw.tw.par hc) hpar rfl rfl rfl;rw[iV F11.li,hpar3] at hd3;refine zN (sQ ?_);refine WO.fadd h12 (WO.load (v:=trO) rfl F11.lt rfl rfl rfl (WO.mv h16 ?_));refine WO.BY (vs:=[trO,vI c]) rfl rfl hd3 ?_;refine WO.mv h18 (WO.pure (v:=.bool true) ((z6 (a:=.ofNat ((wds x1 S).par c)) (b:=.ofNat ((wds x1 S).par c)) rfl rfl).trans (by rw[eS])) (WO.mv rfl (nZ (WC.ret ⟨_,_,rfl,rfl,rfl⟩))))
end Go.AI
