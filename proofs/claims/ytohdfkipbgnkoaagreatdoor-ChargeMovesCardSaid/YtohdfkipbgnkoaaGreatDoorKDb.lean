/- The law's book: the walk. -/
import Derived.Test.YtohdfkipbgnkoaaGreatDoorKDa
import Derived.Test.YtohdfkipbgnkoaaGreatDoorKRf
import Derived.Test.YtohdfkipbgnkoaaGreatDoorKIf
import Derived.Test.YtohdfkipbgnkoaaGreatDoorKCb
set_option maxRecDepth 4000
namespace Go.AI
open Go.Proofs
open Go.Fo (Wd Un Pre)
variable {tbl t' t'':LO}{nx n' n'' lo:Nat}{S:List Nat}
structure RowG(e t lo:Nat)(tbl:LO)(nx k:Nat)(v:Value)(cs:List Value)(m:Nat):Prop where
 len:cs.length=m*e
 nil:m=0→v = .slice none 0 0
 row:m≠0→lo≤k∧k<nx∧v = .slice (some ⟨k,0,none⟩) m m∧aa k tbl=some (.grown e t cs)
theorem RowG.mv{e t k m:Nat}{v:Value}{cs:List Value}(h:RowG e t lo tbl nx k v cs m)(hn:nx≤n')(hk:m≠0→lo≤k→k<nx→aa k t'=aa k tbl):RowG e t lo t' n' k v cs m :=
 ⟨h.len,h.nil,fun h0=>by
  obtain⟨q1,q2,q3,q4⟩:=h.row h0;exact⟨q1,Zj q2 hn,q3,(hk h0 q1 q2).trans q4⟩⟩
theorem RowG.sl{e t k m:Nat}{v:Value}{cs:List Value}(h:RowG e t lo tbl nx k v cs m):∃ad,v = .slice ad m m:=by
 by_cases h0:m=0
 ·subst h0;exact⟨none,h.nil rfl⟩
 ·exact⟨_,(h.row h0).2.2.1⟩
theorem qS{e t b k k0 m:Nat}{v:Value}{cs src:List Value}(h:RowG e t lo tbl nx k v cs m)(he:0<e)(hlo:lo≤nx)(h0:aa k0 tbl=some (.cells src))(hs:src.length=e)(hb:(m+1+1000)*b≤70368744177664) :
  ∃tb,dJ ⟨[],tbl,nx⟩ e b t v (.slice (some ⟨k0,0,none⟩) 1 1)=some (.slice (some ⟨nx,0,none⟩) (m+1) (m+1),⟨[],tb,nx+1⟩)∧RowG e t lo tb (nx+1) nx (.slice (some ⟨nx,0,none⟩) (m+1) (m+1)) (cs++src) (m+1)∧∀j,j≠nx→(m≠0→j≠k)→aa j tb=aa j tbl:=by
 have htk:bg src 0 (1*e)=some src:=by
  have:=ji (cs:=src);rwa [hs,← Nat.one_mul e] at this
 have hsr:source (⟨[],tbl,nx⟩:Mem Ar) e (.slice (some ⟨k0,0,none⟩) 1 1)=some (1,src):=by
  have hld:(⟨[],tbl,nx⟩:Mem Ar).loads (some ⟨k0,0,none⟩) (1*e)=some src:=cJ h0 rfl htk (by omega);simp only[source,hld,Option.map]
 have hl2:(cs++src).length=(m+1)*e:=by rw[Zw,h.len,hs,Nat.succ_mul]
 by_cases hm:m=0
 ·subst hm;have hv:=h.nil rfl;have hc:cs=[]:=List.length_eq_zero_iff.1 (h.len.trans (Nat.zero_mul _));subst hv;subst hc;refine⟨_,fW hsr (by decide) hb,⟨hl2,fun h=>absurd h (by decide),fun _=>⟨hlo,ZF _,rfl,?_⟩⟩,fun j hj _=>?_⟩
  ·rw[zC,if_pos rfl];rfl
  ·exact bc hj
 ·obtain⟨q1,q2,rfl,q4⟩:=h.row hm;have htk2:bg cs 0 (m*e)=some cs:=by
   have:=ji (cs:=cs);rwa [h.len] at this
  have hld:(⟨[],tbl,nx⟩:Mem Ar).loads (some ⟨k,0,none⟩) (m*e)=some cs:=cJ q4 rfl htk2 (Nat.mul_ne_zero hm (by omega));refine⟨_,fd (b:=b) hsr (by rw[hs,Nat.one_mul]) (by decide) (by exact q4) h.len hld hb,⟨hl2,fun h=>absurd h (Nat.succ_ne_zero m),fun _=>⟨hlo,ZF _,rfl,?_⟩⟩,fun j hj hjk=>?_⟩
  ·show aa nx ((nx,AObj.grown e t (cs++src))::AI.del k tbl)=_;rw[zC,if_pos rfl]
  ·show aa j ((nx,AObj.grown e t (cs++src))::AI.del k tbl)=_;rw[bc hj,eu (hjk hm)]
theorem og{call:aP Ar}{env:LV}{m m':Mem Ar}{d e b t:Nat}{x y:Opd}{u v z:Value}(hx:evo env x=some u)(hy:evo env y=some v)(h:dJ m e b t u v=some (z,m')):bh call env m (.append d e b t x y)=some (z,m'):=by
 simp only[bh,bM,hx,hy,h]
abbrev uH(zs:List Int):List Value:=zs.map fun z=>Value.int .i64 z
theorem ti{q:Nat}{z:Int}:uH (List.replicate q z)++[.int .i64 z]=uH (List.replicate (q+1) z):=by
 rw[List.replicate_succ',uH,uH,List.map_append];rfl
abbrev Ed(S:List Nat)(q:Nat):List ee:=(S.take q).map fun a=>(a,0,Value.slice none 0 0)
theorem Bo{q a:Nat}(h:S[q]? = some a):bE (Ed S q)++ak (a,0,.slice none 0 0)=bE (Ed S (q+1)):=by
 unfold Ed bE;rw[List.take_add_one,h,List.map_append,List.flatMap_append];simp
theorem Pd{e:LV}{tb:LO}{nb t b d:Nat}{v:Value}{l:List Value}(h:aa t e=some (.pointer (some ⟨b,0,none⟩)))(hb:aa b tb=some (.cells l))(hl:l.length=3)(hd:t≠d):db ((d,v)::e) ⟨[],tb,nb⟩ [.cell t 3 true]=some [.agg ⟨l⟩]:=by
 have e1:aa t ((d,v)::e)=some (.pointer (some ⟨b,0,none⟩)):=(bc hd).trans h;have hld:(⟨[],tb,nb⟩:Mem Ar).load ⟨b,0,none⟩ 3=some l:=ae hb rfl (iS hl);simp only[db,e1,hld];rfl
theorem EV{hk:List (aK Ar)}(hh:ab hk 8=none){n ka:Nat}(hS:S.length<800)(hn:1001≤n)(hS0:S.length≠0)(hka:ka<nx)(hlk:aa ka tbl=some (.grown 1 3 (S.map nI))) :
  ∃u h',RF1 hk (n+1) 8 [.slice (some ⟨ka,0,none⟩) S.length S.length] ⟨tbl,nx⟩=some (u,h')∧((∃vN vO vL,u = .agg ⟨[vN,vO,vL]⟩∧Bk 0 h'.tbl h'.next vN (S.map fun a=>(a,0,[]))∧IRow h'.tbl h'.next vO S.length∧IRow h'.tbl h'.next vL S.length)∧Kp tbl nx h'.tbl h'.next):=by
 refine aG hh Ma (zL rfl) ?_;dsimp only[FK,aM];refine sQ (WO.new (nZ (sQ (WO.new (nZ (WC.seq (sQ ?_)))))));have hb0:aa (nx+1) ((nx+1,AObj.cells bX)::(nx,.cells bX)::tbl)=some (.cells bX):=by rw[zC,if_pos rfl]
 have hq0:aa nx ((nx+1,AObj.cells bX)::(nx,.cells bX)::tbl)=some (.cells bX):=by rw[zC,if_neg (by show¬nx=nx+1;omega),zC,if_pos rfl]
 have Kb:Kp tbl nx ((nx+1,AObj.cells bX)::(nx,.cells bX)::tbl) (nx+1+1):=(Kp.refl.cons (Ze _) (Zo _)).cons (Zo _) (Zo _);generalize ht0:((nx+1,AObj.cells bX)::(nx,.cells bX)::tbl)=t0 at hb0 hq0 Kb ⊢;refine WO.mv rfl (WO.len rfl (WO.mv rfl (nZ (WC.block ?_))));refine WC.loop (fun j e tb nb=>∃q kN kO kL vN vO vL,q+j=S.length∧e 2=some (.pointer (some ⟨nx,0,none⟩))∧e 3=some (.pointer (some ⟨nx+1,0,none⟩))∧e 6=some (.slice (some ⟨ka,0,none⟩) S.length S.length)∧e 7=some (.int .i64 (Int.ofNat S.length))∧e 8=some (.int .i64 (Int.ofNat q))∧aa nx tb=some (.cells bX)∧aa (nx+1) tb=some (.cells [vN,vO,vL]) ∧
  RowG 3 78 (nx+2) tb nb kN vN (bE (Ed S q)) q∧RowG 1 3 (nx+2) tb nb kO vO (uH (List.replicate q 0)) q∧RowG 1 3 (nx+2) tb nb kL vL (uH (List.replicate q (-1))) q∧(q≠0→kN≠kO∧kN≠kL∧kO≠kL)∧nx+2≤nb∧Kp tbl nx tb nb) (k:=S.length) (by omega)
  ⟨0,0,0,0,.slice none 0 0,.slice none 0 0,.slice none 0 0,by omega,rfl,rfl,rfl,rfl,rfl,hq0,hb0,⟨rfl,fun _=>rfl,fun h=>absurd rfl h⟩,⟨rfl,fun _=>rfl,fun h=>absurd rfl h⟩,⟨rfl,fun _=>rfl,fun h=>absurd rfl h⟩,fun h=>absurd rfl h,Ze _,Kb⟩ ?_
 rintro j e tb nb ⟨q,kN,kO,kL,vN,vO,vL,hj,e2,e3,e6,e7,e8,hc,hb,rN,rO,rL,hne,hnb,hK⟩;dsimp only at e2 e3 e6 e7 e8;refine sQ (WO.j e8 e7 (fun hz=>?_) (fun hz=>?_))
 ·have hq:q<S.length:=by simp only[zO] at hz;omega
  obtain⟨a,ha⟩:∃a,S[q]? = some a:=⟨S[q],Zm hq⟩;have hl:aa ka tb=some (.grown 1 3 (S.map nI)):=(hK.2 ka hka).trans hlk;refine nZ (WC.seq (WC.cond_true rfl (WC.skip (zN (WC.seq (WC.block (sQ ?_)))))));refine WO.idxL e6 e8 rfl hq (WO.load rfl hl rfl (eK ha) rfl (WO.mv rfl (nZ (WC.a ?_))));obtain⟨aN,rfl⟩:=rN.sl;obtain⟨aO,rfl⟩:=rO.sl;obtain⟨aL,rfl⟩:=rL.sl
  -- the nodes' row
  have l1:∀j,j<nb→aa j ((nb+4,AObj.cells (ak (a,0,.slice none 0 0)))::tb)=aa j tb:=fun j hj=>bc (by omega)
  obtain⟨tb1,p1,gN,k1⟩:=qS (b:=40) (k0:=nb+4) (tbl:=(nb+4,AObj.cells (ak (a,0,.slice none 0 0)))::tb) (nx:=nb+20) (src:=ak (a,0,.slice none 0 0)) (rN.mv (n':=nb+20) (by omega) fun _ _ h=>l1 _ h) (by decide) (by omega) (by rw[zC,if_pos rfl]) rfl (by omega);have hk1:∀j,j<nb→(q≠0→j≠kN)→aa j tb1=aa j tb:=fun j hj h=>(k1 j (by omega) h).trans (l1 j hj)
  have hlow:∀{k:Nat} {e t m:Nat} {v:Value} {cs:List Value},RowG e t (nx+2) tb nb k v cs m→m≠0→nx+2≤k:=fun r h=>(r.row h).1
  have hb1:aa (nx+1) tb1=some (.cells [.slice aN q q,.slice aO q q,.slice aL q q]):=(hk1 _ (by omega) fun h=>by have:=hlow rN h;omega).trans hb;have rO1:RowG 1 3 (nx+2) tb1 (nb+21) kO (.slice aO q q) (uH (List.replicate q 0)) q:=rO.mv (by omega) fun h0 _ h=>hk1 _ h fun h=>(hne h).1.symm
  have rL1:RowG 1 3 (nx+2) tb1 (nb+21) kL (.slice aL q q) (uH (List.replicate q (-1))) q:=rL.mv (by omega) fun h0 _ h=>hk1 _ h fun h=>(hne h).2.1.symm
  -- the charges' row
  obtain⟨tb2,p2,gO,k2⟩:=qS (b:=8) (k0:=nb+8) (tbl:=(nb+8,AObj.cells [.int .i64 (.ofNat 0)])::tb1) (nx:=nb+21) (src:=[.int .i64 (.ofNat 0)]) (rO1.mv (n':=nb+21) (Ze _) fun h _ _=>bc (by have:=(rO.row h).2.1;omega)) (by decide) (by omega) (by rw[zC,if_pos rfl]) rfl (by omega);have hk2:∀j,j≠nb+8→j≠nb+21→(q≠0→j≠kO)→aa j tb2=aa j tb1:=fun j h1 h2 h=>(k2 j h2 h).trans (bc h1)
  have hb2:aa (nx+1) tb2=some (.cells [.slice aN q q,.slice aO q q,.slice aL q q]):=(hk2 _ (by omega) (by omega) fun h=>by have:=hlow rO h;omega).trans hb1;have gN2:RowG 3 78 (nx+2) tb2 (nb+22) (nb+20) _ _ _:=gN.mv (by omega) fun _ _ _=>hk2 _ (by omega) (by omega) fun h=>by have:=(rO.row h).2.1;omega
  have rL2:RowG 1 3 (nx+2) tb2 (nb+22) kL (.slice aL q q) (uH (List.replicate q (-1))) q:=rL1.mv (by omega) fun h0 _ h=>hk2 _ (by have:=(rL.row h0).2.1;omega) (by have:=(rL.row h0).2.1;omega) fun h=>(hne h).2.2.symm
  -- the limits' row
  obtain⟨tb3,p3,gL,k3⟩:=qS (b:=8) (k0:=nb+12) (tbl:=(nb+12,AObj.cells [.int .i64 (.negSucc 0)])::tb2) (nx:=nb+22) (src:=[.int .i64 (.negSucc 0)]) (rL2.mv (n':=nb+22) (Ze _) fun h _ _=>bc (by have:=(rL.row h).2.1;omega)) (by decide) (by omega) (by rw[zC,if_pos rfl]) rfl (by omega);have hk3:∀j,j≠nb+12→j≠nb+22→(q≠0→j≠kL)→aa j tb3=aa j tb2:=fun j h1 h2 h=>(k3 j h2 h).trans (bc h1)
  have hb3:aa (nx+1) tb3=some (.cells [.slice aN q q,.slice aO q q,.slice aL q q]):=(hk3 _ (by omega) (by omega) fun h=>by have:=hlow rL h;omega).trans hb2;have gN3:RowG 3 78 (nx+2) tb3 (nb+23) (nb+20) _ _ _:=gN2.mv (by omega) fun _ _ _=>hk3 _ (by omega) (by omega) fun h=>by have:=(rL.row h).2.1;omega
  have gO3:RowG 1 3 (nx+2) tb3 (nb+23) (nb+21) _ _ _:=gO.mv (by omega) fun _ _ _=>hk3 _ (by omega) (by omega) fun h=>by have:=(rL.row h).2.1;omega
  have all3:∀j,j<nx+1→aa j tb3=aa j tb:=fun j hj=>(hk3 j (by omega) (by omega) fun h=>by have:=hlow rL h;omega).trans ((hk2 j (by omega) (by omega) fun h=>by have:=hlow rO h;omega).trans (hk1 j (by omega) fun h=>by have:=hlow rN h;omega))
  generalize hu1:Value.slice (some ⟨nb+20,0,none⟩) (q+1) (q+1)=u1 at p1 gN gN2 gN3;generalize hu2:Value.slice (some ⟨nb+21,0,none⟩) (q+1) (q+1)=u2 at p2 gO gO3;generalize hu3:Value.slice (some ⟨nb+22,0,none⟩) (q+1) (q+1)=u3 at p3 gL;have cu1:cR u1=some [u1]:=by subst hu1;rfl
  have cu2:cR u2=some [u2]:=by subst hu2;rfl
  have cu3:cR u3=some [u3]:=by subst hu3;rfl
  have s1:(⟨[],tb3,nb+23⟩:Mem Ar).store ⟨nx+1,0+0,none⟩ [u1]=some ⟨[],upd (nx+1) (.cells [u1,.slice aO q q,.slice aL q q]) tb3,nb+23⟩:=ba hb3 rfl (zL rfl) rfl;have hb4:aa (nx+1) (upd (nx+1) (.cells [u1,.slice aO q q,.slice aL q q]) tb3)=some (.cells [u1,.slice aO q q,.slice aL q q]):=zS hb3;have s2:(⟨[],upd (nx+1) (.cells [u1,.slice aO q q,.slice aL q q]) tb3,nb+23⟩:Mem Ar).store ⟨nx+1,0+1,none⟩ [u2]=some ⟨[],upd (nx+1) (.cells [u1,u2,.slice aL q q]) tb3,nb+23⟩ :=
   (ba hb4 rfl (zL rfl) (ob':=.cells [u1,u2,.slice aL q q]) rfl).trans (by rw[mT])
  have hb5:aa (nx+1) (upd (nx+1) (.cells [u1,u2,.slice aL q q]) tb3)=some (.cells [u1,u2,.slice aL q q]):=zS hb3;have s3:(⟨[],upd (nx+1) (.cells [u1,u2,.slice aL q q]) tb3,nb+23⟩:Mem Ar).store ⟨nx+1,0+2,none⟩ [u3]=some ⟨[],upd (nx+1) (.cells [u1,u2,u3]) tb3,nb+23⟩ :=
   (ba hb5 rfl (zL rfl) (ob':=.cells [u1,u2,u3]) rfl).trans (by rw[mT])
  have y0:∀m,(⟨[],tb,m⟩:Mem Ar).load ⟨nx+1,0+0,none⟩ 1=some [.slice aN q q]:=fun m=>ae hb rfl rfl
  have y1:∀m,(⟨[],tb,m⟩:Mem Ar).load ⟨nx+1,0+1,none⟩ 1=some [.slice aO q q]:=fun m=>ae hb rfl rfl
  have y2:∀m,(⟨[],tb,m⟩:Mem Ar).load ⟨nx+1,0+2,none⟩ 1=some [.slice aL q q]:=fun m=>ae hb rfl rfl
  have y3:∀m,(⟨[],tb1,m⟩:Mem Ar).load ⟨nx+1,0+1,none⟩ 1=some [.slice aO q q]:=fun m=>ae hb1 rfl rfl
  have y4:∀m,(⟨[],tb1,m⟩:Mem Ar).load ⟨nx+1,0+2,none⟩ 1=some [.slice aL q q]:=fun m=>ae hb1 rfl rfl
  have y5:∀m,(⟨[],tb2,m⟩:Mem Ar).load ⟨nx+1,0+2,none⟩ 1=some [.slice aL q q]:=fun m=>ae hb2 rfl rfl
  have cs1:∀ad:Option Addr,dC [Value.slice ad q q] [.slice ad q q]=true:=fun ad=>by simp only[dC,tz,Bool.and_self]
  refine WD.pure (ct (az e3 rfl rfl)) (WD.load (m:=⟨[],tb,nb+20⟩) (ms:=[]) (v:=.slice aN q q) rfl (y0 _) rfl (WD.pure (v:=vI a) (az (v:=vI a) rfl rfl rfl) (WD.pure (v:=.agg ⟨ak (a,0,.slice none 0 0)⟩) rfl (WD.alloc (hp:=true) (cs:=ak (a,0,.slice none 0 0)) (nn:=some 1) rfl rfl ?_))));refine WD.chn (m:=⟨[],tb,nb+20⟩) (m':=⟨[],tb1,nb+21⟩) (v:=u1) rfl rfl rfl (og (m:=⟨[],(nb+4,.cells (ak (a,0,.slice none 0 0)))::tb,nb+20⟩) rfl rfl p1) ?_;refine WD.pure (ct (az e3 rfl rfl)) (WD.load (m:=⟨[],tb1,nb+21⟩) (v:=.slice aO q q) rfl (y3 _) rfl (WD.alloc (hp:=true) (cs:=[i0 0]) (nn:=some 1) rfl rfl ?_));refine WD.chn (m:=⟨[],tb1,nb+21⟩) (m':=⟨[],tb2,nb+22⟩) (v:=u2) rfl rfl rfl (og (m:=⟨[],(nb+8,.cells [i0 0])::tb1,nb+21⟩) rfl rfl p2) ?_;refine WD.pure (ct (az e3 rfl rfl)) (WD.load (m:=⟨[],tb2,nb+22⟩) (v:=.slice aL q q) rfl (y5 _) rfl (WD.alloc (hp:=true) (cs:=[.int .i64 (.negSucc 0)]) (nn:=some 1) rfl rfl ?_));refine WD.chn (m:=⟨[],tb2,nb+22⟩) (m':=⟨[],tb3,nb+23⟩) (v:=u3) rfl rfl rfl (og (m:=⟨[],(nb+12,.cells [.int .i64 (.negSucc 0)])::tb2,nb+22⟩) rfl rfl p3) ?_;refine WD.pure (ct (az e3 rfl rfl)) (WD.chn (m:=⟨[],tb3,nb+23⟩) (m':=⟨[],upd (nx+1) (.cells [u1,.slice aO q q,.slice aL q q]) tb3,nb+23⟩) (v:=undef) rfl rfl rfl (aJ (m:=⟨[],tb3,nb+23⟩) rfl rfl cu1 rfl s1) ?_);refine WD.pure (ct (az e3 rfl rfl)) (WD.chn (m:=⟨[],upd (nx+1) (.cells [u1,.slice aO q q,.slice aL q q]) tb3,nb+23⟩) (m':=⟨[],upd (nx+1) (.cells [u1,u2,.slice aL q q]) tb3,nb+23⟩) (v:=undef) rfl rfl rfl (aJ (m:=⟨[],upd (nx+1) (.cells [u1,.slice aO q q,.slice aL q q]) tb3,nb+23⟩) rfl rfl cu2 rfl s2) ?_);refine WD.pure (ct (az e3 rfl rfl)) (WD.chn (m:=⟨[],upd (nx+1) (.cells [u1,u2,.slice aL q q]) tb3,nb+23⟩) (m':=⟨[],upd (nx+1) (.cells [u1,u2,u3]) tb3,nb+23⟩) (v:=undef) rfl rfl rfl (aJ (m:=⟨[],upd (nx+1) (.cells [u1,u2,.slice aL q q]) tb3,nb+23⟩) rfl rfl cu3 rfl s3) (WD.nil ⟨?_,_,_,rfl,?_⟩))
  ·simp only[bi,bn,y0,y1,y2,y3,y4,y5,cs1];rfl
  refine zB (zN (WC.ops (WO.add (m:=⟨[],upd (nx+1) (.cells [u1,u2,u3]) tb3,nb+23⟩) e8 rfl (by simp only[zO];omega) (by simp only[zO];omega) (WO.mv rfl (WO.nil ?_)))));refine⟨j-1,by omega,rfl,q+1,nb+20,nb+21,nb+22,u1,u2,u3,by omega,e2,e3,e6,e7,rfl,(zU (by omega)).trans ((all3 nx (by omega)).trans hc),zS hb3,?_,?_,?_,fun _=>⟨by omega,by omega,by omega⟩,by show nx+2≤nb+23;omega,by have:=hK.1;show nx≤nb+23;omega,fun j hj=>(zU (by omega)).trans ((all3 j (by omega)).trans (hK.2 j hj))⟩
  ·rw[← Bo ha];exact gN3.mv (Ze _) fun _ _ _=>zU (by omega)
  ·rw[← ti];exact gO3.mv (Ze _) fun _ _ _=>zU (by omega)
  ·rw[← ti];exact gL.mv (Ze _) fun _ _ _=>zU (by omega)
 ·have hq:q=S.length:=by simp only[zO] at hz;omega
  subst hq;refine nZ (WC.seq (WC.cond_false rfl (WC.exit (aR (aI ?_)))));obtain⟨g1,g2,rfl,g3⟩:=rN.row hS0;obtain⟨f1,f2,rfl,f3⟩:=rO.row hS0;obtain⟨d1,d2,rfl,d3⟩:=rL.row hS0;rw[Ed,List.take_length] at g3;refine zN (sQ (WO.load (v:=.agg ⟨[.slice (some ⟨kN,0,none⟩) S.length S.length,.slice (some ⟨kO,0,none⟩) S.length S.length,.slice (some ⟨kL,0,none⟩) S.length S.length]⟩) e3 hb rfl rfl rfl ?_));refine WO.step (i:=.store 3 (.t 2) (.t 30)) (dt (l:=[.slice (some ⟨kN,0,none⟩) S.length S.length,.slice (some ⟨kO,0,none⟩) S.length S.length,.slice (some ⟨kL,0,none⟩) S.length S.length]) e2 rfl rfl hc rfl) (nZ (WC.ret ⟨_,_,Pd e2 (zS hc) rfl (by decide),rfl,⟨_,_,_,rfl,?_,?_,?_⟩,hK.upd (Ze _)⟩))
  ·exact⟨kN,_,Nat.zero_le _,g2,by rw[List.length_map],(zU (by omega)).trans g3,v7⟩
  ·exact⟨kO,_,List.length_replicate ..,f2,rfl,.inl ((zU (by omega)).trans f3)⟩
  ·exact⟨kL,_,List.length_replicate ..,d2,rfl,.inl ((zU (by omega)).trans d3)⟩
end Go.AI
namespace Go.AI
open Go.Proofs
open Go.Fo (Wd Un Pre)
open Classical
variable {x:Ar}{S:List Nat}{lm ow sm:Nat→Nat}{tbl t' t'':LO}{nx n' n'' lo B:Nat}{w:Wd}{kids:Nat→List Nat}
def Km(tbl:LO)(nx:Nat)(t':LO)(n':Nat):Prop:=nx≤n'∧∀k o,k<nx→aa k tbl=some o→(∀y,o≠.ext y)→aa k t'=some o
theorem Kx.km(h:aa 2 tbl=some (.ext x)){y:Ar}(K:Kx tbl nx y t' n'):Km tbl nx t' n':=⟨K.1,fun k o h1 h2 h3=>(K.2.2 k h1 fun e=>by
 subst e;rw[h] at h2;injection h2 with h2;exact h3 _ h2.symm).trans h2⟩
theorem KidV.km{c:Value}{L:List Nat}(h:KidV lo tbl nx c L)(K:Km tbl nx t' n'):KidV lo t' n' c L:=by
 rcases h with h|⟨k,h0,h1,h2,h3,h4⟩
 ·exact .inl h
 ·exact .inr ⟨k,h0,Zj h1 K.1,h2,h3,K.2 _ _ h1 h4 fun _ e=>by cases e⟩
theorem Bk.km{v:Value}{N:List eR}(h:Bk lo tbl nx v N)(K:Km tbl nx t' n'):Bk lo t' n' v N:=by
 obtain⟨k,M,h0,h1,h2,h3,h4⟩:=h;exact⟨k,M,h0,Zj h1 K.1,h2,K.2 _ _ h1 h3 (fun _ e=>by cases e),h4.mono fun _ _ h=>⟨h.1,h.2.1,h.2.2.km K⟩⟩
theorem IRow.km{v:Value}{m:Nat}(h:IRow tbl nx v m)(K:Km tbl nx t' n'):IRow t' n' v m:=by
 obtain⟨k,zs,h1,h2,h3,h4⟩:=h;exact⟨k,zs,h1,Zj h2 K.1,h3,h4.imp (fun q=>K.2 _ _ h2 q fun _ e=>by cases e) fun q=>K.2 _ _ h2 q fun _ e=>by cases e⟩
theorem GB.km{l:List Value}(h:GB tbl nx l S)(K:Km tbl nx t' n'):GB t' n' l S:=by
 obtain⟨w,kids,d,I,vN,vO,vL,h1,h2,h3,h4⟩:=h;exact⟨w,kids,d,I,vN,vO,vL,h1,h2.km K,h3.km K,h4.km K⟩
theorem GB.len{l:List Value}(h:GB tbl nx l S):l.length=3:=by
 obtain⟨_,_,_,_,h⟩:=h;exact h.len
theorem GB.slC{l:List Value}(h:GB tbl nx l S):SlC (.cells l):=by
 obtain⟨_,_,_,_,h⟩:=h;exact h.slC
structure QHk(hk:List (aK Ar))(S:List Nat):Prop where
 l:LHk hk S
 d:DHk hk
 setl:ab hk 14=none
 chg:ab hk 16=none
 ladd:ab hk 13=none
 lmove:ab hk 12=none
 book:ab hk 8=none
 do_:ab hk 9=none
theorem Sl.more{C:Nat}(h:Sl x S lm ow sm B)(hC:B≤C):Sl x S lm ow sm C:=by
 obtain⟨h1,kids,d,L⟩:=h;exact⟨h1,kids,d,L.more hC⟩
theorem MvR.some{c p:Nat}{u:Value}{h':Hp Ar}(R:Rc tbl nx x)(H:Sl x S lm ow sm B)(h:MvR x S lm ow sm B c p tbl nx u h'):∃e x2 sm2,u=ah e∧Sl x2 S lm ow sm2 B∧Kx tbl nx x2 h'.tbl h'.next:=by
 rcases h with⟨⟨_,e⟩|⟨_,_,e⟩|⟨_,_,_,e⟩,k⟩|⟨_,_,_,h1,x2,h2,_,h3⟩
 ·exact⟨8,x,_,e,H,k.kx R⟩
 ·exact⟨12,x,_,e,H,k.kx R⟩
 ·exact⟨5,x,_,e,H,k.kx R⟩
 ·exact⟨0,x2,_,h1,h2,h3⟩
abbrev gg(p0 p1 p2:Nat)(k:Int):List Value:=[.int .u8 (.ofNat p0),.int .u8 (.ofNat p1),.int .u8 (.ofNat p2),.int .i64 k]
def DoR(S:List Nat)(B:Nat)(tbl:LO)(nx:Nat)(u:Value)(h':Hp Ar):Prop :=
 ∃l2 b x2 lm2 ow2 sm2,u = .tuple ⟨[.agg ⟨l2⟩,.bool b]⟩∧GB h'.tbl h'.next l2 S∧Sl x2 S lm2 ow2 sm2 (B+4294967296)∧Kx tbl nx x2 h'.tbl h'.next
theorem z6{env:LV}{x y:Opd}{a b:Int}(hx:evo env x=some (.int .i64 a))(hy:evo env y=some (.int .i64 b)):aw env (.bin .eql .no x y)=some (.bool (bz a b)):=by
 simp only[aw,hx,hy];rfl
theorem zQ{env:LV}{e:EqK}{x y:Opd}{a b:Nat}(hx:evo env x=some (.int .u8 (.ofNat a)))(hy:evo env y=some (.int .u8 (.ofNat (b+1)))):aw env (.bin .rem e x y)=some (.int .u8 (.ofNat (a % (b+1)))):=by
 have h3:Nat.mod a (b+1)=a % (b+1):=rfl;simp only[aw,hx,hy,bu,bF,vq,if_true,h3,Option.map]
theorem Ph{e:LV}{m:Mem Ar}{t t2 b:Nat}{v:Value}{l:List Value}(h:aa t e=some (.pointer (some ⟨b,0,none⟩)))(h2:aa t2 e=some v)(hl:m.load ⟨b,0,none⟩ 3=some l):db e m [.cell t 3 true,.tmp t2]=some [.agg ⟨l⟩,v]:=by
 simp only[db,h,h2,hl];rfl
theorem LP{hk:List (aK Ar)}(hh:QHk hk S)(hS:S.length<800)(hS0:0<S.length)(hnd:S.Nodup){n ka p0 p1 p2:Nat}{k:Int}{l:List Value}(hn:2001≤n)(R:Rc tbl nx x)(H:Sl x S lm ow sm B)(hB:S.length*B<2305843009213693952)(hB2:S.length*(B+4294967296)<2305843009213693952)
  (G:GB tbl nx l S) (hka:ka<nx) (hlk:aa ka tbl=some (.grown 1 3 (S.map nI))) (u1:p1<256) (u2:p2<256) (hk0:-9223372036854775808≤k) :
  ∃u h',RF1 hk (n+6) 9 [trO,.agg ⟨l⟩,.slice (some ⟨ka,0,none⟩) S.length S.length,.agg ⟨gg p0 p1 p2 k⟩] ⟨tbl,nx⟩=some (u,h')∧DoR S B tbl nx u h':=by
 refine aG hh.do_ PQ (zL rfl) ?_;dsimp only[NH,aM];refine sQ (WO.box (v:=trO) (cs:=[pO]) rfl rfl (WO.box (v:=.agg ⟨l⟩) (cs:=l) rfl rfl (WO.box (v:=.agg ⟨gg p0 p1 p2 k⟩) (cs:=gg p0 p1 p2 k) rfl rfl (WO.new (WO.mv rfl (nZ (WC.seq (WC.a ?_))))))));have Kb:Kp tbl nx ((nx+1+1+1,AObj.cells bX)::(nx+1+1,.cells (gg p0 p1 p2 k))::(nx+1,.cells l)::(nx,.cells [pO])::tbl) (nx+1+1+1+1):=(((Kp.refl.cons (Ze _) (Zo _)).cons (by omega) (Zo _)).cons (by omega) (Zo _)).cons (by omega) (Zo _);have b0:aa nx ((nx+1+1+1,AObj.cells bX)::(nx+1+1,.cells (gg p0 p1 p2 k))::(nx+1,.cells l)::(nx,.cells [pO])::tbl)=some (.cells [pO]):=by
  rw[bc (by omega),bc (by omega),bc (by omega),zC,if_pos rfl]
 have b1:aa (nx+1) ((nx+1+1+1,AObj.cells bX)::(nx+1+1,.cells (gg p0 p1 p2 k))::(nx+1,.cells l)::(nx,.cells [pO])::tbl)=some (.cells l):=by
  rw[bc (by omega),bc (by omega),zC,if_pos rfl]
 have b2:aa (nx+2) ((nx+1+1+1,AObj.cells bX)::(nx+1+1,.cells (gg p0 p1 p2 k))::(nx+1,.cells l)::(nx,.cells [pO])::tbl)=some (.cells (gg p0 p1 p2 k)):=by
  rw[bc (by omega),zC,if_pos rfl]
 have b3:aa (nx+3) ((nx+1+1+1,AObj.cells bX)::(nx+1+1,.cells (gg p0 p1 p2 k))::(nx+1,.cells l)::(nx,.cells [pO])::tbl)=some (.cells bX):=by
  rw[zC,if_pos rfl]
 generalize ht0:((nx+1+1+1,AObj.cells bX)::(nx+1+1,.cells (gg p0 p1 p2 k))::(nx+1,.cells l)::(nx,.cells [pO])::tbl)=t0 at Kb b0 b1 b2 b3 ⊢;have ld:∀(m q:Nat) (v:Value),bg (gg p0 p1 p2 k) q 1=some [v]→(⟨[],t0,m⟩:Mem Ar).load ⟨nx+2,q,none⟩ 1=some [v]:=fun m q v hv=>ae b2 rfl hv
 have la:∀(m q y:Nat),S[q]? = some y→(⟨[],t0,m⟩:Mem Ar).load ⟨ka,0+q*1,none⟩ 1=some [nI y]:=fun m q y hq=>ae ((Kb.2 ka hka).trans hlk) rfl (eK hq)
 have ixl:∀p,p % S.length<S.length:=fun p=>Nat.mod_lt _ hS0
 have ix:∀p,∃y,S[p % S.length]? = some y:=fun p=>⟨S[p % S.length]'(ixl p),Zm _⟩
 obtain⟨a,hy1⟩:=ix p1;obtain⟨o,hy2⟩:=ix p2;have m1:a∈S:=ZJ hy1;have m2:o∈S:=ZJ hy2;have ld1:=fun m=>ld m (0+1) (.int .u8 (.ofNat p1)) rfl
 have ld2:=fun m=>ld m (0+2) (.int .u8 (.ofNat p2)) rfl
 have la1:=fun m=>la m _ _ hy1
 have la2:=fun m=>la m _ _ hy2
 have ci:∀y,dC [nI y] [nI y]=true:=fun y=>eI _ _
 have cu:∀p,dC [Value.int .u8 (.ofNat p)] [Value.int .u8 (.ofNat p)]=true:=fun y=>eI _ _
 refine WD.pure (az (v:=.slice (some ⟨ka,0,none⟩) S.length S.length) rfl rfl rfl) (WD.pure (ct (az (v:=.pointer (some ⟨nx+2,0,none⟩)) rfl rfl rfl)) (WD.load rfl (ld1 _) rfl (WD.pure (np rfl u1) ?_)));refine WD.pure (az (v:=.slice (some ⟨ka,0,none⟩) S.length S.length) rfl rfl rfl) (WD.pure (uw rfl) (WD.pure (uv rfl rfl hS0) (WD.pure (dF rfl rfl rfl (ixl p1)) (WD.load rfl (la1 _) rfl ?_))));refine WD.pure (az (v:=.slice (some ⟨ka,0,none⟩) S.length S.length) rfl rfl rfl) (WD.pure (ct (az (v:=.pointer (some ⟨nx+2,0,none⟩)) rfl rfl rfl)) (WD.load rfl (ld2 _) rfl (WD.pure (np rfl u2) ?_)));refine WD.pure (az (v:=.slice (some ⟨ka,0,none⟩) S.length S.length) rfl rfl rfl) (WD.pure (uw rfl) (WD.pure (uv rfl rfl hS0) (WD.pure (dF rfl rfl rfl (ixl p2)) (WD.load rfl (la2 _) rfl ?_))));refine WD.pure rfl (WD.pure rfl (WD.nil ⟨?_,_,_,rfl,?_⟩))
 ·simp only[bi,bn,ld1,ld2,la1,la2,ci,cu];rfl
 have Kd:Kp tbl nx t0 (nx+1+1+1+1+20):=Kb.up (Zn _ _);have R0:=R.kp Kd;have G0:=G.kp Kd;have hnx:=R.h
 -- the end
 have fin:∀{e:LV} {tb:LO} {nb er:Nat} {f:Int} {l2:List Value} {x2:Ar} {lm2 ow2 sm2:Nat→Nat},aa 5 e=some (.pointer (some ⟨nx+1,0,none⟩))→aa 8 e=some (.pointer (some ⟨nx+3,0,none⟩))→aa 12 e=some (ah er)→aa 13 e=some (.int .i64 f) →
   aa (nx+1) tb=some (.cells l2)→aa (nx+3) tb=some (.cells bX)→GB tb nb l2 S→Sl x2 S lm2 ow2 sm2 (B+4294967296)→Kx tbl nx x2 tb nb →
   WC (RF1 hk (n+5)) (n+5) (.seq (.ops [(none,.load 101 3 true (.t 5)),(none,.pure 102 (.mv (.t 12))),(none,.pure 103 (.mv (.t 13))),(none,.pure 104 (.bin .eql .no (.t 102) (.t 103))),(none,.store 3 (.t 8) (.t 101)),(none,.pure 9 (.mv (.t 104)))]) .ret) e ⟨[],tb,nb⟩ (mC [.cell 8 3 true,.tmp 9] false nx (DoR S B tbl nx)):=by
  intro e tb nb er f l2 x2 lm2 ow2 sm2 e5 e8 e12 e13 h1 h2 hG hSl hK;refine sQ (WO.load (v:=.agg ⟨l2⟩) e5 h1 rfl (iS hG.len) rfl (WO.mv e12 (WO.mv e13 (WO.pure (z6 rfl rfl) ?_))));refine WO.step (i:=.store 3 (.t 8) (.t 101)) (dt (l:=l2) e8 rfl hG.len h2 rfl) (WO.mv rfl (nZ (WC.ret ?_)));have hld:(⟨[],upd (nx+3) (.cells l2) tb,nb⟩:Mem Ar).load ⟨nx+3,0,none⟩ 3=some l2:=ae (zS h2) rfl (iS hG.len);refine⟨[.agg ⟨l2⟩,.bool (bz (.ofNat er) f)],_,?_,rfl,l2,_,x2,lm2,ow2,sm2,rfl,hG.upd h2 pD,hSl,hK.1,?_,fun j hj h=>?_⟩
  ·exact Ph ((bc (by decide)).trans ((bc (by decide)).trans ((bc (by decide)).trans ((bc (by decide)).trans ((bc (by decide)).trans e8))))) (by rw[zC,if_pos rfl]) hld
  ·exact(zU (by omega)).trans hK.2.1
  ·exact(zU (by omega)).trans (hK.2.2 j hj h)
 -- the document's part is done
 have laid:∀{tb:LO} {nb:Nat} {x2:Ar} {lm2 ow2 sm2:Nat→Nat} {B2:Nat} {u:Value} {h2:Hp Ar},Kx t0 (nx+1+1+1+1+20) x2 tb nb→Sl x2 S lm2 ow2 sm2 B2→B2≤B+4294967296→(ma S u h2.tbl h2.next∧Kp tb nb h2.tbl h2.next) →
   ∃l2 f,u = .tuple ⟨[.agg ⟨l2⟩,.int .i64 f]⟩∧l2.length=3∧aa (nx+1) h2.tbl=some (.cells l)∧aa (nx+1) (upd (nx+1) (.cells l2) h2.tbl)=some (.cells l2)∧aa (nx+3) (upd (nx+1) (.cells l2) h2.tbl)=some (.cells bX)∧GB (upd (nx+1) (.cells l2) h2.tbl) h2.next l2 S∧Sl x2 S lm2 ow2 sm2 (B+4294967296)∧Kx tbl nx x2 (upd (nx+1) (.cells l2) h2.tbl) h2.next:=by
  rintro tb nb x2 lm2 ow2 sm2 B2 u ⟨t2,n2⟩ hK hSl hB ⟨⟨l2,f,rfl,hG⟩,kk⟩;dsimp only at hG kk ⊢;have g0:=hK.1;have c1:aa (nx+1) t2=some (.cells l):=(kk.2 _ (by omega)).trans ((hK.2.2 _ (by omega) (by omega)).trans b1);have c3:aa (nx+3) t2=some (.cells bX):=(kk.2 _ (by omega)).trans ((hK.2.2 _ (by omega) (by omega)).trans b3);have KK:=((Kd.kx R).trans hK).kp kk (by omega);exact⟨l2,f,rfl,hG.len,c1,zS c1,(zU (by omega)).trans c3,hG.upd c1 G.slC,hSl.more hB,KK.1,(zU (by omega)).trans KK.2.1,fun j hj h=>(zU (by omega)).trans (KK.2.2 j hj h)⟩
 have bx:∀{tb:LO} {nb:Nat} {x2:Ar},Kx t0 (nx+1+1+1+1+20) x2 tb nb→aa (nx+1) tb=some (.cells l)∧aa (nx+2) tb=some (.cells (gg p0 p1 p2 k))∧GB tb nb l S :=
  fun hK=>⟨(hK.2.2 _ (by omega) (by omega)).trans b1,(hK.2.2 _ (by omega) (by omega)).trans b2,G0.km (hK.km R0.li)⟩
 have hp3:bg (gg p0 p1 p2 k) (0+3) 1=some [.int .i64 k]:=rfl;refine zN (sQ (WO.mv (m:=⟨[],t0,nx+1+1+1+1+20⟩) rfl (nZ (sQ (WO.mv rfl (nZ (WC.seq (sQ ?_))))))));refine WO.fadd rfl (WO.load (v:=.int .u8 (.ofNat p0)) rfl b2 rfl rfl rfl (WO.pure (zQ (b:=7) rfl rfl) (nZ (WC.block ?_))));refine sQ (WO.p rfl rfl (fun _=>?_) (fun _=>?_))
 ·-- a limit
  refine WO.mv rfl (nZ (WC.cond_true rfl (sQ (WO.load (v:=trO) rfl b0 rfl rfl rfl (WO.mv rfl (WO.fadd rfl (WO.load rfl b2 rfl hp3 rfl ?_)))))));refine WO.a (vs:=[trO,vI a,.int .i64 k]) rfl rfl (wr (n:=n+1) hh.l hh.setl R0 H hB m1 hk0) ?_;rintro u ⟨t1,n1⟩ ⟨er,x2,lm2,rfl,hSl,hK⟩;obtain⟨c1,c2,hG⟩:=bx hK;refine WO.mv rfl (nZ (WC.ops (WO.load (v:=.agg ⟨l⟩) rfl c1 rfl (iS G.len) rfl (WO.mv rfl (WO.fadd rfl (WO.load rfl c2 rfl hp3 rfl ?_))))));obtain⟨w2,kids2,d2,I2,BV2⟩:=hG;refine WO.a (vs:=[.agg ⟨l⟩,vI a,.int .i64 k]) rfl rfl (CL (n:=n+2) hh.d I2 hS hnd (by omega) BV2 m1) ?_;rintro u ⟨t2,n2⟩ hR;obtain⟨l2,f,rfl,q1,q2,q3,q4,q5,q6,q7⟩:=laid hK hSl (Zn _ _) hR;refine WO.mv rfl (WO.pure (v:=.agg ⟨l2⟩) rfl (WO.pure (v:=.int .i64 f) rfl (WO.step (i:=.store 3 (.t 5) (.t 61)) (dt (l:=l2) rfl rfl q1 q2 G.len) (WO.mv rfl (WO.nil ?_)))));exact zB (zN (fin rfl rfl rfl rfl q3 q4 q5 q6 q7))
 refine WO.mv rfl (nZ (WC.cond_false rfl (WC.seq (sQ ?_))));have addB:∀(e:LV),aa 4 e=some (.pointer (some ⟨nx,0,none⟩))→aa 5 e=some (.pointer (some ⟨nx+1,0,none⟩))→aa 8 e=some (.pointer (some ⟨nx+3,0,none⟩))→aa 10 e=some (vI a)→aa 11 e=some (vI o) →
   WC (RF1 hk (n+5)) (n+5) (.seq (.ops [(none,.load 66 1 true (.t 4)),(none,.pure 67 (.mv (.t 11))),(none,.pure 68 (.mv (.t 10))),(none,.call (some 69) (.c (.func (.func 13) (.mk []) (.mk []))) [.t 66,.t 67,.t 68]),(none,.pure 12 (.mv (.t 69)))]) (.ops [(none,.load 71 3 true (.t 5)),(none,.pure 72 (.mv (.t 11))),(none,.pure 73 (.mv (.t 10))),(none,.call (some 74) (.c (.func (.func 21) (.mk []) (.mk []))) [.t 71,.t 72,.t 73]),(none,.pure 70 (.mv (.t 74))),(none,.pure 75 (.ext 0 (.t 70))),(none,.pure 76 (.ext 1 (.t 70))),(none,.store 3 (.t 5) (.t 75)),(none,.pure 13 (.mv (.t 76)))])) e ⟨[],t0,nx+1+1+1+1+20⟩ (mn 0 (mr (RF1 hk (n+5)) (n+5) (.seq (.ops [(none,.load 101 3 true (.t 5)),(none,.pure 102 (.mv (.t 12))),(none,.pure 103 (.mv (.t 13))),(none,.pure 104 (.bin .eql .no (.t 102) (.t 103))),(none,.store 3 (.t 8) (.t 101)),(none,.pure 9 (.mv (.t 104)))]) .ret) (mC [.cell 8 3 true,.tmp 9] false nx (DoR S B tbl nx)))):=by
  intro e e4 e5 e8 e10 e11;refine sQ (WO.load (v:=trO) e4 b0 rfl rfl rfl (WO.mv e11 (WO.mv e10 ?_)));refine WO.a (vs:=[trO,vI o,vI a]) rfl rfl (GV (n:=n+1) hh.l hh.ladd hS (by omega) R0 H hB m2 m1) ?_;rintro u ⟨t1,n1⟩ ⟨er,x2,sm2,rfl,hSl,hK⟩;obtain⟨c1,c2,hG⟩:=bx hK;refine WO.mv rfl (nZ (WC.ops (WO.load (v:=.agg ⟨l⟩) e5 c1 rfl (iS G.len) rfl (WO.mv e11 (WO.mv e10 ?_)))));refine WO.a (vs:=[.agg ⟨l⟩,vI o,vI a]) rfl rfl (DE (n:=n+1) hh.d hS hnd (by omega) hG m2 m1) ?_;rintro u ⟨t2,n2⟩ hR;obtain⟨l2,f,rfl,q1,q2,q3,q4,q5,q6,q7⟩:=laid hK hSl (Zn _ _) hR;refine WO.mv rfl (WO.pure (v:=.agg ⟨l2⟩) rfl (WO.pure (v:=.int .i64 f) rfl (WO.step (i:=.store 3 (.t 5) (.t 75)) (dt (l:=l2) e5 rfl q1 q2 G.len) (WO.mv rfl (WO.nil ?_)))));exact zB (zN (fin e5 e8 rfl rfl q3 q4 q5 q6 q7))
 refine WO.p rfl rfl (fun _=>?_) (fun _=>?_)
 ·exact WO.mv rfl (nZ (WC.cond_true rfl (WC.skip (zN (WC.cond_true rfl (addB _ rfl rfl rfl rfl rfl))))))
 refine WO.mv rfl (nZ (WC.cond_false rfl (WC.ops ?_)));refine WO.p rfl rfl (fun _=>?_) (fun _=>?_)
 ·exact WO.mv rfl (nZ (WC.cond_true rfl (addB _ rfl rfl rfl rfl rfl)))
 refine WO.mv rfl (nZ (WC.cond_false rfl (sQ ?_)));refine WO.p rfl rfl (fun _=>?_) (fun _=>?_)
 ·-- a cut
  refine WO.mv rfl (nZ (WC.cond_true rfl (sQ (WO.load (v:=trO) rfl b0 rfl rfl rfl (WO.mv rfl ?_)))));obtain⟨hlw,kids0,d0,L0⟩:=id H;refine WO.a (vs:=[trO,vI a]) rfl rfl (uU (n:=n+1) hh.l hS (by omega) R0 hlw L0 hB m1) ?_;rintro u ⟨t1,n1⟩ hC;obtain⟨er,x2,sm2,rfl,hSl,hK⟩:∃er x2 sm2,u=ah er∧Sl x2 S lm ow sm2 B∧Kx t0 (nx+1+1+1+1+20) x2 t1 n1:=by
   rcases hC with⟨_,e,k1⟩|⟨h0,e,x2,h1,h2,h3⟩
   ·exact⟨8,x,sm,e,H,k1.kx R0⟩
   ·obtain⟨d',L'⟩:=L0.cut m1 h0;exact⟨0,x2,_,e,⟨h1,_,d',by rw[h2];exact L'⟩,h3⟩
  obtain⟨c1,c2,hG⟩:=bx hK;refine WO.mv rfl (nZ (WC.ops (WO.load (v:=.agg ⟨l⟩) rfl c1 rfl (iS G.len) rfl (WO.mv rfl ?_))));refine WO.a (vs:=[.agg ⟨l⟩,vI a]) rfl rfl (Fd (n:=n+2) hh.d hS hnd (by omega) hG m1) ?_;rintro u ⟨t2,n2⟩ hR;obtain⟨l2,f,rfl,q1,q2,q3,q4,q5,q6,q7⟩:=laid hK hSl (Zn _ _) hR;refine WO.mv rfl (WO.pure (v:=.agg ⟨l2⟩) rfl (WO.pure (v:=.int .i64 f) rfl (WO.step (i:=.store 3 (.t 5) (.t 86)) (dt (l:=l2) rfl rfl q1 q2 G.len) (WO.mv rfl (WO.nil ?_)))));exact zB (zN (fin rfl rfl rfl rfl q3 q4 q5 q6 q7))
 refine WO.mv rfl (nZ (WC.cond_false rfl (sQ ?_)));refine WO.p rfl rfl (fun _=>?_) (fun _=>?_)
 ·-- a move
  refine WO.mv rfl (nZ (WC.cond_true rfl (sQ (WO.load (v:=trO) rfl b0 rfl rfl rfl (WO.mv rfl (WO.mv rfl ?_))))));refine WO.a (vs:=[trO,vI a,vI o]) rfl rfl (nY (n:=n) hh.l hh.lmove hS (by omega) R0 H hB m2 m1) ?_;rintro u ⟨t1,n1⟩ hC;obtain⟨er,x2,sm2,rfl,hSl,hK⟩:=hC.some R0 H;obtain⟨c1,c2,hG⟩:=bx hK;refine WO.mv rfl (nZ (WC.ops (WO.load (v:=.agg ⟨l⟩) rfl c1 rfl (iS G.len) rfl (WO.mv rfl (WO.mv rfl ?_)))));refine WO.a (vs:=[.agg ⟨l⟩,vI a,vI o]) rfl rfl (CJ (n:=n+1) hh.d hS hnd (by omega) hG m1 m2) ?_;rintro u ⟨t2,n2⟩ hR;obtain⟨l2,f,rfl,q1,q2,q3,q4,q5,q6,q7⟩:=laid hK hSl (Zn _ _) hR;refine WO.mv rfl (WO.pure (v:=.agg ⟨l2⟩) rfl (WO.pure (v:=.int .i64 f) rfl (WO.step (i:=.store 3 (.t 5) (.t 99)) (dt (l:=l2) rfl rfl q1 q2 G.len) (WO.mv rfl (WO.nil ?_)))));exact zB (zN (fin rfl rfl rfl rfl q3 q4 q5 q6 q7))
 -- a charge
 refine WO.mv rfl (nZ (WC.cond_false rfl (sQ (WO.load (v:=trO) rfl b0 rfl rfl rfl (WO.mv rfl (WO.fadd rfl (WO.load rfl b2 rfl hp3 rfl ?_)))))));refine WO.a (vs:=[trO,vI a,.int .i64 k]) rfl rfl (xA (n:=n+1) hh.l hh.chg hS hnd (by omega) R0 H hB hB2 m1 hk0) ?_;rintro u ⟨t1,n1⟩ ⟨er,x2,ow2,sm2,rfl,hSl,hK⟩;obtain⟨c1,c2,hG⟩:=bx hK;refine WO.mv rfl (nZ (WC.ops (WO.load (v:=.agg ⟨l⟩) rfl c1 rfl (iS G.len) rfl (WO.mv rfl (WO.fadd rfl (WO.load rfl c2 rfl hp3 rfl ?_))))));obtain⟨w2,kids2,d2,I2,BV2⟩:=hG;refine WO.a (vs:=[.agg ⟨l⟩,vI a,.int .i64 k]) rfl rfl (DK (n:=n+1) hh.d I2 hS hnd (by omega) BV2 m1) ?_;rintro u ⟨t2,n2⟩ hR;obtain⟨l2,f,rfl,q1,q2,q3,q4,q5,q6,q7⟩:=laid hK hSl (Ze _) hR;refine WO.mv rfl (WO.pure (v:=.agg ⟨l2⟩) rfl (WO.pure (v:=.int .i64 f) rfl (WO.step (i:=.store 3 (.t 5) (.t 46)) (dt (l:=l2) rfl rfl q1 q2 G.len) (WO.mv rfl (WO.nil ?_)))));exact zB (zN (fin rfl rfl rfl rfl q3 q4 q5 q6 q7))
end Go.AI
