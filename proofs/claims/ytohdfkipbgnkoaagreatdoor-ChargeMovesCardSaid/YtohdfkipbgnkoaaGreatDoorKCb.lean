/- A child less: the walk. -/
import Derived.Test.YtohdfkipbgnkoaaGreatDoorKCa
set_option maxRecDepth 4000
namespace Go.AI
open Go.Proofs
open Go.Fo (Wd Un Pre up LInv fS jH cutW addW)
open Classical
variable {x x':Ar}{S:List Nat}{lm ow sm:Nat→Nat}{tbl t' t'':LO}{nx n' n'' B:Nat}{kids:Nat→List Nat}{d:Nat→Nat}
theorem ED{env:LV}{x:Opd}{s:Nat}(hx:evo env x=some (i0 s))(h:s<9223372036854775808):aw env (.neg x)=some (.int .i64 (-(s:Int))):=by
 have h1:ai .i64 (0-Int.ofNat s) = -(s:Int):=by
  rw[Int.zero_sub];exact gA (by simp only[zO];omega) (by simp only[zO];omega)
 simp only[aw,hx,h1]
theorem cj(L:LInv (wds x S) S kids d lm ow sm B)(hB:S.length*B<2305843009213693952){z:Nat}(hz:z∈S):sm z<2305843009213693952:=Nat.lt_of_le_of_lt (L.bound hz) hB
theorem Hz(h:LW x S lm ow sm){c:Nat}(hc:c∈S)(h0:(wds x S).par c=0):kK S x [trC,vI c]=some (ah 8,x):=by
 have hcc:TW x S∧c∈S:=⟨h.tw,hc⟩;have e:wd x (c+40)=0:=(cf (x:=x) (o:=40) hc).symm.trans h0;simp only[kK,if_pos hcc,if_pos e]
theorem AU(h:LW x S lm ow sm){c:Nat}(hc:c∈S)(h0:(wds x S).par c≠0):kK S x [trC,vI c]=some (ah 0,cutX x c)∧LW (cutX x c) S lm ow sm∧wds (cutX x c) S=cutW (wds x S) c:=by
 have hcc:TW x S∧c∈S:=⟨h.tw,hc⟩;have e:wd x (c+40)≠0:=fun q=>h0 ((cf (x:=x) (o:=40) hc).trans q)
 exact⟨by simp only[kK,if_pos hcc,if_neg e],h.cut hc e⟩
theorem uU{hk:List (aK Ar)}(hh:LHk hk S)(hS:S.length<800){n c:Nat}(hn:1001≤n)(R:Rc tbl nx x)(h:LW x S lm ow sm)(L:LInv (wds x S) S kids d lm ow sm B)(hB:S.length*B<2305843009213693952)(hc:c∈S) :
  ∃u h',RF1 hk (n+4) 22 [trO,vI c] ⟨tbl,nx⟩=some (u,h')∧(((wds x S).par c=0∧u=ah 8∧Kp tbl nx h'.tbl h'.next)∨((wds x S).par c≠0∧u=ah 0∧∃x2,LW x2 S lm ow (fS (wds x S) sm ((wds x S).par c) (sm c))∧wds x2 S=cutW (wds x S) c∧Kx tbl nx x2 h'.tbl h'.next)):=by
 obtain⟨_,hpar⟩:=hh.par;obtain⟨_,hcut⟩:=hh.cut;have hnx:249<nx:=R.h;have hp:=h.tw.par hc;refine aG hh.lcut Oq (zL rfl) ?_;dsimp only[Ju,aM];refine sQ (WO.box (v:=trO) (cs:=[pO]) rfl rfl (WO.mv rfl (nZ (sQ ?_))));have Rb:=R.kp (bxk (o:=AObj.cells [pO]));have hb0:aa nx ((nx,AObj.cells [pO])::tbl)=some (.cells [pO]):=bxl;have Kb:Kp tbl nx ((nx,AObj.cells [pO])::tbl) (nx+1):=bxk;generalize ht0:((nx,AObj.cells [pO])::tbl)=t0 at Rb hb0 Kb ⊢;refine WO.fadd rfl (WO.load (v:=trO) rfl hb0 rfl rfl rfl (WO.mv rfl ?_));refine WO.rdR Rb h.tw.ref hp rfl rfl hpar rfl rfl rfl ?_;refine WO.mv rfl (nZ (WC.seq (sQ (WO.fadd rfl (WO.load (v:=trO) rfl hb0 rfl rfl rfl (WO.mv rfl ?_))))));by_cases h0:(wds x S).par c=0
 ·refine WO.rdR Rb h.tw.ref (Hz h hc h0) rfl rfl hcut rfl rfl rfl ?_;refine WO.mv rfl (nZ (sQ (WO.mv rfl (WO.pure (v:=.bool true) rfl (nZ (WC.cond_true rfl (sQ (WO.mv rfl (WO.mv rfl (nZ (WC.ret ?_)))))))))));exact aB ⟨_,_,rfl,rfl,.inl ⟨h0,rfl,Kb⟩⟩
 ·obtain⟨hs,h1,hw1⟩:=AU h hc h0;refine WO.wrR Rb h.tw.ref hs rfl rfl hcut rfl rfl rfl ?_;generalize hx1:cutX x c=x1 at hs h1 hw1 ⊢;have Kx1:Kx t0 (nx+1) x1 (upd 2 (.ext x1) t0) (nx+1):=Kx.set Rb;have R1:=Rb.kx Kx1;have hb1:aa nx (upd 2 (AObj.ext x1) t0)=some (.cells [pO]):=(zU (by omega)).trans hb0;generalize ht1:upd 2 (AObj.ext x1) t0=t1 at Kx1 R1 hb1 ⊢;refine WO.mv rfl (nZ (sQ (WO.mv rfl (WO.pure (v:=.bool false) rfl (nZ (cF rfl (WC.seq (WC.a ?_))))))));have hpS:=(L.inv.par c hc h0).1;have hsc:=cj L hB hc;have R1':Rc t1 (nx+1+7) x1:=R1.kp (Kp.refl.up (Zn _ 7));obtain⟨u1,⟨t2,n2⟩,hd1,rfl,k2⟩:=cO hh (n:=n+1) R1' h1 hc (Zv hsc (by decide));dsimp only at k2;have g2:=k2.1;have R2:=R1'.kp k2;have hf:∀z,z∈S→Un (wds x1 S) z ((wds x S).par c)→0≤(sm z:Int) + -(sm c:Int)∧(sm z:Int) + -(sm c:Int)<9223372036854775808:=by
   intro z hz hu;rw[hw1,L.inv.QK hc h0] at hu;have:=L.mono hc (Un.up h0 hu);have:=cj L hB hz;omega
  obtain⟨u2,⟨t3,n3⟩,hd2,x3,h3,hw3,K3⟩:=kU hh hS (n:=n) hn R2 h1 hpS (fun z hz=>Zv (cj L hB hz) (by decide)) hf;dsimp only at K3;have hb2:=(k2.2 nx (by omega)).trans hb1;have hb3:=(K3.2.2 nx (by omega) (by omega)).trans hb2;have y1:∀m,(⟨[],t1,m⟩:Mem Ar).load ⟨nx,0,none⟩ 1=some [pO]:=fun m=>ae hb1 rfl rfl
  have y2:(⟨[],t2,n2⟩:Mem Ar).load ⟨nx,0,none⟩ 1=some [pO]:=ae hb2 rfl rfl;have y3:(⟨[],t3,n3⟩:Mem Ar).load ⟨nx,0,none⟩ 1=some [pO]:=ae hb3 rfl rfl;refine WD.load (m:=⟨[],t1,nx+1+7⟩) (ms:=[]) (v:=trO) rfl (y1 _) rfl (WD.pure (v:=vI ((wds x S).par c)) rfl (WD.load (m:=⟨[],t1,nx+1+7⟩) (ms:=[]) (v:=trO) rfl (y1 _) rfl (WD.pure (v:=vI c) rfl ?_)));refine WD.chn (m:=⟨[],t1,nx+1+7⟩) (m':=⟨[],t2,n2⟩) (v:=vI (sm c)) rfl rfl rfl (aW (m:=⟨[],t1,nx+1+7⟩) (h:=⟨t2,n2⟩) (vs:=[trO,vI c]) rfl rfl hd1) ?_;refine WD.pure (ED rfl (Zv hsc (by decide))) ?_;refine WD.chn (m:=⟨[],t2,n2⟩) (m':=⟨[],t3,n3⟩) (v:=u2) rfl rfl rfl (aW (m:=⟨[],t2,n2⟩) (h:=⟨t3,n3⟩) (vs:=[trO,vI ((wds x S).par c),.int .i64 (-(sm c:Int))]) rfl rfl hd2) ?_;refine WD.nil ⟨?_,_,_,rfl,?_⟩
  ·simp only[bi,bn,y1,y2,y3,fp];rfl
  refine zN (sQ (WO.mv rfl (nZ (WC.ret ⟨_,_,rfl,rfl,.inr ⟨h0,rfl,x3,h3.congr fun z hz=>?_,hw3.trans hw1,?_⟩⟩))))
  ·unfold fS rS;rw[hw1];simp only[L.inv.QK hc h0];split
   ·omega
   ·rfl
  ·exact((Kb.kx R).trans Kx1).trans ((((Kp.refl.up (Zn _ 7)).trans k2).kx R1).trans K3)
end Go.AI
namespace Go.AI
open Go.Proofs
open Go.Fo (Wd Un Pre up LInv fS jH cutW addW)
open Classical
variable {x x':Ar}{S:List Nat}{lm ow sm:Nat→Nat}{tbl t' t'':LO}{nx n' n'' B:Nat}{kids:Nat→List Nat}{d:Nat→Nat}
structure Sl(x:Ar)(S:List Nat)(lm ow sm:Nat→Nat)(B:Nat):Prop where
 lw:LW x S lm ow sm
 li:∃kids d,LInv (wds x S) S kids d lm ow sm B
theorem MU{w w':Wd}(h:∀x,w'.par x=w.par x){a b:Nat}:Un w' a b↔Un w a b:=⟨fun q=>Go.Fo.Un.congr (fun x=>(h x).symm) q,fun q=>Go.Fo.Un.congr h q⟩
theorem OE{w w':Wd}(h:∀x,w'.par x=w.par x){own:Nat→Nat}{y:Nat}:Go.Fo.T w' S own y=Go.Fo.T w S own y:=by
 unfold Go.Fo.T;simp only[MU h]
theorem GK{w w':Wd}{kids':Nat→List Nat}{d':Nat→Nat}(L:LInv w S kids d lm ow sm B)(h:∀x,w'.par x=w.par x)(I:Go.Fo.Inv w' S kids' d'):LInv w' S kids' d' lm ow sm B :=
 ⟨I,L.own,fun a ha=>(L.sum a ha).trans (OE h).symm,L.lim,L.lmB⟩
theorem Mq(h:LW x S lm ow sm){p c:Nat}(hp:p∈S)(hc:c∈S):(∃e,e≠0∧gS S x [trC,vI p,vI c]=some (ah e,x))∨((wds x S).par c=0∧¬Un (wds x S) c p∧gS S x [trC,vI p,vI c]=some (ah 0,addX x p c)∧LW (addX x p c) S lm ow sm∧wds (addX x p c) S=addW (wds x S) p c):=by
 have hcc:TW x S∧p∈S∧c∈S:=⟨h.tw,hp,hc⟩;have hpp:(wds x S).par c=wd x (c+40):=cf hc;by_cases h0:wd x (c+40)=0
 ·by_cases hu:Un (wds x S) c p
  ·exact .inl ⟨12,by decide,by simp only[gS,if_pos hcc,h0,ne_eq,not_true_eq_false,if_false,if_pos hu]⟩
  ·exact .inr ⟨hpp.trans h0,hu,by simp only[gS,if_pos hcc,h0,ne_eq,not_true_eq_false,if_false,if_neg hu],h.add hp hc h0 hu⟩
 ·exact .inl ⟨9,by decide,by simp only[gS,if_pos hcc,ne_eq,h0,not_false_eq_true,if_true]⟩
theorem GV{hk:List (aK Ar)}(hh:LHk hk S)(hladd:ab hk 13=none)(hS:S.length<800){n p c:Nat}(hn:1001≤n)(R:Rc tbl nx x)(H:Sl x S lm ow sm B)(hB:S.length*B<2305843009213693952)(hp:p∈S)(hc:c∈S) :
  ∃u h',RF1 hk (n+4) 13 [trO,vI p,vI c] ⟨tbl,nx⟩=some (u,h')∧(∃e x2 sm2,u=ah e∧Sl x2 S lm ow sm2 B∧Kx tbl nx x2 h'.tbl h'.next):=by
 obtain⟨_,hadd⟩:=hh.add;obtain⟨_,hcut⟩:=hh.cut;obtain⟨h,kids,d,L⟩:=H;have hnx:249<nx:=R.h;refine aG hladd OO (zL rfl) ?_;dsimp only[JM,aM];refine sQ (WO.box (v:=trO) (cs:=[pO]) rfl rfl (WO.mv rfl (nZ (WC.seq (sQ ?_)))));have Rb:=R.kp (bxk (o:=AObj.cells [pO]));have hb0:aa nx ((nx,AObj.cells [pO])::tbl)=some (.cells [pO]):=bxl;have Kb:Kp tbl nx ((nx,AObj.cells [pO])::tbl) (nx+1):=bxk;generalize ht0:((nx,AObj.cells [pO])::tbl)=t0 at Rb hb0 Kb ⊢;refine WO.fadd rfl (WO.load (v:=trO) rfl hb0 rfl rfl rfl (WO.mv rfl (WO.mv rfl ?_)));rcases Mq h hp hc with⟨e,he,hs⟩|⟨h0,hu,hs,h1,hw1⟩
 ·refine WO.rdR Rb h.tw.ref hs rfl rfl hadd rfl rfl rfl ?_;refine WO.mv rfl (nZ (sQ (WO.mv rfl (WO.e rfl rfl (fun _=>?_) (fun hz=>?_)))))
  ·refine nZ (WC.cond_true rfl (sQ (WO.mv rfl (WO.mv rfl (nZ (WC.ret ?_))))));exact aB ⟨_,_,rfl,rfl,e,x,sm,rfl,⟨h,kids,d,L⟩,Kb.kx R⟩
  ·exact absurd (Zx hz) he
 ·refine WO.wrR Rb h.tw.ref hs rfl rfl hadd rfl rfl rfl ?_;obtain⟨dA,IA⟩:=L.inv.add hp hc h0 hu;generalize hx1:addX x p c=x1 at hs h1 hw1 ⊢;have Kx1:Kx t0 (nx+1) x1 (upd 2 (.ext x1) t0) (nx+1):=Kx.set Rb;have R1:=Rb.kx Kx1;have hb1:aa nx (upd 2 (AObj.ext x1) t0)=some (.cells [pO]):=(zU (by omega)).trans hb0;generalize ht1:upd 2 (AObj.ext x1) t0=t1 at Kx1 R1 hb1 ⊢;have hsc:=cj L hB hc;have hv:∀z,z∈S→sm z<4611686018427387904:=fun z hz=>Zv (cj L hB hz) (by decide)
  have hlm:∀z,z∈S→lm z<9223372036854775807:=fun z hz=>Nat.lt_of_le_of_lt (L.lmB z hz) (by decide)
  refine WO.mv rfl (nZ (sQ (WO.mv rfl (WO.pure (v:=.bool false) rfl (nZ (cF rfl (sQ ?_)))))));refine WO.load (v:=trO) rfl hb1 rfl rfl rfl (WO.mv rfl ?_);refine WO.a (vs:=[trO,vI c]) rfl rfl (cO hh (n:=n+1) R1 h1 hc (Zv hsc (by decide))) ?_;rintro u ⟨t2,n2⟩ ⟨rfl,k2⟩;dsimp only at k2;have R2:=R1.kp k2;have hb2:=(k2.2 nx (by omega)).trans hb1
  -- the end: all sums above
  have fine:(∀z,z∈S→Un (wds x S) z p→lm z=0∨sm z+sm c+1≤lm z)→∀(t3:LO) (n3:Nat),Kp t2 n2 t3 n3 →
    ∃u h',RF1 hk (n+3) 32 [trO,vI p,vI (sm c)] ⟨t3,n3⟩=some (u,h')∧(∃x3 sm3,Sl x3 S lm ow sm3 B∧Kx tbl nx x3 h'.tbl h'.next):=by
   intro hfit t3 n3 k3;obtain⟨u,h',hr,x3,h3,hw3,K3⟩:=kU hh hS (n:=n) (k:=(sm c:Int)) hn (R2.kp k3) h1 hp (fun z hz=>Zv (cj L hB hz) (by decide)) (fun z hz _=>by
    have:=cj L hB hz;omega)
   obtain⟨d2,L2⟩:=L.add hp hc h0 hu hfit;refine⟨u,h',hr,x3,jH (wds x S) sm p (sm c),⟨h3.congr fun z hz=>?_,_,d2,by rw[hw3,hw1];exact L2⟩,((Kb.kx R).trans Kx1).trans (((k2.trans k3).kx R1).trans K3)⟩;unfold jH rS;rw[hw1];simp only[L.inv.QJ hp h0];split
   ·omega
   ·rfl
  refine WO.mv rfl (nZ (WC.seq (sQ (WO.mv rfl ?_))));by_cases hz0:sm c=0
  ·refine WO.k rfl rfl (fun hg=>?_) (fun _=>?_)
   ·exfalso;simp only[zO] at hg;omega
   refine WO.mv rfl (WO.skip rfl rfl (WO.skip rfl rfl (WO.skip rfl rfl (WO.skip rfl rfl (WO.skip rfl rfl (WO.pure (v:=.bool false) rfl (nZ (cF rfl (sQ ?_)))))))));refine WO.load (v:=trO) rfl hb2 rfl rfl rfl (WO.mv rfl (WO.mv rfl ?_));refine WO.a (vs:=[trO,vI p,vI (sm c)]) rfl rfl (fine (fun z hz _=>by have:=L.lim z hz;omega) _ _ Kp.refl) ?_;rintro u ⟨t4,n4⟩ ⟨x3,sm3,H3,K3⟩;exact nZ (sQ (WO.mv rfl (nZ (WC.ret ⟨_,_,rfl,rfl,0,x3,sm3,rfl,H3,K3⟩))))
  ·refine WO.k rfl rfl (fun _=>?_) (fun hg=>?_)
   ·refine WO.mv rfl (WO.take rfl rfl (WO.load (v:=trO) rfl hb2 rfl rfl rfl (WO.take rfl rfl (WO.mv rfl (WO.take rfl rfl (WO.mv rfl (WO.take rfl rfl ?_)))))));refine WO.a (vs:=[trO,vI p,vI (sm c)]) rfl rfl (tD hh hS (n:=n) hn R2 h1 hp hv hlm (hv c hc)) ?_;rintro u ⟨t3,n3⟩ ⟨rfl,k3⟩;dsimp only at k3;have hb3:=(k3.2 nx (by have:=k2.1;omega)).trans hb2;by_cases hfit:sm c≤4294967296∧Cx (wds x1 S) S lm sm p (sm c)
    ·rw[Zh hfit];refine WO.take rfl rfl (WO.pure (v:=.bool false) rfl (WO.pure (v:=.bool false) rfl (nZ (cF rfl (sQ ?_)))));refine WO.load (v:=trO) rfl hb3 rfl rfl rfl (WO.mv rfl (WO.mv rfl ?_));have hfit':∀z,z∈S→Un (wds x S) z p→lm z=0∨sm z+sm c+1≤lm z:=fun z hz hu=>by
      refine hfit.2 z hz ?_;rw[hw1,L.inv.QJ hp h0];exact hu
     refine WO.a (vs:=[trO,vI p,vI (sm c)]) rfl rfl (fine hfit' _ _ k3) ?_;rintro u ⟨t4,n4⟩ ⟨x3,sm3,H3,K3⟩;exact nZ (sQ (WO.mv rfl (nZ (WC.ret ⟨_,_,rfl,rfl,0,x3,sm3,rfl,H3,K3⟩))))
    ·rw[Zs hfit];refine WO.take rfl rfl (WO.pure (v:=.bool true) rfl (WO.pure (v:=.bool true) rfl (nZ (WC.cond_true rfl (sQ ?_)))));refine WO.fadd rfl (WO.load (v:=trO) rfl hb3 rfl rfl rfl (WO.mv rfl ?_));have hpc:(wds x1 S).par c≠0:=by rw[hw1,Go.Fo.addW_par,if_pos rfl];exact L.inv.ne0 hp
     obtain⟨hs4,h4,hw4⟩:=AU h1 hc hpc;have R3:=R2.kp k3;refine WO.wrR R3 h1.tw.ref hs4 rfl rfl hcut rfl rfl rfl ?_;refine nZ (sQ (WO.mv rfl (nZ (WC.ret ?_))));have hpe:∀y,(wds (cutX x1 c) S).par y=(wds x S).par y:=fun y=>by
      rw[hw4,hw1,Go.Fo.cutW_par,Go.Fo.addW_par];by_cases e:y=c
      ·rw[if_pos e,e,h0]
      ·rw[if_neg e,if_neg e]
     have IA':Go.Fo.Inv (wds x1 S) S (Go.Fo.addK kids p c) dA:=by rw[hw1];exact IA
     obtain⟨d5,I5⟩:=IA'.cut hc hpc;rw[← hw4] at I5;exact aB ⟨_,_,rfl,rfl,5,cutX x1 c,sm,rfl,⟨h4,_,d5,GK L hpe I5⟩,(((Kb.kx R).trans Kx1).trans ((k2.trans k3).kx R1)).trans (Kx.set R3)⟩
   ·exfalso;simp only[zO] at hg;omega
end Go.AI
namespace Go.AI
open Go.Proofs
open Go.Fo (Wd Un Pre up LInv fS jH cutW addW mvS)
open Classical
variable {x x':Ar}{S:List Nat}{lm ow sm:Nat→Nat}{tbl t' t'':LO}{nx n' n'' B:Nat}{kids:Nat→List Nat}{d:Nat→Nat}
theorem IR(h:LW x S lm ow sm){p c:Nat}(hp:p∈S)(hc:c∈S)(h0:(wds x S).par c=0)(hu:¬Un (wds x S) c p):gS S x [trC,vI p,vI c]=some (ah 0,addX x p c)∧LW (addX x p c) S lm ow sm∧wds (addX x p c) S=addW (wds x S) p c:=by
 have hcc:TW x S∧p∈S∧c∈S:=⟨h.tw,hp,hc⟩;have e:wd x (c+40)=0:=(cf (x:=x) (o:=40) hc).symm.trans h0;exact⟨by simp only[gS,if_pos hcc,e,ne_eq,not_true_eq_false,if_false,if_neg hu],h.add hp hc e hu⟩
theorem Ix{w:Wd}(L:LInv w S kids d lm ow sm B){p c:Nat}(hp:p∈S)(hc:c∈S)(h0:w.par c≠0)(hu:¬Un w c p)(ht:ui w S lm sm p c):∃kids' d',LInv (addW (cutW w c) p c) S kids' d' lm ow (mvS w sm c p) B:=by
 obtain⟨d1,L1⟩:=L.cut hc h0;have hc0:(cutW w c).par c=0:=by rw[Go.Fo.cutW_par,if_pos rfl]
 have hu1:¬Un (cutW w c) c p:=fun q=>hu ((L.inv.QG hc h0 hp hu).1 q)
 have e1:fS w sm (w.par c) (sm c) c=sm c:=by
  unfold fS;rw[if_neg (L.inv.Qy hc h0)]
 obtain⟨d2,L2⟩:=L1.add hp hc hc0 hu1 (fun z hz hzp=>by
  rw[L.inv.QG hc h0 hp hu] at hzp;rw[e1];by_cases hzc:Un w z c
  ·have hzne:z≠c:=fun e=>hu (e▸hzp)
   have hzq:Un w z (w.par c):=((Go.Fo.un_step.1 hzc).resolve_left hzne).2;have h3:=L.mono hc hzc;have h4:=L.lim z hz;unfold fS;rw[if_pos hzq];omega
  ·have h3:=ht z hz hzp hzc;have h4:fS w sm (w.par c) (sm c) z≤sm z:=by
    unfold fS;split
    ·omega
    ·exact Ze _
   omega)
 rw[e1] at L2;exact⟨_,d2,L2⟩
def MvR(x:Ar)(S:List Nat)(lm ow sm:Nat→Nat)(B c p:Nat)(tbl:LO)(nx:Nat)(u:Value)(h':Hp Ar):Prop :=
 (((wds x S).par c=0∧u=ah 8∨(wds x S).par c≠0∧Un (wds x S) c p∧u=ah 12∨(wds x S).par c≠0∧¬Un (wds x S) c p∧¬ui (wds x S) S lm sm p c∧u=ah 5)∧Kp tbl nx h'.tbl h'.next) ∨
 ((wds x S).par c≠0∧¬Un (wds x S) c p∧ui (wds x S) S lm sm p c∧u=ah 0∧∃x2,Sl x2 S lm ow (mvS (wds x S) sm c p) B∧wds x2 S=addW (cutW (wds x S) c) p c∧Kx tbl nx x2 h'.tbl h'.next)
theorem nY{hk:List (aK Ar)}(hh:LHk hk S)(hlmove:ab hk 12=none)(hS:S.length<800){n p c:Nat}(hn:1001≤n)(R:Rc tbl nx x)(H:Sl x S lm ow sm B)(hB:S.length*B<2305843009213693952)(hp:p∈S)(hc:c∈S) :
  ∃u h',RF1 hk (n+5) 12 [trO,vI c,vI p] ⟨tbl,nx⟩=some (u,h')∧MvR x S lm ow sm B c p tbl nx u h':=by
 obtain⟨_,hadd⟩:=hh.add;obtain⟨_,hnat⟩:=hh.nat;obtain⟨_,hpar⟩:=hh.par;obtain⟨_,hund⟩:=hh.und;have hpS:=H.lw.tw.par hc;have huS:=H.lw.tw.QS hp hc;have H0:=H;obtain⟨h,kids,d,L⟩:=H;have hnx:249<nx:=R.h;refine aG hlmove LC (zL rfl) ?_;dsimp only[G7,aM];refine sQ (WO.box (v:=trO) (cs:=[pO]) rfl rfl (WO.mv rfl (nZ (WC.seq (sQ (WO.mv rfl (WO.mv rfl ?_)))))));have Kb:Kp tbl nx ((nx+1,AObj.cells [vI c,vI p])::(nx,AObj.cells [pO])::tbl) (nx+1+1):=bxk.trans bxk;have Rb:=R.kp Kb;have hl0:aa (nx+1) ((nx+1,AObj.cells [vI c,vI p])::(nx,AObj.cells [pO])::tbl)=some (.cells [vI c,vI p]):=bxl;have hb0:aa nx ((nx+1,AObj.cells [vI c,vI p])::(nx,AObj.cells [pO])::tbl)=some (.cells [pO]):=by rw[zC,if_neg (by show¬nx=nx+1;omega)];exact bxl
 refine WO.step (i:=.bslice 14 2 1 [i0 0] [(0,.t 12),(1,.t 13)]) (v:=.slice (some ⟨nx+1,0,none⟩) 2 2) (m':=⟨[],(nx+1,.cells [vI c,vI p])::(nx,.cells [pO])::tbl,nx+1+1⟩) rfl ?_;generalize ht0:((nx+1,AObj.cells [vI c,vI p])::(nx,AObj.cells [pO])::tbl)=t0 at Kb Rb hl0 hb0 ⊢;refine WO.len rfl (WO.mv rfl (nZ (WC.block ?_)));refine WC.loop (fun j e tb nb=>∃i,i+j=2∧e 1=some (vI c)∧e 2=some (vI p)∧e 3=some (.pointer (some ⟨nx,0,none⟩))∧e 14=some (.slice (some ⟨nx+1,0,none⟩) 2 2)∧e 15=some (vI 2)∧e 16=some (vI i)∧Kp t0 (nx+1+1) tb nb) (k:=2) (by omega)
  ⟨0,rfl,rfl,rfl,rfl,rfl,rfl,rfl,Kp.refl⟩ ?_
 rintro j e tb nb ⟨i,hj,e1,e2,e3,e14,e15,e16,hK⟩;dsimp only at e1 e2 e3 e14 e15 e16;have R1:=Rb.kp hK;have hb1:aa nx tb=some (.cells [pO]):=(hK.2 nx (by omega)).trans hb0;have hl1:aa (nx+1) tb=some (.cells [vI c,vI p]):=(hK.2 (nx+1) (by omega)).trans hl0;have g1:=hK.1;refine sQ (WO.j e16 e15 (fun hz=>?_) (fun hz=>?_))
 ·have hi:i<2:=by simp only[zO] at hz;omega
  obtain⟨a,ha,haS⟩:∃a,bg ([vI c,vI p]:List Value) (0+i*1) 1=some [vI a]∧a∈S:=by
   match i,hi with
   |0,_=>exact⟨c,rfl,hc⟩
   |1,_=>exact⟨p,rfl,hp⟩
  refine nZ (WC.seq (WC.cond_true rfl (WC.skip (zN (WC.seq (WC.block (sQ ?_)))))));refine WO.idxL e14 e16 rfl hi (WO.load (v:=vI a) rfl hl1 rfl ha rfl (WO.mv rfl (nZ (sQ ?_))));refine WO.fadd e3 (WO.fadd rfl (WO.load (v:=pO) rfl hb1 rfl rfl rfl (WO.mv rfl ?_)));refine WO.rdR R1 h.tw.ref (h.nat haS) rfl rfl hnat rfl rfl rfl ?_;refine WO.mv rfl (WO.pure (v:=.agg ⟨ndL a (ckW x a)⟩) rfl (WO.pure (v:=vI 0) rfl (WO.new (WO.step (i:=.store 12 (.t 9) (.t 26)) (v:=undef) (m':=⟨[],(nb,.cells (ndL a (ckW x a)))::tb,nb+1⟩) (aJ (vs:=ndL a (ckW x a)) rfl rfl rfl rfl ke) ?_))));refine WO.mv rfl (nZ (sQ (WO.mv rfl (WO.pure (v:=.bool false) rfl (nZ (WC.cond_false rfl (WC.skip (zB (zN (WC.ops ?_))))))))));refine WO.add e16 rfl (by simp only[zO];omega) (by simp only[zO];omega) (WO.mv rfl (WO.nil ?_));exact⟨j-1,by omega,rfl,i+1,by omega,e1,e2,e3,e14,e15,rfl,hK.trans bxk⟩
 refine nZ (WC.seq (WC.cond_false rfl (WC.exit (aR (aI ?_)))));refine zN (WC.seq (WC.block (sQ ?_)));have Kt:Kp tbl nx tb nb:=Kb.trans hK;refine WO.fadd e3 (WO.load (v:=trO) rfl hb1 rfl rfl rfl (WO.mv e1 ?_));refine WO.rdR R1 h.tw.ref hpS rfl rfl hpar rfl rfl rfl ?_;by_cases h0:(wds x S).par c=0
 ·refine WO.p rfl rfl (fun _=>?_) (fun hq=>absurd (by rw[h0]) hq);refine WO.mv rfl (nZ (WC.cond_true rfl (sQ (WO.mv rfl (nZ (WC.ret ?_))))));exact a9 (aB ⟨_,_,rfl,rfl,.inl ⟨.inl ⟨h0,rfl⟩,Kt⟩⟩)
 refine WO.p rfl rfl (fun hq=>absurd (Zx hq) h0) (fun _=>?_);refine WO.mv rfl (nZ (WC.cond_false rfl (sQ ?_)));refine WO.fadd e3 (WO.load (v:=trO) rfl hb1 rfl rfl rfl (WO.mv e2 (WO.mv e1 ?_)));refine WO.rdR R1 h.tw.ref huS rfl rfl hund rfl rfl rfl ?_;by_cases hu:Un (wds x S) c p
 ·rw[Zh hu];refine WO.mv rfl (nZ (WC.cond_true rfl (sQ (WO.mv rfl (nZ (WC.ret ?_))))));exact a9 (aB ⟨_,_,rfl,rfl,.inl ⟨.inr (.inl ⟨h0,hu,rfl⟩),Kt⟩⟩)
 rw[Zs hu];refine WO.mv rfl (nZ (WC.cond_false rfl (sQ ?_)));refine WO.load (v:=trO) e3 hb1 rfl rfl rfl (WO.mv e2 (WO.mv e1 ?_));have hv:∀z,z∈S→sm z<4611686018427387904:=fun z hz=>Zv (cj L hB hz) (by decide)
 have hlm:∀z,z∈S→lm z<9223372036854775807:=fun z hz=>Nat.lt_of_le_of_lt (L.lmB z hz) (by decide)
 refine WO.a (vs:=[trO,vI p,vI c]) rfl rfl (yw hh hS (n:=n+1) (by omega) R1 h hp hc hv hlm) ?_;rintro u ⟨t2,n2⟩ ⟨rfl,k2⟩;dsimp only at k2;by_cases ht:ui (wds x S) S lm sm p c
 case neg =>
  rw[Zs ht];refine WO.pure (v:=.bool true) rfl (WO.mv rfl (nZ (WC.cond_true rfl (sQ (WO.mv rfl (nZ (WC.ret ?_)))))));exact a9 (aB ⟨_,_,rfl,rfl,.inl ⟨.inr (.inr ⟨h0,hu,ht,rfl⟩),Kt.trans k2⟩⟩)
 rw[Zh ht];refine WO.pure (v:=.bool false) rfl (WO.mv rfl (nZ (WC.cond_false rfl (WC.skip (zB (zN (sQ ?_)))))));have R2:=R1.kp k2;have hb2:aa nx t2=some (.cells [pO]):=(k2.2 nx (by omega)).trans hb1;refine WO.load (v:=trO) e3 hb2 rfl rfl rfl (WO.mv e1 ?_);refine WO.a (vs:=[trO,vI c]) rfl rfl (uU hh hS (n:=n) hn R2 h L hB hc) ?_;rintro u ⟨t3,n3⟩ hR;obtain⟨_,rfl,x1,h1,hw1,K3⟩:=hR.resolve_left fun q=>h0 q.1
 dsimp only at K3;have R3:=R2.kx K3;have g2:=k2.1;have hb3:aa nx t3=some (.cells [pO]):=(K3.2.2 nx (by omega) (by omega)).trans hb2;have hc0:(wds x1 S).par c=0:=by rw[hw1,Go.Fo.cutW_par,if_pos rfl]
 have hu1:¬Un (wds x1 S) c p:=fun q=>hu (by rw[hw1,L.inv.QG hc h0 hp hu] at q;exact q)
 obtain⟨hs4,h4,hw4⟩:=IR h1 hp hc hc0 hu1;refine nZ (WC.seq (sQ (WO.fadd e3 (WO.load (v:=trO) rfl hb3 rfl rfl rfl (WO.mv e2 (WO.mv e1 ?_))))));refine WO.wrR R3 h1.tw.ref hs4 rfl rfl hadd rfl rfl rfl ?_;generalize hx4:addX x1 p c=x4 at hs4 h4 hw4 ⊢;have Kx4:Kx t3 n3 x4 (upd 2 (.ext x4) t3) n3:=Kx.set R3;have R4:=R3.kx Kx4;have hb4:aa nx (upd 2 (AObj.ext x4) t3)=some (.cells [pO]):=(zU (by omega)).trans hb3;generalize ht4:upd 2 (AObj.ext x4) t3=t4 at Kx4 R4 hb4 ⊢;refine WO.mv rfl (nZ (sQ (WO.mv rfl (WO.pure (v:=.bool false) rfl (nZ (cF rfl (WC.seq (WC.a ?_))))))));obtain⟨kids',d',L'⟩:=Ix L hp hc h0 hu ht;have es:fS (wds x S) sm ((wds x S).par c) (sm c) c=sm c:=by
  unfold fS;rw[if_neg (L.inv.Qy hc h0)]
 have hsc:=cj L hB hc;have R4':Rc t4 (n3+6) x4:=R4.kp (Kp.refl.up (Zn _ 6));obtain⟨u1,⟨t5,n5⟩,hd1,rfl,k5⟩:=cO hh (n:=n+2) R4' h4 hc (by rw[es];exact Zv hsc (by decide));rw[es] at hd1;dsimp only at k5;have R5:=R4'.kp k5;have hdec:∀z,z∈S→fS (wds x S) sm ((wds x S).par c) (sm c) z<2305843009213693952:=fun z hz=>by
  have:=cj L hB hz;unfold fS;split<;>omega
 obtain⟨u2,⟨t6,n6⟩,hd2,x6,h6,hw6,K6⟩:=kU hh hS (n:=n+1) (k:=(sm c:Int)) (by omega) R5 h4 hp (fun z hz=>Zv (hdec z hz) (by decide)) (fun z hz _=>by
  have:=hdec z hz;omega)
 dsimp only at K6;have g3:=K3.1;have g5:=k5.1;have hb5:=(k5.2 nx (by omega)).trans hb4;have hb6:=(K6.2.2 nx (by omega) (by omega)).trans hb5;have y1:∀m,(⟨[],t4,m⟩:Mem Ar).load ⟨nx,0,none⟩ 1=some [pO]:=fun m=>ae hb4 rfl rfl
 have y2:(⟨[],t5,n5⟩:Mem Ar).load ⟨nx,0,none⟩ 1=some [pO]:=ae hb5 rfl rfl;have y3:(⟨[],t6,n6⟩:Mem Ar).load ⟨nx,0,none⟩ 1=some [pO]:=ae hb6 rfl rfl;refine WD.load (m:=⟨[],t4,n3+6⟩) (ms:=[]) (v:=trO) (az e3 rfl rfl) (y1 _) rfl (WD.pure (v:=vI p) (az e2 rfl rfl) (WD.load (m:=⟨[],t4,n3+6⟩) (ms:=[]) (v:=trO) (az e3 rfl rfl) (y1 _) rfl (WD.pure (v:=vI c) (az e1 rfl rfl) ?_)));refine WD.chn (m:=⟨[],t4,n3+6⟩) (m':=⟨[],t5,n5⟩) (v:=vI (sm c)) rfl rfl rfl (aW (m:=⟨[],t4,n3+6⟩) (h:=⟨t5,n5⟩) (vs:=[trO,vI c]) rfl rfl hd1) ?_;refine WD.chn (m:=⟨[],t5,n5⟩) (m':=⟨[],t6,n6⟩) (v:=u2) rfl rfl rfl (aW (m:=⟨[],t5,n5⟩) (h:=⟨t6,n6⟩) (vs:=[trO,vI p,.int .i64 (sm c:Int)]) rfl rfl hd2) ?_;refine WD.nil ⟨?_,_,_,rfl,?_⟩
 ·simp only[bi,bn,y1,y2,y3,fp];rfl
 have hw64:wds x6 S=addW (cutW (wds x S) c) p c:=by rw[hw6,hw4,hw1]
 have h6':LW x6 S lm ow (mvS (wds x S) sm c p):=h6.congr fun z hz=>by
  obtain⟨dA,IA⟩:=L.inv.cut hc h0;unfold mvS jH rS;rw[hw4,hw1];simp only[IA.QJ hp (by rw[Go.Fo.cutW_par,if_pos rfl])];split
  ·omega
  ·rfl
 refine zN (sQ (WO.mv rfl (nZ (WC.ret ⟨_,_,rfl,rfl,.inr ⟨h0,hu,ht,rfl,x6,⟨h6',kids',d',by rw[hw64];exact L'⟩,hw64,?_⟩⟩))));exact(((Kt.trans k2).kx R).trans K3).trans (Kx4.trans ((((Kp.refl.up (Zn _ 6)).trans k5).kx R4).trans K6))
end Go.AI
namespace Go.AI
open Go.Proofs
open Go.Fo (Wd Un Pre up LInv fS jH cutW addW mvS)
open Classical
variable {x x':Ar}{S:List Nat}{lm ow sm:Nat→Nat}{tbl t' t'':LO}{nx n' n'' B:Nat}{kids:Nat→List Nat}{d:Nat→Nat}
theorem CI{env:LV}{y:Opd}{z:Int}(hy:evo env y=some (.int .i64 z))(hz:z≤0):aw env (.max [.c (i0 0),y])=some (i0 0):=by
 have e1:evo env (.c (i0 0))=some (i0 0):=rfl;have e2:eY (.ofNat 0) z=false:=by rw[eZ];exact Zs (by simp only[zO];omega)
 simp only[aw,evs,e1,hy,nD,if_true,e2];rfl
theorem ur{env:LV}{e:EqK}{x y:Opd}{a b c:Int}(hx:evo env x=some (.int .i64 a))(hy:evo env y=some (.int .i64 b))(h:a+b=c)(h1:-9223372036854775808≤c)(h2:c<9223372036854775808):aw env (.bin .add e x y)=some (.int .i64 c):=by
 subst h;simp only[aw,hx,hy,bu,bF,if_true,gA h1 h2]
theorem wr{hk:List (aK Ar)}(hh:LHk hk S)(hF:ab hk 14=none){n a:Nat}{k:Int}(R:Rc tbl nx x)(H:Sl x S lm ow sm B)(hB:S.length*B<2305843009213693952)(ha:a∈S)(hk0:-9223372036854775808≤k) :
  ∃u h',RF1 hk (n+4) 14 [trO,vI a,.int .i64 k] ⟨tbl,nx⟩=some (u,h')∧(∃e x2 lm2,u=ah e∧Sl x2 S lm2 ow sm B∧Kx tbl nx x2 h'.tbl h'.next):=by
 obtain⟨_,hnat⟩:=hh.nat;obtain⟨_,hset⟩:=hh.nset;have H0:=H;obtain⟨h,kids,d,L⟩:=H;have hnx:249<nx:=R.h;refine aG hF yM (zL rfl) ?_;dsimp only[qe,aM];refine sQ (WO.box (v:=trO) (cs:=[pO]) rfl rfl (WO.mv rfl (nZ (sQ ?_))));have Rb:=R.kp (bxk (o:=AObj.cells [pO]));have hb0:aa nx ((nx,AObj.cells [pO])::tbl)=some (.cells [pO]):=bxl;have Kb:Kp tbl nx ((nx,AObj.cells [pO])::tbl) (nx+1):=bxk;refine WO.fadd rfl (WO.fadd rfl (WO.load (v:=pO) rfl hb0 rfl rfl rfl (WO.mv rfl ?_)));refine WO.rdR Rb h.tw.ref (h.nat ha) rfl rfl hnat rfl rfl rfl ?_;refine WO.mv rfl (WO.pure (v:=.agg ⟨ndL a (ckW x a)⟩) rfl (WO.pure (v:=vI 0) rfl (WO.new (WO.step (i:=.store 12 (.t 7) (.t 15)) (v:=undef) (m':=⟨[],(nx+1,.cells (ndL a (ckW x a)))::(nx,.cells [pO])::tbl,nx+1+1⟩) (aJ (vs:=ndL a (ckW x a)) rfl rfl rfl rfl ke) ?_))));have Kb2:=Kb.trans (bxk (o:=AObj.cells (ndL a (ckW x a))));have Rb2:=R.kp Kb2;have hb2:aa nx ((nx+1,AObj.cells (ndL a (ckW x a)))::(nx,.cells [pO])::tbl)=some (.cells [pO]):=by rw[zC,if_neg (by show¬nx=nx+1;omega)];exact hb0
 have hn2:aa (nx+1) ((nx+1,AObj.cells (ndL a (ckW x a)))::(nx,.cells [pO])::tbl)=some (.cells (ndL a (ckW x a))):=bxl;generalize ht0:((nx+1,AObj.cells (ndL a (ckW x a)))::(nx,.cells [pO])::tbl)=t0 at Kb2 Rb2 hb2 hn2 ⊢
 -- the end: the limit is laid
 have fine:∀(v:Nat),(v=0∨sm a+1≤v)→v≤4294967297→∀(t1:LO) (n1:Nat),Kp t0 (nx+1+1) t1 n1 →
   ∃u h',RF1 hk (n+3) 35 [.agg ⟨ndL a (ckW x a)⟩,vI 6,.int .u64 (.ofNat v)] ⟨t1,n1⟩=some (u,h')∧(∃x2 lm2,Sl x2 S lm2 ow sm B∧Kx tbl nx x2 h'.tbl h'.next):=by
  intro v hv hvB t1 n1 k1;have R1:=Rb2.kp k1;have hc2:=jc (F:=FA) (cl:=fun _=>false) (hk:=ab hk) (n:=n+2) (vs:=[.agg ⟨ndL a (ckW x a)⟩,vI 6,.int .u64 (.ofNat v)]) (v:=.tuple ⟨[]⟩) R1 h.tw.ref (h.nset ha (f:=6) (v:=v) (by omega) (by omega)) hset rfl rfl rfl;obtain⟨h2,hw2⟩:=h.set (o:=80) (v:=v) (ow':=ow) (sm':=sm) ha (by omega) (.inl ⟨rfl,rfl,rfl,rfl⟩);refine⟨_,_,hc2,stw x (a+80) v,_,⟨h2,kids,d,by rw[hw2];exact L.Q9 hv hvB⟩,((Kb2.trans k1).kx R).trans (Kx.set R1)⟩
 refine WO.mv rfl (nZ (WC.seq (WC.block (sQ (WO.mv rfl (WO.pure (v:=.bool false) rfl (WO.mv rfl (nZ (WC.cond_false rfl (sQ (WO.mv rfl (WO.k rfl rfl (fun hg=>?_) (fun hg=>?_)))))))))))))
 ·refine WO.mv rfl (nZ (WC.cond_true rfl (sQ (WO.mv rfl (nZ (WC.ret ?_))))));exact a9 (aB ⟨_,_,rfl,rfl,2,x,lm,rfl,H0,Kb2.kx R⟩)
 have hk32:k≤4294967296:=by simp only[zO] at hg;omega
 refine WO.mv rfl (nZ (WC.cond_false rfl (sQ (WO.mv rfl (WO.q rfl rfl (fun hg=>?_) (fun hg=>?_))))))
 ·have hkn:0≤k:=hg;obtain⟨m,rfl⟩:=Int.eq_ofNat_of_zero_le hkn;refine WO.mv rfl (WO.take rfl rfl (WO.load (v:=trO) rfl hb2 rfl rfl rfl (WO.take rfl rfl (WO.mv rfl (WO.take rfl rfl ?_)))));refine WO.a (vs:=[trO,vI a]) rfl rfl (cO hh (n:=n+1) Rb2 h ha (Zv (cj L hB ha) (by decide))) ?_;rintro u ⟨t1,n1⟩ ⟨rfl,k1⟩;dsimp only at k1;have hn3:aa (nx+1) t1=some (.cells (ndL a (ckW x a))):=(k1.2 _ (by omega)).trans hn2;refine WO.take rfl rfl (WO.mv rfl (WO.take rfl rfl (WO.k rfl rfl (fun hq=>?_) (fun hq=>?_))))
  ·refine WO.pure (v:=.bool true) rfl (WO.mv rfl (nZ (WC.cond_true rfl (sQ (WO.mv rfl (nZ (WC.ret ?_)))))));exact a9 (aB ⟨_,_,rfl,rfl,5,x,lm,rfl,H0,(Kb2.trans k1).kx R⟩)
  ·have hq':sm a≤m:=by simp only[zO] at hq;omega
   refine WO.pure (v:=.bool false) rfl (WO.mv rfl (nZ (WC.cond_false rfl (WC.skip (zB (zN (sQ ?_)))))));refine WO.load (v:=.agg ⟨ndL a (ckW x a)⟩) rfl hn3 rfl rfl rfl (WO.mv rfl (WO.pure (v:=vI (m+1)) (ur rfl rfl rfl (by simp only[zO];omega) (by simp only[zO];omega)) (WO.pure (zP rfl) (WO.pure (tN rfl (by omega)) ?_))));refine WO.a (vs:=[.agg ⟨ndL a (ckW x a)⟩,vI 6,.int .u64 (.ofNat (m+1))]) rfl rfl (fine (m+1) (.inr (by omega)) (by omega) _ _ k1) ?_;rintro u ⟨t4,n4⟩ ⟨x3,lm3,H3,K3⟩;exact nZ (sQ (WO.mv rfl (nZ (WC.ret ⟨_,_,rfl,rfl,0,x3,lm3,rfl,H3,K3⟩))))
 ·have hkn:k<0:=by have:¬(0:Int)≤k:=hg;omega
  refine WO.mv rfl (WO.skip rfl rfl (WO.skip rfl rfl (WO.skip rfl rfl (WO.skip rfl rfl (WO.skip rfl rfl ?_)))));refine WO.pure (v:=.bool false) rfl (WO.mv rfl (nZ (WC.cond_false rfl (WC.skip (zB (zN (sQ ?_)))))));refine WO.load (v:=.agg ⟨ndL a (ckW x a)⟩) rfl hn2 rfl rfl rfl (WO.mv rfl (WO.pure (v:=.int .i64 (k+1)) (ur rfl rfl rfl (by omega) (by omega)) (WO.pure (CI rfl (by omega)) (WO.pure (tN rfl (by omega)) ?_))));refine WO.a (vs:=[.agg ⟨ndL a (ckW x a)⟩,vI 6,.int .u64 (.ofNat 0)]) rfl rfl (fine 0 (.inl rfl) (by omega) _ _ Kp.refl) ?_;rintro u ⟨t4,n4⟩ ⟨x3,lm3,H3,K3⟩;exact nZ (sQ (WO.mv rfl (nZ (WC.ret ⟨_,_,rfl,rfl,0,x3,lm3,rfl,H3,K3⟩))))
end Go.AI
namespace Go.AI
open Go.Proofs
open Go.Fo (Wd Un Pre up LInv fS jH cutW addW mvS)
open Classical
variable {x x':Ar}{S:List Nat}{lm ow sm:Nat→Nat}{tbl t' t'':LO}{nx n' n'' B:Nat}{kids:Nat→List Nat}{d:Nat→Nat}
theorem xA{hk:List (aK Ar)}(hh:LHk hk S)(hF:ab hk 16=none)(hS:S.length<800)(hnd:S.Nodup){n a:Nat}{k:Int}(hn:1001≤n)(R:Rc tbl nx x)(H:Sl x S lm ow sm B)(hB:S.length*B<2305843009213693952)(hB2:S.length*(B+4294967296)<2305843009213693952)(ha:a∈S)(hk0:-9223372036854775808≤k) :
  ∃u h',RF1 hk (n+4) 16 [trO,vI a,.int .i64 k] ⟨tbl,nx⟩=some (u,h')∧(∃e x2 ow2 sm2,u=ah e∧Sl x2 S lm ow2 sm2 (B+4294967296)∧Kx tbl nx x2 h'.tbl h'.next):=by
 obtain⟨_,hnat⟩:=hh.nat;obtain⟨_,hset⟩:=hh.nset;have H0:Sl x S lm ow sm (B+4294967296):=⟨H.lw,H.li.elim fun k q=>q.elim fun d L=>⟨k,d,L.more (Zn _ _)⟩⟩;obtain⟨h,kids,d,L⟩:=H;have hnx:249<nx:=R.h;have hsa:=cj L hB ha;have hoa:=L.QX ha;refine aG hF EI (zL rfl) ?_;dsimp only[xm,aM];refine sQ (WO.box (v:=trO) (cs:=[pO]) rfl rfl (WO.mv rfl (nZ (sQ ?_))));have Rb:=R.kp (bxk (o:=AObj.cells [pO]));have hb0:aa nx ((nx,AObj.cells [pO])::tbl)=some (.cells [pO]):=bxl;have Kb:Kp tbl nx ((nx,AObj.cells [pO])::tbl) (nx+1):=bxk;refine WO.fadd rfl (WO.fadd rfl (WO.load (v:=pO) rfl hb0 rfl rfl rfl (WO.mv rfl ?_)));refine WO.rdR Rb h.tw.ref (h.nat ha) rfl rfl hnat rfl rfl rfl ?_;refine WO.mv rfl (WO.pure (v:=.agg ⟨ndL a (ckW x a)⟩) rfl (WO.pure (v:=vI 0) rfl (WO.new (WO.step (i:=.store 12 (.t 7) (.t 15)) (v:=undef) (m':=⟨[],(nx+1,.cells (ndL a (ckW x a)))::(nx,.cells [pO])::tbl,nx+1+1⟩) (aJ (vs:=ndL a (ckW x a)) rfl rfl rfl rfl ke) ?_))));have Kb2:=Kb.trans (bxk (o:=AObj.cells (ndL a (ckW x a))));have Rb2:=R.kp Kb2;have hb2:aa nx ((nx+1,AObj.cells (ndL a (ckW x a)))::(nx,.cells [pO])::tbl)=some (.cells [pO]):=by rw[zC,if_neg (by show¬nx=nx+1;omega)];exact hb0
 have hn2:aa (nx+1) ((nx+1,AObj.cells (ndL a (ckW x a)))::(nx,.cells [pO])::tbl)=some (.cells (ndL a (ckW x a))):=bxl;generalize ht0:((nx+1,AObj.cells (ndL a (ckW x a)))::(nx,.cells [pO])::tbl)=t0 at Kb2 Rb2 hb2 hn2 ⊢
 -- the end: what is charged is laid,and all sums above
 have fine:∀(v:Nat),(ow a:Int)+k=v→v<9223372036854775808→(∀z,z∈S→Un (wds x S) z a→0≤(sm z:Int)+k∧(sm z:Int)+k<9223372036854775808)→(∃kids d,LInv (wds x S) S kids d lm (up ow a v) (rS (wds x S) sm a k) (B+4294967296)) →
   ∀(e:LV) (t1:LO) (n1:Nat),Kp t0 (nx+1+1) t1 n1→aa 1 e=some (vI a)→aa 2 e=some (.int .i64 k)→aa 3 e=some (.pointer (some ⟨nx,0,none⟩))→aa 7 e=some (.pointer (some ⟨nx+1,0,none⟩)) →
   WC (RF1 hk (n+3)) (n+3) (.seq (.drawn [(none,.load 42 12 true (.t 7)),(none,.load 43 1 true (.t 3)),(none,.pure 44 (.mv (.t 1))),(none,.call (some 45) (.c (.func (.func 37) (.mk []) (.mk []))) [.t 43,.t 44]),(none,.pure 46 (.mv (.t 2))),(none,.pure 47 (.bin .add .no (.t 45) (.t 46))),(none,.pure 48 (.conv .u64 (.t 47))),(none,.call (some 49) (.c (.func (.func 35) (.mk []) (.mk []))) [.t 42,.c (i0 7),.t 48])] [[],[],[],[1,2],[],[3,4,1,2],[5,3,4,1,2],[0,6,3,5,4,1,2]]) (.seq (.ops [(none,.load 50 1 true (.t 3)),(none,.pure 51 (.mv (.t 1))),(none,.pure 52 (.mv (.t 2))),(none,.call (some 53) (.c (.func (.func 32) (.mk []) (.mk []))) [.t 50,.t 51,.t 52])]) (.seq (.ops [(none,.pure 6 (.mv (.c (i0 0))))]) .ret))) e ⟨[],t1,n1⟩
    (mC [.tmp 6] false nx fun u h'=>∃e x2 ow2 sm2,u=ah e∧Sl x2 S lm ow2 sm2 (B+4294967296)∧Kx tbl nx x2 h'.tbl h'.next):=by
  intro v hvk hv63 hf hL e t1 n1 k1 e1 e2 e3 e7;have g1:=k1.1;have R1:=Rb2.kp (k1.up (Zn _ 8));have lB:aa nx t1=some (.cells [pO]):=(k1.2 nx (by omega)).trans hb2;have lA:aa (nx+1) t1=some (.cells (ndL a (ckW x a))):=(k1.2 (nx+1) (by omega)).trans hn2;refine WC.seq (WC.a ?_);obtain⟨u,⟨t3,n3⟩,hd1,rfl,k3⟩:=wH hh (n:=n+1) R1 h ha (by omega);dsimp only at k3;have g3:=k3.1;have R3:=R1.kp k3;have lA3:=(k3.2 (nx+1) (by omega)).trans lA;have lB3:=(k3.2 nx (by omega)).trans lB;have hc2:=jc (F:=FA) (cl:=fun _=>false) (hk:=ab hk) (n:=n+2) (vs:=[.agg ⟨ndL a (ckW x a)⟩,vI 7,.int .u64 (.ofNat v)]) (v:=.tuple ⟨[]⟩) R3 h.tw.ref (h.nset ha (f:=7) (v:=v) (by omega) (by omega)) hset rfl rfl rfl;obtain⟨h2,hw2⟩:=h.set (o:=88) (v:=v) (lm':=lm) (sm':=sm) ha (by omega) (.inr (.inl ⟨rfl,rfl,rfl,rfl⟩));rw[show a+(32+8*7)=a+88 from rfl] at hc2;generalize hx2:stw x (a+88) v=x2 at hc2 h2 hw2;have lA4:aa (nx+1) (upd 2 (AObj.ext x2) t3)=some (.cells (ndL a (ckW x a))):=(zU (by omega)).trans lA3;have lB4:aa nx (upd 2 (AObj.ext x2) t3)=some (.cells [pO]):=(zU (by omega)).trans lB3;have xa:∀m,(⟨[],t1,m⟩:Mem Ar).load ⟨nx+1,0,none⟩ 12=some (ndL a (ckW x a)):=fun m=>ae lA rfl rfl
  have xa3:(⟨[],t3,n3⟩:Mem Ar).load ⟨nx+1,0,none⟩ 12=some (ndL a (ckW x a)):=ae lA3 rfl rfl;have xa4:(⟨[],upd 2 (AObj.ext x2) t3,n3⟩:Mem Ar).load ⟨nx+1,0,none⟩ 12=some (ndL a (ckW x a)):=ae lA4 rfl rfl;have xb:∀m,(⟨[],t1,m⟩:Mem Ar).load ⟨nx,0,none⟩ 1=some [pO]:=fun m=>ae lB rfl rfl
  have xb3:(⟨[],t3,n3⟩:Mem Ar).load ⟨nx,0,none⟩ 1=some [pO]:=ae lB3 rfl rfl;have xb4:(⟨[],upd 2 (AObj.ext x2) t3,n3⟩:Mem Ar).load ⟨nx,0,none⟩ 1=some [pO]:=ae lB4 rfl rfl;refine WD.load (m:=⟨[],t1,n1+8⟩) (ms:=[]) (v:=.agg ⟨ndL a (ckW x a)⟩) (az e7 rfl rfl) (xa _) rfl (WD.load (m:=⟨[],t1,n1+8⟩) (ms:=[]) (v:=trO) (az e3 rfl rfl) (xb _) rfl (WD.pure (az e1 rfl rfl) ?_));refine WD.chn (m:=⟨[],t1,n1+8⟩) (m':=⟨[],t3,n3⟩) (v:=vI (ow a)) rfl rfl rfl (aW (m:=⟨[],t1,n1+8⟩) (h:=⟨t3,n3⟩) (vs:=[trO,vI a]) rfl rfl hd1) ?_;refine WD.pure (az e2 rfl rfl) (WD.pure (v:=vI v) (tQ rfl rfl hvk hv63) (WD.pure (v:=.int .u64 (.ofNat v)) (tN rfl (by omega)) ?_));refine WD.chn (m:=⟨[],t3,n3⟩) (m':=⟨[],upd 2 (AObj.ext x2) t3,n3⟩) rfl rfl rfl (aW (m:=⟨[],t3,n3⟩) (h:=⟨upd 2 (AObj.ext x2) t3,n3⟩) (vs:=[.agg ⟨ndL a (ckW x a)⟩,vI 7,.int .u64 (.ofNat v)]) rfl rfl hc2) ?_;refine WD.nil ⟨?_,_,_,rfl,?_⟩
  ·simp only[bi,bn,xa,xa3,xa4,xb,xb3,xb4,Ac,fp];rfl
  have R4:Rc (upd 2 (AObj.ext x2) t3) n3 x2:=R3.kx (Kx.set R3);refine zN (sQ ?_);refine WO.load (tbl:=upd 2 (AObj.ext x2) t3) (nx:=n3) (v:=trO) e3 lB4 rfl rfl rfl (WO.mv e1 (WO.mv e2 ?_));refine WO.a (vs:=[trO,vI a,.int .i64 k]) rfl rfl (kU hh hS (n:=n) hn R4 h2 ha (fun z hz=>Zv (cj L hB hz) (by decide)) (by rw[hw2];exact hf)) ?_;rintro u ⟨t5,n5⟩ ⟨x5,h5,hw5,K5⟩;rw[hw2] at h5;refine nZ (sQ (WO.mv rfl (nZ (WC.ret ⟨_,_,rfl,rfl,0,x5,_,_,rfl,⟨h5,by rw[hw5,hw2];exact hL⟩,?_⟩))));exact(((Kb2.trans k1).kx R).trans (((Kp.refl.up (Zn _ 8)).trans k3).kx ((R.kp (Kb2.trans k1))))).trans ((Kx.set R3).trans K5)
 refine WO.mv rfl (nZ (WC.seq (WC.block (sQ (WO.mv rfl (WO.pure (v:=.bool false) rfl (WO.mv rfl (nZ (WC.cond_false rfl (sQ (WO.mv rfl (WO.k rfl rfl (fun hg=>?_) (fun hg=>?_)))))))))))))
 ·refine WO.mv rfl (WO.skip rfl rfl (WO.skip rfl rfl (WO.skip rfl rfl (WO.skip rfl rfl (WO.skip rfl rfl (WO.skip rfl rfl ?_))))));refine WO.pure (v:=.bool true) rfl (WO.mv rfl (nZ (WC.cond_true rfl (sQ (WO.mv rfl (nZ (WC.ret ?_)))))));exact a9 (aB ⟨_,_,rfl,rfl,2,x,ow,sm,rfl,H0,Kb2.kx R⟩)
 have hk32:k≤4294967296:=by simp only[zO] at hg;omega
 refine WO.mv rfl (WO.take rfl rfl (WO.mv rfl (WO.take rfl rfl (WO.load (v:=trO) rfl hb2 rfl rfl rfl (WO.take rfl rfl (WO.mv rfl (WO.take rfl rfl ?_)))))));refine WO.a (vs:=[trO,vI a]) rfl rfl (wH hh (n:=n+1) Rb2 h ha (by omega)) ?_;rintro u ⟨t1,n1⟩ ⟨rfl,k1⟩;dsimp only at k1;have hb3:aa nx t1=some (.cells [pO]):=(k1.2 _ (by omega)).trans hb2;refine WO.take rfl rfl (WO.pure (ED rfl (by omega)) (WO.take rfl rfl (WO.j rfl rfl (fun hq=>?_) (fun hq=>?_))))
 ·refine WO.pure (v:=.bool true) rfl (WO.mv rfl (nZ (WC.cond_true rfl (sQ (WO.mv rfl (nZ (WC.ret ?_)))))));exact a9 (aB ⟨_,_,rfl,rfl,2,x,ow,sm,rfl,H0,(Kb2.trans k1).kx R⟩)
 have hko:-(ow a:Int)≤k:=by omega
 refine WO.pure (v:=.bool false) rfl (WO.mv rfl (nZ (WC.cond_false rfl (sQ (WO.mv rfl (WO.k rfl rfl (fun hp=>?_) (fun hp=>?_)))))))
 ·have hp':0<k:=hp;obtain⟨m,rfl⟩:=Int.eq_ofNat_of_zero_le (Int.le_of_lt hp');refine WO.mv rfl (WO.take rfl rfl (WO.load (v:=trO) rfl hb3 rfl rfl rfl (WO.take rfl rfl (WO.mv rfl (WO.take rfl rfl (WO.mv rfl (WO.take rfl rfl ?_)))))));have hv:∀z,z∈S→sm z<4611686018427387904:=fun z hz=>Zv (cj L hB hz) (by decide)
  have hlm:∀z,z∈S→lm z<9223372036854775807:=fun z hz=>Nat.lt_of_le_of_lt (L.lmB z hz) (by decide)
  refine WO.a (vs:=[trO,vI a,vI m]) rfl rfl (tD hh hS (n:=n) hn (Rb2.kp k1) h ha hv hlm (by omega)) ?_;rintro u ⟨t2,n2⟩ ⟨rfl,k2⟩;dsimp only at k2;by_cases hfit:m≤4294967296∧Cx (wds x S) S lm sm a m
  ·rw[Zh hfit];refine WO.take rfl rfl (WO.pure (v:=.bool false) rfl (WO.pure (v:=.bool false) rfl (WO.mv rfl (nZ (WC.cond_false rfl (WC.skip (zB (zN ?_))))))));have hinc:rS (wds x S) sm a (m:Int)=jH (wds x S) sm a m:=by
    funext z
    unfold rS jH;split
    ·omega
    ·rfl
   refine fine (ow a+m) (by omega) (by omega) (fun z hz _=>by have:=hv z hz;omega) ⟨kids,d,?_⟩ _ _ _ (k1.trans k2) rfl rfl rfl rfl;rw[hinc];exact(L.inc hnd ha hfit.2).more (by omega)
  ·rw[Zs hfit];refine WO.take rfl rfl (WO.pure (v:=.bool true) rfl (WO.pure (v:=.bool true) rfl (WO.mv rfl (nZ (WC.cond_true rfl (sQ (WO.mv rfl (nZ (WC.ret ?_)))))))));exact a9 (aB ⟨_,_,rfl,rfl,5,x,ow,sm,rfl,H0,(Kb2.trans (k1.trans k2)).kx R⟩)
 ·have hp':k≤0:=by have:¬(0:Int)<k:=hp;omega
  obtain⟨m,hm⟩:∃m:Nat,k = -(m:Int):=⟨(-k).toNat,by omega⟩;subst hm;refine WO.mv rfl (WO.skip rfl rfl (WO.skip rfl rfl (WO.skip rfl rfl (WO.skip rfl rfl (WO.skip rfl rfl ?_)))));refine WO.pure (v:=.bool false) rfl (WO.mv rfl (nZ (WC.cond_false rfl (WC.skip (zB (zN ?_))))));have hmo:m≤ow a:=by omega
  have hinc:rS (wds x S) sm a (-(m:Int))=fS (wds x S) sm a m:=by
   funext z
   unfold rS fS;split
   ·omega
   ·rfl
  refine fine (ow a-m) (by omega) (by omega) (fun z hz hu=>?_) ⟨kids,d,?_⟩ _ _ _ k1 rfl rfl rfl rfl
  ·have h1:=L.mono ha hu;have h2:=cj L hB hz;omega
  ·rw[hinc];exact(L.dec hnd ha hmo).more (Zn _ _)
end Go.AI
