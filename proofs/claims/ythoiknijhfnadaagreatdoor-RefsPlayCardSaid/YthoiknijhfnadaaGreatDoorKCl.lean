/- What the arena's functions do upon its parts: Clone. -/
import Derived.Test.YthoiknijhfnadaaGreatDoorKArC
namespace Go.AI
open Go.Proofs
variable {hk:Hook Empty}
theorem lt_look5{X:Type}{t:List (Nat×AObj X)}{n i:Nat}{o:AObj X}(hf:Fresh t n)(h:look i t=some o):i<n:=by
 rcases Nat.lt_or_ge i n with q|q
 ·exact q
 ·have:=hf i q;rw[h] at this;cases this
theorem rowCells_app(pid:Nat→Nat):∀(l r:List (Option Nat)) (k:Nat),rowCells pid k (l++r)=rowCells pid k l++rowCells pid (k+l.length) r
 |[],r,k=>by simp[rowCells]
 |none::l,r,k=>by simp only[List.cons_append,rowCells,rowCells_app pid l r (k+1),List.length_cons];rw[show k+1+l.length=k+(l.length+1) by omega]
 |some _::l,r,k=>by simp only[List.cons_append,rowCells,rowCells_app pid l r (k+1),List.length_cons];rw[show k+1+l.length=k+(l.length+1) by omega]
theorem rowCells_length(pid:Nat→Nat):∀(l:List (Option Nat)) (k:Nat),(rowCells pid k l).length=l.length
 |[],_=>rfl
 |none::l,k=>by simp only[rowCells,List.length_cons,rowCells_length pid l (k+1)]
 |some _::l,k=>by simp only[rowCells,List.length_cons,rowCells_length pid l (k+1)]
theorem row_take_none{pid:Nat→Nat}{l:List (Option Nat)}{q:Nat}(h:l[q]? = some none):takeN (rowCells pid 0 l) q 1=some [.pointer none]:=by
 refine take_one ?_
 rw[rowCells_get,h];rfl
theorem pgAt_none{l:List (Option Nat)}{q:Nat}(hq:q<l.length)(h:pgAt l q=none):l[q]? = some none:=by
 cases h2:l[q]? with
 |none=>rw[List.getElem?_eq_none_iff] at h2;omega
 |some o=>cases o with
  |none=>rfl
  |some P=>rw[(pgAt_get l q P).2 h2] at h;cases h
theorem takeq(l:List (Option Nat)){q:Nat}{o:Option Nat}(h:l[q]? = some o):l.take (q+1)=l.take q++[o]:=by
 have hq:q<l.length:=(List.getElem?_eq_some_iff.1 h).1
 rw[List.take_succ_eq_append_getElem hq]
 congr 2
 exact(List.getElem?_eq_some_iff.1 h).2
theorem rows_nil_succ(m:Nat)(v:Value):rows (m+1) [v]=v::rows m [v]:=by
 show(List.replicate (m+1) [v]).flatten=v::(List.replicate m [v]).flatten
 rw[List.replicate_succ,List.flatten_cons];rfl
theorem rows_one_len(m:Nat)(v:Value):(rows m [v]).length=m:=by
 rw[rows_length];simp
theorem over_nil:∀cs:List Value,over cs []=cs
 |[]=>rfl
 |_::_=>rfl
theorem over_all:∀(cs vs:List Value),cs.length=vs.length→over cs vs=vs
 |[],[],_=>rfl
 |c::cs,v::vs,h=>by
  have ih:=over_all cs vs (by simpa using h)
  simp only[over,ih]
 |[],_::_,h=>by simp at h
 |_::_,[],h=>by simp at h
theorem splice_app(b v:Value)(c:List Value):∀a:List Value,splice (a++b::c) a.length [v]=a++v::c
 |[]=>by simp only[List.nil_append,List.length_nil,splice,over,over_nil]
 |x::a=>by
  have ih:=splice_app b v c a
  simp only[List.cons_append,List.length_cons,splice,ih]
set_option maxHeartbeats 2000000 in
theorem clone_run{n:Nat}{x:Ar}{I:ArIds}{h:Hp Empty}(H:HkA hk)(hn:1048577≤n)(hA:ArH h x I) :
  ∃v h',RA (hk:=hk) (n+1) 29 [.pointer (some ⟨I.A,0,none⟩)] h=some (v,h')∧∃I',v = .pointer (some ⟨I'.A,0,none⟩)∧ArH h' x I':=by
 have at_:=hA.at_
 obtain⟨obw,hW1,hW2⟩:=at_.wds
 have lA:=hA.ltA
 have lPg:=hA.ltPg
 have lW:=hA.ltW
 have hcap:=at_.cap
 have top:=at_.top
 have row:=at_.row
 refine run_fn (H.none 29 (by decide)) f29 (show 1≤39 by decide) ?_
 dsimp only[-List.reduceReplicate,i29,argsE]
 refine WC.seq (WC.ops (WO.mv rfl (WO.nil (zN (WC.seq (WC.seq (WC.ops (WO.mv rfl (WO.pure rfl (WO.nil (zN (WC.cond_false rfl (WC.skip (zN (WC.seq (WC.ops ?_))))))))))))))))
 refine WO.mv rfl (WO.pure rfl (WO.load rfl top rfl rfl rfl ?_))
 have k1:=Keep.new hA.fresh (.cells [.slice none 0 0,.int .i64 (.ofNat 0),.slice none 0 0,.int .i64 (.ofNat 0),.bool false,.int .i64 (.ofNat 0)])
 refine WO.new (WO.store (ob':=.cells [.slice (some ⟨I.Pg,0,none⟩) x.pages.length x.pages.length,.int .i64 (Int.ofNat x.pages.length),.slice (some ⟨I.W,0,I.sp⟩) (nWords x.pages) I.cp,.int .i64 (Int.ofNat (countN x.pages)),.bool x.armed,.int .i64 (Int.ofNat x.refuse)]) rfl rfl rfl rfl look_new rfl (by show(6:Nat)≤6;exact Nat.le_refl _) rfl (WO.nil (zN (WC.seq (WC.ops ?_)))))
 have hb1:look h.next (upd h.next (.cells [.slice (some ⟨I.Pg,0,none⟩) x.pages.length x.pages.length,.int .i64 (Int.ofNat x.pages.length),.slice (some ⟨I.W,0,I.sp⟩) (nWords x.pages) I.cp,.int .i64 (Int.ofNat (countN x.pages)),.bool x.armed,.int .i64 (Int.ofNat x.refuse)]) ((h.next,.cells [.slice none 0 0,.int .i64 (.ofNat 0),.slice none 0 0,.int .i64 (.ofNat 0),.bool false,.int .i64 (.ofNat 0)])::h.tbl))=some (.cells [.slice (some ⟨I.Pg,0,none⟩) x.pages.length x.pages.length,.int .i64 (Int.ofNat x.pages.length),.slice (some ⟨I.W,0,I.sp⟩) (nWords x.pages) I.cp,.int .i64 (Int.ofNat (countN x.pages)),.bool x.armed,.int .i64 (Int.ofNat x.refuse)]):=zS look_new
 have k2:=k1.upd (i:=h.next) (o:=.cells [.slice (some ⟨I.Pg,0,none⟩) x.pages.length x.pages.length,.int .i64 (Int.ofNat x.pages.length),.slice (some ⟨I.W,0,I.sp⟩) (nWords x.pages) I.cp,.int .i64 (Int.ofNat (countN x.pages)),.bool x.armed,.int .i64 (Int.ofNat x.refuse)]) (Nat.le_refl _)
 generalize upd h.next (AObj.cells [Value.slice (some ⟨I.Pg,0,none⟩) x.pages.length x.pages.length,.int .i64 (Int.ofNat x.pages.length),.slice (some ⟨I.W,0,I.sp⟩) (nWords x.pages) I.cp,.int .i64 (Int.ofNat (countN x.pages)),.bool x.armed,.int .i64 (Int.ofNat x.refuse)]) ((h.next,.cells [.slice none 0 0,.int .i64 (.ofNat 0),.slice none 0 0,.int .i64 (.ofNat 0),.bool false,.int .i64 (.ofNat 0)])::h.tbl)=tb2 at hb1 k2
 have top2:look I.A tb2=some (.cells [.slice (some ⟨I.Pg,0,none⟩) x.pages.length x.pages.length,.int .i64 (Int.ofNat x.pages.length),.slice (some ⟨I.W,0,I.sp⟩) (nWords x.pages) I.cp,.int .i64 (Int.ofNat (countN x.pages)),.bool x.armed,.int .i64 (Int.ofNat x.refuse)]):=(k2.same I.A lA).trans top
 refine WO.mv rfl (WO.pure rfl (WO.fadd rfl (WO.load rfl top2 rfl rfl rfl (WO.len rfl ?_))))
 refine WO.step (v:=.slice (some ⟨h.next+1,0,none⟩) x.pages.length x.pages.length) (m':=⟨[],(h.next+1,.cells (rows x.pages.length [.pointer none]))::tb2,h.next+1+1⟩) ((estep_mslice rfl rfl (Nat.le_refl _) (by omega) (by omega)).trans rfl) ?_
 have k3:=k2.trans (Keep.new k2.fr (.cells (rows x.pages.length [.pointer none])))
 have hb3:look h.next ((h.next+1,AObj.cells (rows x.pages.length [.pointer none]))::tb2)=some (.cells [.slice (some ⟨I.Pg,0,none⟩) x.pages.length x.pages.length,.int .i64 (Int.ofNat x.pages.length),.slice (some ⟨I.W,0,I.sp⟩) (nWords x.pages) I.cp,.int .i64 (Int.ofNat (countN x.pages)),.bool x.armed,.int .i64 (Int.ofNat x.refuse)]):=(look_old (by omega)).trans hb1
 refine WO.fadd rfl (WO.store (ob':=.cells [.slice (some ⟨h.next+1,0,none⟩) x.pages.length x.pages.length,.int .i64 (Int.ofNat x.pages.length),.slice (some ⟨I.W,0,I.sp⟩) (nWords x.pages) I.cp,.int .i64 (Int.ofNat (countN x.pages)),.bool x.armed,.int .i64 (Int.ofNat x.refuse)]) rfl rfl rfl rfl hb3 rfl (by show(1:Nat)≤6;decide) rfl (WO.nil (zN (WC.seq (WC.seq (WC.ops ?_))))))
 have hb4:look h.next (upd h.next (.cells [.slice (some ⟨h.next+1,0,none⟩) x.pages.length x.pages.length,.int .i64 (Int.ofNat x.pages.length),.slice (some ⟨I.W,0,I.sp⟩) (nWords x.pages) I.cp,.int .i64 (Int.ofNat (countN x.pages)),.bool x.armed,.int .i64 (Int.ofNat x.refuse)]) ((h.next+1,AObj.cells (rows x.pages.length [.pointer none]))::tb2))=some (.cells [.slice (some ⟨h.next+1,0,none⟩) x.pages.length x.pages.length,.int .i64 (Int.ofNat x.pages.length),.slice (some ⟨I.W,0,I.sp⟩) (nWords x.pages) I.cp,.int .i64 (Int.ofNat (countN x.pages)),.bool x.armed,.int .i64 (Int.ofNat x.refuse)]):=zS hb3
 have hr4:look (h.next+1) (upd h.next (.cells [.slice (some ⟨h.next+1,0,none⟩) x.pages.length x.pages.length,.int .i64 (Int.ofNat x.pages.length),.slice (some ⟨I.W,0,I.sp⟩) (nWords x.pages) I.cp,.int .i64 (Int.ofNat (countN x.pages)),.bool x.armed,.int .i64 (Int.ofNat x.refuse)]) ((h.next+1,AObj.cells (rows x.pages.length [.pointer none]))::tb2))=some (.cells (rows x.pages.length [.pointer none])):=(zU (by omega)).trans look_new
 have k4:=k3.upd (i:=h.next) (o:=.cells [.slice (some ⟨h.next+1,0,none⟩) x.pages.length x.pages.length,.int .i64 (Int.ofNat x.pages.length),.slice (some ⟨I.W,0,I.sp⟩) (nWords x.pages) I.cp,.int .i64 (Int.ofNat (countN x.pages)),.bool x.armed,.int .i64 (Int.ofNat x.refuse)]) (Nat.le_refl _)
 generalize upd h.next (AObj.cells [Value.slice (some ⟨h.next+1,0,none⟩) x.pages.length x.pages.length,.int .i64 (Int.ofNat x.pages.length),.slice (some ⟨I.W,0,I.sp⟩) (nWords x.pages) I.cp,.int .i64 (Int.ofNat (countN x.pages)),.bool x.armed,.int .i64 (Int.ofNat x.refuse)]) ((h.next+1,AObj.cells (rows x.pages.length [.pointer none]))::tb2)=tb4 at hb4 hr4 k4
 have top4:look I.A tb4=some (.cells [.slice (some ⟨I.Pg,0,none⟩) x.pages.length x.pages.length,.int .i64 (Int.ofNat x.pages.length),.slice (some ⟨I.W,0,I.sp⟩) (nWords x.pages) I.cp,.int .i64 (Int.ofNat (countN x.pages)),.bool x.armed,.int .i64 (Int.ofNat x.refuse)]):=(k4.same I.A lA).trans top
 refine WO.mv rfl (WO.pure rfl (WO.fadd rfl (WO.load rfl top4 rfl rfl rfl (WO.len rfl (WO.mv rfl (WO.nil (zN (WC.block ?_))))))))
 refine WC.loop (fun j e tbl nx=>∃q,q+j=x.pages.length∧e 22=some (.slice (some ⟨I.Pg,0,none⟩) x.pages.length x.pages.length)∧e 23=some (.int .i64 (Int.ofNat x.pages.length))∧e 24=some (.int .i64 (Int.ofNat q))∧e 3=some (.pointer (some ⟨h.next,0,none⟩)) ∧
  nx=h.next+2+countN (x.pages.take q)∧Keep h.tbl h.next tbl nx ∧
  look h.next tbl=some (.cells [.slice (some ⟨h.next+1,0,none⟩) x.pages.length x.pages.length,.int .i64 (Int.ofNat x.pages.length),.slice (some ⟨I.W,0,I.sp⟩) (nWords x.pages) I.cp,.int .i64 (Int.ofNat (countN x.pages)),.bool x.armed,.int .i64 (Int.ofNat x.refuse)]) ∧
  look (h.next+1) tbl=some (.cells (rowCells (fun i=>h.next+2+countN (x.pages.take i)) 0 (x.pages.take q)++rows (x.pages.length-q) [.pointer none])) ∧
  ∀i P,i<q→x.pages[i]? = some (some P)→look (h.next+2+countN (x.pages.take i)) tbl=some (.cells (pageCells P))) (k:=x.pages.length) (by omega) ⟨0,by omega,rfl,rfl,rfl,rfl,rfl,k4,hb4,by simpa[rowCells] using hr4,fun i P hi=>absurd hi (by omega)⟩ ?_
 rintro j e tbl nx ⟨q,hq,e22,e23,e24,e3,rfl,hk5,hb5,hr5,hp5⟩
 refine WC.seq (WC.ops (WO.lssS e24 e23 (fun hlt=>?_) (fun hlt=>?_)))
 ·simp only[zO] at hlt
  have hql:q<x.pages.length:=by omega
  have row5:look I.Pg tbl=some (.cells (rowCells I.pid 0 x.pages)):=(hk5.same I.Pg lPg).trans row
  have hrl:(rowCells (fun i=>h.next+2+countN (x.pages.take i)) 0 (x.pages.take q)).length=q:=by rw[rowCells_length,List.length_take];omega
  refine WO.nil (zN (WC.seq (WC.cond_true rfl (WC.skip (zN (WC.seq (WC.block (WC.seq (WC.ops ?_)))))))))
  refine WO.mv e24 ?_
  cases hpg:pgAt x.pages q with
  |none =>
   have hpq:=pgAt_none hql hpg
   refine WO.idxL e22 e24 rfl hql (WO.load rfl row5 rfl (by rw[show 0+q*1=q by omega];exact row_take_none hpq) rfl (WO.mv rfl (WO.mv rfl (WO.nil (zN (WC.seq (WC.ops (WO.mv rfl (WO.pure rfl (WO.nil (zN (WC.cond_false rfl (WC.skip (zB (zN (WC.ops ?_))))))))))))))))
   refine WO.add e24 rfl (by simp only[zO];omega) (by simp only[zO];omega) (WO.as (b:=Int.ofNat (q+1)) (by simp only[zO];omega) (WO.mv rfl (WO.nil ?_)))
   have hc1:countN (x.pages.take (q+1))=countN (x.pages.take q):=by rw[takeq _ hpq,countN_app];rfl
   refine⟨j-1,by omega,rfl,q+1,by omega,e22,e23,rfl,e3,by rw[hc1],hk5,hb5,?_,fun i P hi hP=>?_⟩
   ·refine hr5.trans ?_
    rw[takeq _ hpq,rowCells_app,show x.pages.length-q=(x.pages.length-(q+1))+1 by omega,rows_nil_succ]
    simp[rowCells]
   ·rcases Nat.lt_or_ge i q with h1|h1
    ·exact hp5 i P h1 hP
    ·have:i=q:=by omega
     subst this
     rw[hpq] at hP;cases hP
  |some P =>
   have hpq:=(pgAt_get _ _ _).1 hpg
   have hpc:look (I.pid q) tbl=some (.cells (pageCells P)):=(hk5.same _ (hA.ltP hpq)).trans (at_.page q P hpq)
   refine WO.idxL e22 e24 rfl hql (WO.load rfl row5 rfl (by rw[show 0+q*1=q by omega];exact row_take hpg) rfl (WO.mv rfl (WO.mv rfl (WO.nil (zN (WC.seq (WC.ops (WO.mv rfl (WO.pure rfl (WO.nil (zN (WC.cond_true rfl (WC.seq (WC.ops ?_))))))))))))))
   have hpl:(pageCells P).length=4096:=by simp[pageCells]
   generalize hcp:pageCells P=cp at hpc hpl
   refine WO.mv rfl (WO.pure rfl (WO.load (r:=cp) (v:=.agg ⟨cp⟩) rfl hpc rfl ?_ rfl (WO.new ?_)))
   ·have:(cp.drop 0).take 4096=cp:=by rw[List.drop_zero,← hpl,List.take_length]
    simp only[takeN,this]
    rw[hpl];rfl
   generalize hz:List.replicate 4096 (Value.int .u8 (.ofNat 0))=z0
   have hzl:z0.length=4096:=by rw[← hz,List.length_replicate]
   clear hz
   have k6:=Keep.new hk5.fr (.cells z0)
   refine WO.store (ob':=.cells cp) (vs:=cp) (v:=.agg ⟨cp⟩) (cs:=z0) rfl rfl rfl hpl look_new rfl (by rw[hpl,hzl];exact Nat.le_refl _) ?_ (WO.nil (zN (WC.ops ?_)))
   ·show some (AObj.cells (splice z0 0 cp))=some (.cells cp)
    have:splice z0 0 cp=cp:=by
     simp only[splice]
     exact over_all z0 cp (by rw[hzl,hpl])
    rw[this]
   generalize hB:h.next+2+countN (x.pages.take q)=B at hk5 k6 hr5
   have hB2:h.next+2≤B:=by omega
   have k7:=(hk5.trans k6).upd (i:=B) (o:=.cells cp) (by omega)
   have hb6:look h.next (upd B (.cells cp) ((B,.cells z0)::tbl))=some (.cells [.slice (some ⟨h.next+1,0,none⟩) x.pages.length x.pages.length,.int .i64 (Int.ofNat x.pages.length),.slice (some ⟨I.W,0,I.sp⟩) (nWords x.pages) I.cp,.int .i64 (Int.ofNat (countN x.pages)),.bool x.armed,.int .i64 (Int.ofNat x.refuse)]):=(zU (by omega)).trans ((look_old (by omega)).trans hb5)
   have hr6:look (h.next+1) (upd B (.cells cp) ((B,.cells z0)::tbl))=some (.cells (rowCells (fun i=>h.next+2+countN (x.pages.take i)) 0 (x.pages.take q)++rows (x.pages.length-q) [.pointer none])):=(zU (by omega)).trans ((look_old (by omega)).trans hr5)
   have hp6:look B (upd B (.cells cp) ((B,AObj.cells z0)::tbl))=some (.cells cp):=zS look_new
   have hp7:∀i Q,i<q→x.pages[i]? = some (some Q)→look (h.next+2+countN (x.pages.take i)) (upd B (.cells cp) ((B,AObj.cells z0)::tbl))=some (.cells (pageCells Q)):=fun i Q hi hQ=>by
    have h1:=hp5 i Q hi hQ
    have h2:=lt_look5 hk5.fr h1
    exact(zU (by omega)).trans ((look_old (by omega)).trans h1)
   generalize upd B (AObj.cells cp) ((B,.cells z0)::tbl)=tb6 at hb6 hr6 hp6 hp7 k7
   refine WO.fadd (by exact e3) (WO.load rfl hb6 rfl rfl rfl (WO.mv rfl (WO.idxL rfl rfl rfl hql ?_)))
   refine WO.store (ob':=.cells (rowCells (fun i=>h.next+2+countN (x.pages.take i)) 0 (x.pages.take (q+1))++rows (x.pages.length-(q+1)) [.pointer none])) rfl rfl rfl rfl hr6 rfl (by simp only[List.length_append,hrl,rows_one_len,List.length_cons,List.length_nil];omega) ?_ (WO.nil (zB (zN (WC.ops ?_))))
   ·refine congrArg (fun l=>some (AObj.cells l)) ?_
    rw[show 0+q*1=q by omega,takeq _ hpq,rowCells_app,show x.pages.length-q=(x.pages.length-(q+1))+1 by omega,rows_nil_succ]
    have hmin:(x.pages.take q).length=q:=by rw[List.length_take];omega
    have hsp:=splice_app (.pointer none) (.pointer (some ⟨B,0,none⟩)) (rows (x.pages.length-(q+1)) [.pointer none]) (rowCells (fun i=>h.next+2+countN (x.pages.take i)) 0 (x.pages.take q))
    rw[hrl] at hsp
    rw[hsp,hmin,Nat.zero_add]
    simp[rowCells,hB]
   refine WO.add e24 rfl (by simp only[zO];omega) (by simp only[zO];omega) (WO.as (b:=Int.ofNat (q+1)) (by simp only[zO];omega) (WO.mv rfl (WO.nil ?_)))
   have hc1:countN (x.pages.take (q+1))=countN (x.pages.take q)+1:=by rw[takeq _ hpq,countN_app];rfl
   refine⟨j-1,by omega,rfl,q+1,by omega,e22,e23,rfl,e3,by rw[hc1];show B+1=_;omega,k7.upd (by omega),(zU (by omega)).trans hb6,zS hr6,fun i Q hi hQ=>?_⟩
   rcases Nat.lt_or_ge i q with h1|h1
   ·have:=hp7 i Q h1 hQ
    exact(zU (by omega)).trans this
   ·have:i=q:=by omega
    subst this
    rw[hpq] at hQ
    have hQ:P=Q:=by simpa using hQ
    rw[hB,← hQ,hcp]
    exact(zU (by omega)).trans hp6
 ·simp only[zO] at hlt
  have hqm:q=x.pages.length:=by omega
  subst hqm
  refine WO.nil (zN (WC.seq (WC.cond_false rfl (WC.exit (thenC_exit (blockC_exit (zN (WC.seq (WC.ops ?_)))))))))
  refine WO.mv e3 (WO.nil (zN (WC.ret ?_)))
  have hcle:∀i P,x.pages[i]? = some (some P)→∀i',i<i'→countN (x.pages.take i)<countN (x.pages.take i'):=by
   intro i P hP i' hi
   have h1:x.pages.take i'=x.pages.take (i+1)++(x.pages.take i').drop (i+1):=by
    have:(x.pages.take i').take (i+1)=x.pages.take (i+1):=by rw[List.take_take];congr 1;omega
    rw[← this,List.take_append_drop]
   rw[h1,countN_app,takeq _ hP,countN_app]
   show _<countN (x.pages.take i)+(0+1)+_
   omega
  refine⟨_,_,rfl,rfl,⟨h.next,h.next+1,I.W,I.sp,I.cp,fun i=>h.next+2+countN (x.pages.take i)⟩,rfl,⟨hb5,?_,⟨obw,(hk5.same _ lW).trans hW1,hW2⟩,fun i P hP=>hp5 i P (List.getElem?_eq_some_iff.1 hP).1 hP,?_,⟨by show h.next≠h.next+1;omega,by show h.next≠I.W;omega,by show h.next+1≠I.W;omega⟩,fun i P _=>⟨by show h.next+2+_≠h.next;omega,by show h.next+2+_≠h.next+1;omega,by show h.next+2+_≠I.W;omega⟩,at_.cap,at_.ref⟩,hk5.fr⟩
  ·refine hr5.trans ?_
   rw[List.take_length,Nat.sub_self]
   show some (AObj.cells (_++[]))=_
   rw[List.append_nil]
  ·intro i i' P Q hP hQ he
   rcases Nat.lt_trichotomy i i' with h1|h1|h1
   ·have:=hcle i P hP i' h1
    have he:h.next+2+countN (x.pages.take i)=h.next+2+countN (x.pages.take i'):=he
    omega
   ·exact h1
   ·have:=hcle i' Q hQ i h1
    have he:h.next+2+countN (x.pages.take i)=h.next+2+countN (x.pages.take i'):=he
    omega
end Go.AI
/- The arena as one object: Clone, where the old one is not used any more. -/
namespace Go.AI
open Go.Proofs
variable {W0:World}{Cls:Nat→Int→Prop}
def View.moved{E:Ext}(V:View E)(i n:Nat)(o:AObj E.X):View E:=fun j=>if j=n then some o else if j=i then none else V j
theorem post_moved{ρ:Ren}{φ:Foot}{V:View (Ext1 Cls)}{n:Nat}{w w':World}(g:Good W0 ρ φ V n w){i:Nat}{x x':Ar}(hi:V i=some (.ext x)){T T':List (Nat×AObj Empty)}{n0 n0':Nat}{ρ0 ρ0':Ren}{φ0 φ0':Foot}{I':ArIds}{b' s':Nat}
  (hF:∀c,(φ i).1 c↔allF (E:=Ext0) φ0 (fun i=>look i T) c) (hD:∀c,(φ i).2 c↔allD (E:=Ext0) φ0 (fun i=>look i T) c)
  (p:Post (E:=Ext0) W0 ρ0 φ0 (fun i=>look i T) n0 w ρ0' φ0' (fun i=>look i T') n0' w') (hA:ArAt (fun i=>look i T') x' I') (hb':ρ0' I'.A=some (b',s')) :
  Post W0 ρ φ V n w (ρ.put n (b',0)) (fun j=>if j=n then(allF (E:=Ext0) φ0' (fun i=>look i T'),allD (E:=Ext0) φ0' (fun i=>look i T')) else φ j) (View.moved (E:=(Ext1 Cls)) V i n (.ext x')) (n+1) w':=by
 have hV:∀j oj,View.moved (E:=(Ext1 Cls)) V i n (.ext x') j=some oj→j≠n→V j=some oj∧j≠i:=fun j oj h e=>by
  unfold View.moved at h
  rw[if_neg e] at h
  by_cases hji:j=i
  ·rw[if_pos hji] at h;cases h
  ·rw[if_neg hji] at h;exact⟨h,hji⟩
 have hnF:∀c,allF (E:=Ext0) φ0' (fun i=>look i T') c→w.heap.size≤c∨(φ i).1 c:=fun c ⟨a,o,ha,hc⟩=>by
  rcases p.fF a o c ha hc with h|⟨a',o',h1,h2⟩
  ·exact .inl h
  ·exact .inr ((hF c).2 ⟨a',o',h1,h2⟩)
 have hnD:∀c,allD (E:=Ext0) φ0' (fun i=>look i T') c→w.heap.size≤c∨(φ i).2 c:=fun c ⟨a,o,ha,hc⟩=>by
  rcases p.fD a o c ha hc with h|⟨a',o',h1,h2⟩
  ·exact .inl h
  ·exact .inr ((hD c).2 ⟨a',o',h1,h2⟩)
 have hkeep:∀c,c<w.heap.size→¬(φ i).1 c→w'.heap[c]? = w.heap[c]? := fun c hc hn =>
  p.keep c hc fun a o ha hFa=>hn ((hF c).2 ⟨a,o,ha,hFa⟩)
 have hle:ρ.le (ρ.put n (b',0)):=le_put (g.dom n (Nat.le_refl _))
 refine⟨⟨?_,?_,?_,?_,?_,?_,p.good.size,p.good.base,p.good.os,p.good.out⟩,hle,by omega,p.sz,fun c hc hF'=>hkeep c hc (hF' i _ hi),?_,?_,?_,fun j hj=>by simp[Ren.put,show j≠n by omega]⟩
 ·intro j hj
  simp only[Ren.put,show j≠n by omega,if_false]
  exact g.dom j (by omega)
 ·intro j oj hj
  by_cases e:j=n
  ·subst e
   simp only[View.moved,if_true,zI] at hj
   subst hj
   refine⟨b',0,by simp[Ren.put],?_⟩
   simp only[if_true]
   exact .inl ⟨T',n0',ρ0',φ0',I',s',hA,p.good.loc,hb',fun _=>Iff.rfl,fun _=>Iff.rfl⟩
  ·obtain⟨hj',hji⟩:=hV j oj hj e
   obtain⟨bj,sj,h1,h2⟩:=g.rel j oj hj'
   refine⟨bj,sj,hle _ _ h1,?_⟩
   simp only[e,if_false]
   exact h2.frame hle fun c hc=>hkeep c (g.lts j oj c hj' hc) fun hFc=>g.dis i j _ oj c hi hj' (fun h=>hji h.symm) hFc hc
 ·intro j k oj ok c hj hk hne hFj hDk
  by_cases e:j=n
  ·have e':k≠n:=fun h=>hne (e.trans h.symm)
   obtain⟨hk',hki⟩:=hV k ok hk e'
   simp only[e,if_true] at hFj
   simp only[e',if_false] at hDk
   rcases hnF c hFj with h|h
   ·have:=g.lts k ok c hk' hDk;omega
   ·exact g.dis i k _ ok c hi hk' (fun h=>hki h.symm) h hDk
  ·obtain⟨hj',hji⟩:=hV j oj hj e
   simp only[e,if_false] at hFj
   by_cases e':k=n
   ·simp only[e',if_true] at hDk
    rcases hnD c hDk with h|h
    ·have:=g.lts j oj c hj' (g.sub j oj c hj' hFj);omega
    ·exact g.dis j i oj _ c hj' hi hji hFj h
   ·simp only[e',if_false] at hDk
    exact g.dis j k oj ok c hj' (hV k ok hk e').1 hne hFj hDk
 ·intro j oj c hj hFj
  by_cases e:j=n
  ·simp only[e,if_true] at hFj ⊢
   obtain⟨a,o,ha,hc⟩:=hFj
   exact⟨a,o,ha,p.good.sub a o c ha hc⟩
  ·simp only[e,if_false] at hFj ⊢
   exact g.sub j oj c (hV j oj hj e).1 hFj
 ·intro j oj c hj hDj
  by_cases e:j=n
  ·simp only[e,if_true] at hDj
   obtain⟨a,o,ha,hc⟩:=hDj
   exact p.good.lts a o c ha hc
  ·simp only[e,if_false] at hDj
   have:=g.lts j oj c (hV j oj hj e).1 hDj
   have:=p.sz
   omega
 ·intro j oj c hj hFj
  by_cases e:j=n
  ·simp only[e,if_true] at hFj
   obtain⟨a,o,ha,hc⟩:=hFj
   exact p.good.frs a o c ha hc
  ·simp only[e,if_false] at hFj
   exact g.frs j oj c (hV j oj hj e).1 hFj
 ·intro j oj c hj hFj
  by_cases e:j=n
  ·simp only[e,if_true] at hFj
   rcases hnF c hFj with h|h
   ·exact .inl h
   ·exact .inr ⟨i,_,hi,h⟩
  ·simp only[e,if_false] at hFj
   exact .inr ⟨j,oj,(hV j oj hj e).1,hFj⟩
 ·intro j oj c hj hDj
  by_cases e:j=n
  ·simp only[e,if_true] at hDj
   rcases hnD c hDj with h|h
   ·exact .inl h
   ·exact .inr ⟨i,_,hi,h⟩
  ·simp only[e,if_false] at hDj
   exact .inr ⟨j,oj,(hV j oj hj e).1,hDj⟩
 ·intro j oj hj
  by_cases e:j=n
  ·exact .inl (by omega)
  ·exact .inr ⟨oj,(hV j oj hj e).1⟩
def cloneH:List Value→Hp Ar→Option (Value×Hp Ar)
 |[.pointer (some ⟨i,0,none⟩)],h=>match look i h.tbl with
  |some (.ext x)=>bif Nat.blt x.refuse 9223372036854775808 then some (.pointer (some ⟨h.next,0,none⟩),⟨(h.next,.ext x)::del i h.tbl,Nat.succ h.next⟩) else none
  |_=>none
 |_,_=>none
theorem clone_ok:HookOk (Ext1 Cls) PZ W0 29 cloneH:=by
 intro vs hp v h2 hr ρ φ w hG vs' hvs
 unfold cloneH at hr
 split at hr
 ·rename_i i
  split at hr
  ·rename_i x hx
   cases hlt:Nat.blt x.refuse 9223372036854775808 with
   |false=>rw[hlt] at hr;cases hr
   |true =>
    rw[hlt,cond_true] at hr
    rw[blt_iff,decide_eq_true_eq] at hlt
    simp only[zI,Prod.mk.injEq] at hr
    obtain⟨rfl,rfl⟩:=hr
    obtain⟨T,n0,ρ0,φ0,I,b,s,s0,hA,hG0,hb,hb0,hF,hD⟩:=good_down hG hx hlt
    have hfr:Fresh T n0:=fun k hk=>by
     cases hk2:look k T with
     |none=>rfl
     |some o=>have:=hG0.lt hk2;omega
    cases hvs with
    |cons hv1 hv2 =>
     cases hv2
     rename_i p1
     obtain rfl:p1=Value.pointer (some ⟨b,0,none⟩):=by
      cases hv1 with
      |x hx1 =>
       cases hx1 with
       |flat hf =>
        cases hf with
        |ptr he=>rw[hb] at he;injection he with he;injection he with e1 e2;subst e1;rfl
     obtain⟨v0,h',hrun,I',rfl,hA'⟩:=clone_run (hk:=hk0) (n:=1048577) (h:=⟨T,n0⟩) hk0_B.toHkA (Nat.le_refl _) ⟨hA,hfr⟩
     have hvs0:All2 (VR ρ0) [.pointer (some ⟨I.A,0,none⟩)] [.pointer (some ⟨b,0,none⟩)]:=.cons (.of_flat (.ptr hb0)) .nil
     have key:∀{v' w' ρ' φ'},VR ρ' (.pointer (some ⟨I'.A,0,none⟩)) v'→Post (E:=Ext0) W0 ρ0 φ0 (fun i=>look i T) n0 w ρ' φ' (fun i=>look i h'.tbl) h'.next w' →
       ∃ρ1 φ1,VR ρ1 (.pointer (some ⟨hp.next,0,none⟩)) v'∧Post (E:=(Ext1 Cls)) W0 ρ φ (fun i=>look i hp.tbl) hp.next w ρ1 φ1 (fun j=>look j ((hp.next,AObj.ext x)::del i hp.tbl)) (Nat.succ hp.next) w':=by
      intro v' w' ρ' φ' q1 q2
      obtain⟨b',s',rfl,hb'⟩:∃b' s',v' = .pointer (some ⟨b',0,none⟩)∧ρ' I'.A=some (b',s'):=by
       cases q1 with
       |x hx1 =>
        cases hx1 with
        |flat hf =>
         cases hf with
         |ptr he=>exact⟨_,_,rfl,he⟩
      have q4:=post_moved hG hx hF hD q2 hA'.at_ hb'
      have q5:(fun j=>look j ((hp.next,AObj.ext x)::del i hp.tbl))=View.moved (E:=(Ext1 Cls)) (fun i=>look i hp.tbl) i hp.next (.ext x):=by
       funext j
       unfold View.moved
       rw[zC,look_del]
      rw[← q5] at q4
      exact⟨_,_,.of_flat (.ptr (s:=0) (by simp[Ren.put])),q4⟩
     rcases hk0_ok 29 _ _ _ _ hrun ρ0 φ0 w hG0 _ hvs0 with⟨hb1,hc⟩|⟨v',w',ρ',φ',hx1,q1,q2⟩
     ·refine .inl ⟨hb1,calls_mono hc ?_⟩
      rintro e w' ⟨v',ρ',φ',rfl,q1,q2⟩
      obtain⟨ρ1,φ1,q3,q4⟩:=key q1 q2
      exact⟨v',ρ1,φ1,rfl,q3,q4⟩
     ·obtain⟨ρ1,φ1,q3,q4⟩:=key q1 q2
      exact .inr ⟨v',w',ρ1,φ1,hx1,q3,q4⟩
  ·cases hr
 ·cases hr
end Go.AI
