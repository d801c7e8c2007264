/- What the arena's functions do upon its parts: a set's row turned, of one word. -/
import Derived.Test.YthoiknijhfnadaaGreatDoorKArA
import Derived.Test.YthoiknijhfnadaaGreatDoorKTa
namespace Go.AI
open Go.Proofs
variable {hk:Hook Empty}
section
variable {X:Type}{env:List (Nat×Value)}
theorem pv_quo{e:EqK}{x y:Opd}{a b:Nat}(hx:evo env x=some (.int .i64 (Int.ofNat a)))(hy:evo env y=some (.int .i64 (Int.ofNat (b+1))))(ha:a<9223372036854775808):peval env (.bin .quo e x y)=some (.int .i64 (Int.ofNat (a / (b+1)))):=by
 have h1:a / (b+1)<half .i64:=Nat.lt_of_le_of_lt (Nat.div_le_self _ _) ha
 have h2:wrapF .i64 (Int.ofNat (a / (b+1)))=Int.ofNat (a / (b+1)):=by rw[wrapF_eq];exact wrapF_nat .i64 _ h1
 have h3:Nat.div a (b+1)=a / (b+1):=rfl
 simp only[peval,hx,hy,binVal,intBin,divF,if_true,h3,h2,Option.map]
theorem pv_idxL{e:Nat}{x i:Opd}{b o len c n:Nat}{sp:Option Nat}{j:IntKind}(hx:evo env x=some (.slice (some ⟨b,o,sp⟩) len c))(hi:evo env i=some (.int j (Int.ofNat n)))(hn:n<len):peval env (.idxL e x i)=some (.pointer (some ⟨b,o+n*e,none⟩)):=by
 have h:Nat.blt n len=true:=by rw[blt_iff];exact decide_eq_true hn
 simp only[peval,hx,hi,natOf,h,cond_true]
theorem pv_mv{x:Opd}{v:Value}(h:evo env x=some v):peval env (.mv x)=some v:=h
theorem pv_fadd{off:Nat}{x:Opd}{b o:Nat}(hx:evo env x=some (.pointer (some ⟨b,o,none⟩))):peval env (.fadd off x)=some (.pointer (some ⟨b,o+off,none⟩)):=by simp only[peval,hx]
theorem look_app_none{α:Type}(s:Nat)(r:List (Nat×α)):∀(l:List (Nat×α)),look s l=none→look s (l++r)=look s r
 |[],_=>rfl
 |x::l,h=>by
  rw[zC] at h
  rw[List.cons_append,zC]
  split at h
  ·cases h
  ·rename_i hne;rw[if_neg hne];exact look_app_none s r l h
theorem look_filt{s:Nat}{L:List Nat}(hm:memB s L=false):∀(l:List (Nat×Value)),look s (l.filter fun p=>!memB p.1 L)=look s l
 |[]=>rfl
 |x::l=>by
  rw[List.filter_cons]
  cases hx:memB x.1 L with
  |true =>
   simp only[Bool.not_true,Bool.false_eq_true,if_false]
   rw[look_filt hm l,zC,if_neg (fun e=>by rw[e,hx] at hm;cases hm)]
  |false =>
   simp only[Bool.not_false,if_true]
   rw[zC,zC,look_filt hm l]
theorem ev_out{bf:List (List Nat)}{ds:List (Nat×Option Nat)}{env0:List (Nat×Value)}{vals:List (Nat×Option Nat×Value)}{k s:Nat}{v:Value}(he:look s env0=some v)(h1:look s (slotsOf (vals.filter fun x=>ordB bf x.1 k))=none)(hm:memB s (loose bf k ds)=false):evo (envAt bf ds env0 vals k) (.t s)=some v:=by
 show look s (slotsOf (vals.filter fun x=>ordB bf x.1 k)++env0.filter fun p=>!memB p.1 (loose bf k ds))=some v
 rw[look_app_none _ _ _ h1,look_filt hm];exact he
end
theorem or_run{n a b:Nat}{h:Hp Empty}(h0:hk 66=none)(ha:a<18446744073709551616)(hb:b<18446744073709551616):RA (hk:=hk) (n+1) 66 [.int .u64 (Int.ofNat a),.int .u64 (Int.ofNat b)] h=some (.int .u64 (Int.ofNat (a ||| b)),h):=by
 have key:∃v h',RA (hk:=hk) (n+1) 66 [.int .u64 (Int.ofNat a),.int .u64 (Int.ofNat b)] h=some (v,h')∧(v = .int .u64 (Int.ofNat (a ||| b))∧h'=h):=by
  refine run_fn h0 f66 (by simp[i66]) ?_
  dsimp only[i66,argsE]
  refine WC.seq (WC.ops (WO.mv rfl (WO.nil (zN (WC.seq (WC.ops (WO.mv rfl (WO.mv rfl (WO.orU rfl rfl ha hb (WO.mv rfl (WO.nil (zN (WC.ret ?_)))))))))))))
  exact⟨_,_,rfl,rfl,rfl,rfl⟩
 obtain⟨v,h',q1,rfl,rfl⟩:=key
 exact q1
theorem clone1_run{n W cp:Nat}{sp:Option Nat}{w:Value}{h:Hp Empty}(h0:hk 109=none)(hf:Fresh h.tbl h.next)(hW:∃ob,look W h.tbl=some ob∧cellsO ob=some [w]) :
  ∃v h',RA (hk:=hk) (n+1) 109 [.slice (some ⟨W,0,sp⟩) 1 cp] h=some (v,h')∧∃W',h.next≤W'∧W'<h'.next∧v = .slice (some ⟨W',0,none⟩) 1 1∧look W' h'.tbl=some (.grown 1 28 [w])∧Keep h.tbl h.next h'.tbl h'.next:=by
 obtain⟨ob,hW1,hW2⟩:=hW
 have hWlt:W<h.next:=by
  rcases Nat.lt_or_ge W h.next with q|q
  ·exact q
  ·have:=hf W q;rw[hW1] at this;cases this
 refine run_fn h0 f109 (by simp[i109]) ?_
 dsimp only[i109,argsE]
 refine WC.seq (WC.ops (WO.mv rfl (WO.nil (zN (WC.seq (WC.seq (WC.ops (WO.mv rfl (WO.pure rfl (WO.nil (zN (WC.cond_false rfl (WC.skip (zN (WC.seq (WC.ops ?_))))))))))))))))
 refine WO.step (i:=.bslice 5 0 1 [.int .u64 (.ofNat 0)] []) (v:=.slice (some ⟨h.next,0,none⟩) 0 0) (m':=⟨[],(h.next,.cells [])::h.tbl,h.next+1⟩) rfl ?_
 have k1:=Keep.new hf (.cells [])
 have hW3:look W ((h.next,.cells [])::h.tbl)=some ob:=(look_old (by omega)).trans hW1
 refine WO.mv rfl (WO.append (w:=.slice (some ⟨h.next+1,0,none⟩) 1 1) (m':=⟨[],(h.next+1,.grown 1 28 [w])::(h.next,.cells [])::h.tbl,h.next+1+1⟩) rfl rfl ?_ ?_)
 ·have hsrc:source (⟨[],(h.next,.cells [])::h.tbl,h.next+1⟩:Mem Empty) 1 (.slice (some ⟨W,0,sp⟩) 1 cp)=some (1,[w]):=by
   have:=mem_loads (nx:=h.next+1) (sp:=sp) (o:=0) (n:=1*1) (s:=[w]) hW3 hW2 rfl (by decide)
   simp only[source,this,Option.map]
  have hg:(⟨[],(h.next,.cells [])::h.tbl,h.next+1⟩:Mem Empty).get h.next=some (.cells []):=look_new
  simp only[appendM,hsrc,hg]
  rfl
 have k2:=Keep.new k1.fr (.grown 1 28 [w])
 refine WO.mv rfl (WO.nil (zN (WC.ret ⟨_,_,rfl,rfl,h.next+1,by omega,by show h.next+1<h.next+1+1;omega,rfl,look_new,k1.trans k2⟩)))
set_option maxHeartbeats 2000000 in
theorem turn_run{n L W cp s a k:Nat}{sp:Option Nat}{h:Hp Empty}(H:HkA hk)(hn:1048576≤n)(hL:L≤64)(hk0:0<k)(hak:a+k≤L)(hs:s<18446744073709551616)(hf:Fresh h.tbl h.next)(hW:∃ob,look W h.tbl=some ob∧cellsO ob=some [.int .u64 (Int.ofNat s)]) :
  ∃v h',RA (hk:=hk) (n+2) 65 [setVal L W sp 1 cp,.int .i64 (Int.ofNat a),.int .i64 (Int.ofNat k),.func (.func 66) #[] #[]] h=some (v,h') ∧
   ∃W',h.next≤W'∧v = .tuple ⟨[setVal L W' none 1 1,errV 0]⟩∧look W' h'.tbl=some (.grown 1 28 [.int .u64 (Int.ofNat (s ||| maskN a k))])∧Keep h.tbl h.next h'.tbl h'.next:=by
 have hstep:stepN a k=k:=by unfold stepN;omega
 have hml:maskN a k<18446744073709551616:=by have:=mask_lt (a:=a) (n:=k);rwa [hstep] at this
 refine run_fn (H.none 65 (by decide)) f65 (by simp[i65]) ?_
 dsimp only[i65,argsE]
 have k1:=Keep.new hf (.cells [.int .i64 (Int.ofNat L),.slice (some ⟨W,0,sp⟩) 1 cp])
 have k2:=Keep.new k1.fr (.cells [.int .i64 (.ofNat 0),.slice none 0 0])
 refine WC.seq (WC.ops (WO.box rfl rfl (WO.new (WO.mv rfl (WO.nil (zN (WC.seq (WC.seq (WC.ops ?_)))))))))
 have kk:=k1.trans k2
 have hb0:look h.next ((h.next+1,.cells [.int .i64 (.ofNat 0),.slice none 0 0])::(h.next,.cells [.int .i64 (Int.ofNat L),.slice (some ⟨W,0,sp⟩) 1 cp])::h.tbl)=some (.cells [.int .i64 (Int.ofNat L),.slice (some ⟨W,0,sp⟩) 1 cp]):=(look_old (by omega)).trans look_new
 refine WO.load rfl hb0 rfl rfl rfl (WO.mv rfl (WO.mv rfl (WO.fcall_ex rfl rfl (within_run (h:=⟨_,_⟩) (n:=n) (L:=(L:Int)) (a:=Int.ofNat a) (k:=Int.ofNat k) (H.none 106 (by decide)) (by omega) (by omega) kk.fr) ?_)))
 rintro v2 ⟨tb2,nx2⟩ ⟨rfl,k3⟩
 have hin:(0≤Int.ofNat a∧0≤Int.ofNat k∧Int.ofNat k≤(L:Int)∧Int.ofNat a≤(L:Int)-Int.ofNat k):=by simp only[zO];omega
 rw[decide_eq_true hin]
 have kA:=kk.trans k3
 have hb2:look h.next tb2=some (.cells [.int .i64 (Int.ofNat L),.slice (some ⟨W,0,sp⟩) 1 cp]):=(k3.same h.next (by show h.next<h.next+1+1;omega)).trans hb0
 have hr2:look (h.next+1) tb2=some (.cells [.int .i64 (.ofNat 0),.slice none 0 0]):=(k3.same (h.next+1) (by show h.next+1<h.next+1+1;omega)).trans look_new
 have hnx2:h.next+1+1≤nx2:=k3.le
 refine WO.pure rfl (WO.nil (zN (WC.cond_false rfl (WC.skip (zN (WC.seq (WC.ops ?_)))))))
 obtain⟨ob,hW1,hW2⟩:=hW
 have hWlt:W<h.next:=by
  rcases Nat.lt_or_ge W h.next with q|q
  ·exact q
  ·have:=hf W q;rw[hW1] at this;cases this
 refine WO.fadd rfl (WO.load rfl hb2 rfl rfl rfl (WO.fcall_ex rfl rfl (clone1_run (n:=n) (h:=⟨tb2,nx2⟩) (H.none 109 (by decide)) kA.fr ⟨ob,(kA.same W hWlt).trans hW1,hW2⟩) ?_))
 rintro v3 ⟨tb3,nx3⟩ ⟨W',hW3,hW4,rfl,hW5,k4⟩
 have hW3:nx2≤W':=hW3
 have hW4:W'<nx3:=hW4
 have hW5:look W' tb3=some (.grown 1 28 [.int .u64 (Int.ofNat s)]):=hW5
 have k4:Keep tb2 nx2 tb3 nx3:=k4
 have kB:=kA.trans k4
 have hb3:look h.next tb3=some (.cells [.int .i64 (Int.ofNat L),.slice (some ⟨W,0,sp⟩) 1 cp]):=(k4.same h.next (by omega)).trans hb2
 have hr3:look (h.next+1) tb3=some (.cells [.int .i64 (.ofNat 0),.slice none 0 0]):=(k4.same (h.next+1) (by omega)).trans hr2
 refine WO.fadd rfl (WO.store (ob':=.cells [.int .i64 (Int.ofNat L),.slice (some ⟨W',0,none⟩) 1 1]) rfl rfl rfl rfl hb3 rfl (by simp) rfl (WO.nil (zN (WC.seq (WC.block ?_)))))
 have kC:=kB.upd (i:=h.next) (o:=.cells [.int .i64 (Int.ofNat L),.slice (some ⟨W',0,none⟩) 1 1]) (Nat.le_refl _)
 have hb4:look h.next (upd h.next (.cells [.int .i64 (Int.ofNat L),.slice (some ⟨W',0,none⟩) 1 1]) tb3)=some (.cells [.int .i64 (Int.ofNat L),.slice (some ⟨W',0,none⟩) 1 1]):=zS hb3
 have hr4:look (h.next+1) (upd h.next (.cells [.int .i64 (Int.ofNat L),.slice (some ⟨W',0,none⟩) 1 1]) tb3)=some (.cells [.int .i64 (.ofNat 0),.slice none 0 0]):=(zU (by omega)).trans hr3
 have hw4:look W' (upd h.next (.cells [.int .i64 (Int.ofNat L),.slice (some ⟨W',0,none⟩) 1 1]) tb3)=some (.grown 1 28 [.int .u64 (Int.ofNat s)]):=(zU (by omega)).trans hW5
 generalize upd h.next (.cells [.int .i64 (Int.ofNat L),.slice (some ⟨W',0,none⟩) 1 1]) tb3=tb4 at kC hb4 hr4 hw4
 refine WC.loop (fun j e tbl nx=>e 3=some (.func (.func 66) #[] #[])∧e 4=some (.pointer (some ⟨h.next,0,none⟩))∧e 8=some (.pointer (some ⟨h.next+1,0,none⟩))∧e 2=some (.int .i64 (Int.ofNat j))∧look h.next tbl=some (.cells [.int .i64 (Int.ofNat L),.slice (some ⟨W',0,none⟩) 1 1])∧look (h.next+1) tbl=some (.cells [.int .i64 (.ofNat 0),.slice none 0 0])∧Keep h.tbl h.next tbl nx ∧
  (j=k∧e 1=some (.int .i64 (Int.ofNat a))∧look W' tbl=some (.grown 1 28 [.int .u64 (Int.ofNat s)])∨j=0∧look W' tbl=some (.grown 1 28 [.int .u64 (Int.ofNat (s ||| maskN a k))]))) (k:=k) (by omega) ⟨rfl,rfl,rfl,rfl,hb4,hr4,kC,.inl ⟨rfl,rfl,hw4⟩⟩ ?_
 rintro j e tbl nx ⟨e3,e4,e8,e2,hb,hr,hkp,hor⟩
 refine WC.seq (WC.seq (WC.ops (WO.mv e2 (WO.gtrS rfl rfl (fun hj=>?_) (fun hj=>?_)))))
 ·simp only[zO] at hj
  rcases hor with⟨rfl,e1,hw⟩|⟨rfl,_⟩
  ·refine WO.nil (WC.cond_true rfl (WC.skip (zN (WC.block (WC.seq (WC.ops ?_))))))
   have hmr:=mask_run (hk:=hk) (n:=n) (h:=⟨tbl,nx⟩) (H.none 107 (by decide)) (a:=a) (k:=j) (by omega) (by omega)
   rw[hstep] at hmr
   refine WO.mv e1 (WO.mv e2 (WO.fcall rfl rfl hmr ?_))
   refine WO.mv rfl (WO.pure rfl (WO.pure rfl (WO.mv rfl (WO.mv rfl (WO.nil (zN (WC.seq (WC.drawnW ?_))))))))
   have hq:a / (63+1)=0:=by omega
   have hld:∀nx,(⟨[],tbl,nx⟩:Mem Empty).load ⟨h.next,0+1,none⟩ 1=some [.slice (some ⟨W',0,none⟩) 1 1]:=fun nx=>mem_load hb rfl rfl
   have hlw:∀nx,(⟨[],tbl,nx⟩:Mem Empty).load ⟨W',0+a / (63+1)*1,none⟩ 1=some [.int .u64 (Int.ofNat s)]:=fun nx=>by
    rw[hq];exact mem_load hw rfl rfl
   refine WD.pure (pv_fadd (ev_out e4 rfl rfl)) (WD.load rfl (hld _) rfl (WD.pure (pv_mv (ev_out e1 rfl rfl)) (WD.pure (pv_quo rfl rfl (by omega)) (WD.pure (pv_mv (ev_out e3 rfl rfl)) ?_))))
   refine WD.pure (pv_fadd (ev_out e4 rfl rfl)) (WD.load rfl (hld _) rfl (WD.pure (pv_mv (ev_out e1 rfl rfl)) (WD.pure (pv_quo rfl rfl (by omega)) (WD.pure (pv_idxL rfl rfl (by omega)) ?_))))
   refine WD.load rfl (hlw _) rfl (WD.pure (pv_mv (ev_out (v:=.int .u64 (Int.ofNat (maskN a j))) rfl rfl rfl)) ?_)
   refine WD.chn (v:=.int .u64 (Int.ofNat (s ||| maskN a j))) (m':=⟨[],tbl,nx+15⟩) rfl rfl rfl ?_ ?_
   ·have ho:=or_run (hk:=hk) (n:=n) (h:=⟨tbl,nx+15⟩) (H.none 66 (by decide)) hs hml
    exact Eq.trans (estep_call (vs:=[.int .u64 (Int.ofNat s),.int .u64 (Int.ofNat (maskN a j))]) (kf:=66) (fst:=#[]) (caps:=#[]) (v:=.int .u64 (Int.ofNat (s ||| maskN a j))) (h:=⟨tbl,nx+15⟩) rfl rfl ho) rfl
   refine WD.pure (pv_idxL rfl rfl (by omega)) ?_
   refine WD.chn (v:=undef) (m':=⟨[],upd W' (.grown 1 28 [.int .u64 (Int.ofNat (s ||| maskN a j))]) tbl,nx+15⟩) rfl rfl rfl ?_ (WD.nil ⟨?_,_,_,rfl,?_⟩)
   ·have h3:(⟨[],tbl,nx+15⟩:Mem Empty).store ⟨W',0+a / (63+1)*1,none⟩ [.int .u64 (Int.ofNat (s ||| maskN a j))]=some ⟨[],upd W' (.grown 1 28 [.int .u64 (Int.ofNat (s ||| maskN a j))]) tbl,nx+15⟩:=by
     rw[hq]
     exact mem_store hw rfl (by simp) rfl
    exact estep_store rfl rfl rfl rfl h3
   ·have h1:ceqs [Value.slice (some ⟨W',0,none⟩) 1 1] [Value.slice (some ⟨W',0,none⟩) 1 1]=true:=by simp[ceqs,ceq]
    have h2:ceqs [Value.int .u64 (Int.ofNat s)] [Value.int .u64 (Int.ofNat s)]=true:=by simp[ceqs,ceq,ieqF_eq]
    simp only[heldAll,loadsIn,hld,hlw,h1,h2]
    rfl
   refine zN (WC.ops ?_)
   refine WO.mv e1 (WO.mv rfl (WO.add rfl rfl (by simp only[zO];omega) (by simp only[zO];omega) (WO.mv e2 (WO.mv rfl ?_))))
   refine WO.sub rfl rfl (by simp only[zO];omega) (by simp only[zO];omega) (WO.as (b:=Int.ofNat 0) (by simp only[zO];omega) (WO.mv rfl (WO.mv rfl (WO.nil (zB ?_)))))
   have kD:=(hkp.upd (i:=W') (o:=.grown 1 28 [.int .u64 (Int.ofNat (s ||| maskN a j))]) (by omega)).more (n'':=nx+15) (by omega)
   exact⟨0,by omega,rfl,e3,e4,e8,rfl,(zU (by omega)).trans hb,(zU (by omega)).trans hr,kD,.inr ⟨rfl,zS hw⟩⟩
  ·omega
 ·simp only[zO] at hj
  rcases hor with⟨rfl,_,_⟩|⟨rfl,hw⟩
  ·omega
  ·refine WO.nil (WC.cond_false rfl (WC.exit (thenC_exit (blockC_exit (zN (WC.seq (WC.ops ?_)))))))
   refine WO.load e4 hb rfl rfl rfl (WO.store (ob':=.cells [.int .i64 (Int.ofNat L),.slice (some ⟨W',0,none⟩) 1 1]) e8 rfl rfl rfl hr rfl (by simp) rfl (WO.mv rfl (WO.nil (zN (WC.ret ?_)))))
   refine⟨[setVal L W' none 1 1,errV 0],_,?_,rfl,W',by omega,rfl,(zU (by omega)).trans hw,hkp.upd (by omega)⟩
   exact resV_cell e8 (mem_load (zS hr) rfl rfl) rfl (resV_tmp rfl rfl)
end Go.AI
/- What the arena's functions do upon its parts: Commit, of an arena of one word. -/
namespace Go.AI
open Go.Proofs
variable {hk:Hook Empty}
theorem setAll_snoc(q:Option Nat):∀(k:Nat) (l:List (Option Nat)) (p:Nat),setAll l q p (k+1)=setPg (setAll l q p k) (p+k) q
 |0,l,p=>rfl
 |k+1,l,p=>by
  show setAll (setPg l p q) q (p+1) (k+1)=setPg (setAll (setPg l p q) q (p+1) k) (p+(k+1)) q
  rw[setAll_snoc q k,show p+1+k=p+(k+1) by omega]
theorem setAll_len(q:Option Nat):∀(k:Nat) (l:List (Option Nat)) (p:Nat),(setAll l q p k).length=l.length
 |0,_,_=>rfl
 |k+1,l,p=>by
  show(setAll (setPg l p q) q (p+1) k).length=_
  rw[setAll_len q k,setPg_len]
theorem setAll_get(q:Option Nat):∀(k:Nat) (l:List (Option Nat)) (p i:Nat),(setAll l q p k)[i]? = if p≤i∧i<p+k∧i<l.length then some q else l[i]?
 |0,l,p,i=>by rw[if_neg (by omega)];rfl
 |k+1,l,p,i=>by
  rw[setAll_snoc,setPg_get,setAll_get q k,setAll_len]
  by_cases h1:i=p+k∧i<l.length
  ·rw[if_pos h1,if_pos (by omega)]
  ·rw[if_neg h1]
   by_cases h2:p≤i∧i<p+k∧i<l.length
   ·rw[if_pos h2,if_pos (by omega)]
   ·rw[if_neg h2,if_neg (by omega)]
theorem pgAt_opt(l:List (Option Nat))(i:Nat):pgAt l i=(l[i]?).join:=by
 cases h:pgAt l i with
 |some P=>rw[(pgAt_get l i P).1 h];rfl
 |none =>
  cases h2:l[i]? with
  |none=>rfl
  |some o =>
   cases o with
   |none=>rfl
   |some P=>rw[(pgAt_get l i P).2 h2] at h;cases h
theorem countN_setPg:∀(l:List (Option Nat)) (i Q:Nat),l[i]? = some none→countN (setPg l i (some Q))=countN l+1
 |[],i,Q,h=>by simp at h
 |x::r,0,Q,h=>by
  simp only[List.getElem?_cons_zero,zI] at h
  subst h;rfl
 |none::r,i+1,Q,h=>by simp only[setPg,countN];exact countN_setPg r i Q (by simpa using h)
 |some P::r,i+1,Q,h=>by
  simp only[setPg,countN]
  have:=countN_setPg r i Q (by simpa using h)
  rw[this]
theorem countN_setAll:∀(k:Nat) (l:List (Option Nat)) (p:Nat),p+k≤l.length→(∀i,p≤i→i<p+k→pgAt l i=none)→countN (setAll l (some 0) p k)=countN l+k
 |0,l,p,_,_=>rfl
 |k+1,l,p,hl,hn=>by
  have h1:(setAll l (some 0) p k)[p+k]? = some none:=by
   rw[setAll_get,if_neg (by omega)]
   have h2:=hn (p+k) (by omega) (by omega)
   rw[pgAt_opt,List.getElem?_eq_getElem (by omega)] at h2
   rw[List.getElem?_eq_getElem (by omega)]
   congr 1
  rw[setAll_snoc,countN_setPg _ _ _ h1,countN_setAll k l p (by omega) fun i h3 h4=>hn i h3 (by omega)]
  omega
theorem cnt_none(l:List (Option Nat)):∀(k a:Nat),cntC l a k=0→∀i,a≤i→i<a+k→pgAt l i=none
 |0,a,_,i,_,_=>by omega
 |k+1,a,h,i,h1,h2=>by
  simp only[cntC] at h
  cases hp:pgAt l a with
  |some P=>rw[hp] at h;cases h
  |none =>
   rw[hp] at h
   by_cases e:i=a
   ·rw[e];exact hp
   ·exact cnt_none l k (a+1) h i (by omega) (by omega)
theorem setN_lt:∀(l:List (Option Nat)),setN l<2 ^ l.length
 |[]=>by decide
 |none::r=>by
  have:=setN_lt r
  show 2*setN r<2 ^ (r.length+1)
  rw[Nat.pow_succ];omega
 |some _::r=>by
  have:=setN_lt r
  show 2*setN r+1<2 ^ (r.length+1)
  rw[Nat.pow_succ];omega
theorem mask_bit{a k i:Nat}(ha:a<64):(maskN a k).testBit i=decide (a≤i∧i<a+k):=by
 unfold maskN
 rw[Nat.mod_eq_of_lt ha,Nat.mul_comm,Nat.testBit_two_pow_mul,Nat.testBit_two_pow_sub_one]
 by_cases h:a≤i
 ·simp only[h,decide_true,Bool.true_and,true_and]
  congr 1
  simp only[eq_iff_iff];omega
 ·simp only[h,decide_false,Bool.false_and,false_and]
theorem setN_setAll{l:List (Option Nat)}{a k:Nat}(h:a+k≤l.length)(ha:a<64):setN (setAll l (some 0) a k)=setN l ||| maskN a k:=by
 apply Nat.eq_of_testBit_eq
 intro i
 rw[setN_bit,Nat.testBit_or,setN_bit,mask_bit ha,pgAt_opt,pgAt_opt,setAll_get]
 by_cases h1:a≤i∧i<a+k
 ·rw[if_pos (by omega),decide_eq_true h1];simp
 ·rw[if_neg (by omega),decide_eq_false h1];simp
theorem page_zero:pageCells 0=List.replicate 4096 (.int .u8 (.ofNat 0)):=by
 apply List.ext_getElem?
 intro i
 rw[page_get,List.getElem?_replicate]
 split
 ·unfold byteV byteN
  show some (Value.int .u8 (Int.ofNat ((0 >>> (8*i)) &&& 255)))=_
  rw[Nat.zero_shiftRight,Nat.zero_and]
 ·rfl
def rowP(x:Ar)(a k:Int):Nat×Nat:=if k<1 then(0,2) else if 0≤a∧a+k≤(x.pages.length:Int) then(cntC x.pages a.toNat k.toNat,0) else(0,3)
theorem row_run{n:Nat}{x:Ar}{I:ArIds}{a k:Int}{h:Hp Empty}(H:HkA hk)(hn:1048576≤n)(hA:ArH h x I) :
  ∃v h',RA (hk:=hk) (n+3) 43 [.pointer (some ⟨I.A,0,none⟩),.int .i64 a,.int .i64 k] h=some (v,h')∧(v = .tuple ⟨[.int .i64 (Int.ofNat (rowP x a k).1),errV (rowP x a k).2]⟩∧Keep h.tbl h.next h'.tbl h'.next):=by
 have htop:look I.A h.tbl=some (.cells (topCells x I)):=hA.at_.top
 have hcap:=hA.at_.cap
 refine run_fn (H.none 43 (by decide)) f43 (by simp[i43]) ?_
 dsimp only[i43,argsE]
 refine WC.seq (WC.ops (WO.mv rfl (WO.mv rfl (WO.nil (zN (WC.seq (WC.block (WC.seq (WC.ops ?_)))))))))
 refine WO.mv rfl (WO.pure rfl (WO.mv rfl (WO.nil (zN (WC.cond_false rfl (WC.seq (WC.ops ?_)))))))
 refine WO.mv rfl (WO.lssS rfl rfl (fun hl=>?_) (fun hl=>?_))
 ·have hr:rowP x a k=(0,2):=if_pos hl
  rw[hr]
  refine WO.mv rfl (WO.nil (zN (WC.cond_true rfl (WC.seq (WC.ops (WO.mv rfl (WO.mv rfl (WO.nil (zN (WC.ret ?_))))))))))
  exact⟨_,_,rfl,rfl,rfl,Keep.refl hA.fresh⟩
 ·have hl:¬k<1:=hl
  refine WO.mv rfl (WO.nil (zN (WC.cond_false rfl (WC.skip (zB (zN (WC.seq (WC.ops ?_))))))))
  refine WO.mv rfl (WO.nilck rfl (WO.fadd rfl (WO.load rfl htop rfl rfl rfl (WO.mv rfl (WO.mv rfl ?_)))))
  refine WO.fcall_ex rfl rfl (count_run (n:=n) (a:=a) (k:=k) (h:=h) (s:=setN x.pages) H hn hcap (nWords_le _) hA.fresh hA.ltW hA.words) ?_
  rintro v2 h2 ⟨hv1,hv2,k2⟩
  have hv:v2 = .tuple ⟨[.int .i64 (Int.ofNat (rowP x a k).1),errV (rowP x a k).2]⟩:=by
   unfold rowP
   rw[if_neg hl]
   by_cases hr:0≤a∧a+k≤(x.pages.length:Int)
   ·rw[if_pos hr,hv1 (by omega),pc_cnt];rfl
   ·rw[if_neg hr,hv2 (by omega)];rfl
  subst hv
  refine WO.pure rfl (WO.pure rfl (WO.mv rfl (WO.mv rfl (WO.nil (zN (WC.ret ?_))))))
  exact⟨_,_,rfl,rfl,rfl,k2⟩
theorem with_run{n L W cp s a k:Nat}{sp:Option Nat}{h:Hp Empty}(H:HkA hk)(hn:1048576≤n)(hL:L≤64)(hk0:0<k)(hak:a+k≤L)(hs:s<18446744073709551616)(hf:Fresh h.tbl h.next)(hW:∃ob,look W h.tbl=some ob∧cellsO ob=some [.int .u64 (Int.ofNat s)]) :
  ∃v h',RA (hk:=hk) (n+3) 44 [setVal L W sp 1 cp,.int .i64 (Int.ofNat a),.int .i64 (Int.ofNat k)] h=some (v,h') ∧
   ∃W',h.next≤W'∧v = .tuple ⟨[setVal L W' none 1 1,errV 0]⟩∧look W' h'.tbl=some (.grown 1 28 [.int .u64 (Int.ofNat (s ||| maskN a k))])∧Keep h.tbl h.next h'.tbl h'.next:=by
 refine run_fn (H.none 44 (by decide)) f44 (by simp[i44]) ?_
 dsimp only[i44,argsE]
 have k1:=Keep.new hf (.cells [.int .i64 (Int.ofNat L),.slice (some ⟨W,0,sp⟩) 1 cp])
 have k2:=Keep.new k1.fr (.cells [.int .i64 (.ofNat 0),.slice none 0 0])
 have kk:=k1.trans k2
 have hb0:look h.next ((h.next+1,.cells [.int .i64 (.ofNat 0),.slice none 0 0])::(h.next,.cells [.int .i64 (Int.ofNat L),.slice (some ⟨W,0,sp⟩) 1 cp])::h.tbl)=some (.cells [.int .i64 (Int.ofNat L),.slice (some ⟨W,0,sp⟩) 1 cp]):=(look_old (by omega)).trans look_new
 obtain⟨ob,hW1,hW2⟩:=hW
 have hWlt:W<h.next:=by
  rcases Nat.lt_or_ge W h.next with q|q
  ·exact q
  ·have:=hf W q;rw[hW1] at this;cases this
 refine WC.seq (WC.ops (WO.box rfl rfl (WO.new (WO.mv rfl (WO.nil (zN (WC.seq (WC.ops ?_))))))))
 refine WO.load rfl hb0 rfl rfl rfl (WO.mv rfl (WO.mv rfl (WO.fcall_ex rfl rfl (turn_run (n:=n) (L:=L) (a:=a) (k:=k) (h:=⟨_,h.next+1+1⟩) H hn hL hk0 hak hs kk.fr ⟨ob,(kk.same W hWlt).trans hW1,hW2⟩) ?_)))
 rintro v2 ⟨tb2,nx2⟩ ⟨W',hW3,rfl,hW5,k3⟩
 have hW3:h.next+1+1≤W':=hW3
 have hr2:look (h.next+1) tb2=some (.cells [.int .i64 (.ofNat 0),.slice none 0 0]):=(k3.same (h.next+1) (by show h.next+1<h.next+1+1;omega)).trans look_new
 have kA:=kk.trans k3
 refine WO.pure rfl (WO.pure rfl (WO.store (ob':=.cells [.int .i64 (Int.ofNat L),.slice (some ⟨W',0,none⟩) 1 1]) rfl rfl rfl rfl hr2 rfl (by simp) rfl (WO.mv rfl (WO.nil (zN (WC.ret ?_))))))
 have hres:look (h.next+1) (upd (h.next+1) (.cells [.int .i64 (Int.ofNat L),.slice (some ⟨W',0,none⟩) 1 1]) tb2)=some (.cells [.int .i64 (Int.ofNat L),.slice (some ⟨W',0,none⟩) 1 1]):=zS hr2
 have hW6:look W' (upd (h.next+1) (.cells [.int .i64 (Int.ofNat L),.slice (some ⟨W',0,none⟩) 1 1]) tb2)=some (.grown 1 28 [.int .u64 (Int.ofNat (s ||| maskN a k))]):=(zU (by omega)).trans hW5
 refine⟨[setVal L W' none 1 1,errV 0],_,?_,rfl,W',by omega,rfl,hW6,kA.upd (by omega)⟩
 exact resV_cell rfl (mem_load hres rfl rfl) rfl (resV_tmp rfl rfl)
end Go.AI
/- What the arena's functions do upon its parts: Commit, whole, of an arena of one word. -/
namespace Go.AI
open Go.Proofs
variable {hk:Hook Empty}
def pidN(p:Nat→Nat)(a N i:Nat):Nat→Nat:=fun q=>if a≤q∧q<a+i then N+(q-a) else p q
theorem row_step{p:Nat→Nat}{l:List (Option Nat)}{a N i:Nat}(h:a+i<l.length) :
  splice (rowCells (pidN p a N i) 0 (setAll l (some 0) a i)) (a+i) [.pointer (some ⟨N+i,0,none⟩)]=rowCells (pidN p a N (i+1)) 0 (setAll l (some 0) a (i+1)):=by
 have hlen:∀(p:Nat→Nat) (l:List (Option Nat)) (b:Nat),(rowCells p b l).length=l.length:=by
  intro p l
  induction l with
  |nil=>intro b;rfl
  |cons x r ih=>intro b;cases x<;>simp only[rowCells,List.length_cons,ih]
 apply List.ext_getElem?
 intro j
 rw[splice_get (by rw[hlen,setAll_len];show a+i+1≤l.length;omega),rowCells_get,rowCells_get,setAll_get,setAll_get]
 show(if a+i≤j∧j<a+i+1 then[Value.pointer (some ⟨N+i,0,none⟩)][j-(a+i)]? else _)=_
 by_cases h1:j=a+i
 ·subst h1
  rw[if_pos (by omega),if_pos (by omega),Nat.sub_self]
  show some _=some (Value.pointer (some ⟨pidN p a N (i+1) (0+(a+i)),0,none⟩))
  unfold pidN
  rw[if_pos (by omega),show N+(0+(a+i)-a)=N+i by omega]
 ·rw[if_neg (by omega)]
  by_cases h2:a≤j∧j<a+i∧j<l.length
  ·rw[if_pos h2,if_pos (by omega)]
   show some (Value.pointer (some ⟨pidN p a N i (0+j),0,none⟩))=some (Value.pointer (some ⟨pidN p a N (i+1) (0+j),0,none⟩))
   unfold pidN
   rw[if_pos (by omega),if_pos (by omega)]
  ·rw[if_neg h2,if_neg (by omega)]
   cases l[j]? with
   |none=>rfl
   |some o =>
    cases o with
    |none=>rfl
    |some P =>
     show some (Value.pointer (some ⟨pidN p a N i (0+j),0,none⟩))=some (Value.pointer (some ⟨pidN p a N (i+1) (0+j),0,none⟩))
     unfold pidN
     rw[if_neg (by omega),if_neg (by omega)]
def commitS1(x:Ar)(args:List Value):Option (Value×Ar):=bif Nat.ble x.pages.length 64 then commitS x args else none
def rest84:ICode:=match i19.code with
 | .seq _ (.seq _ r)=>r
 |_=>.skip
structure ComInv(I:ArIds)(x:Ar)(top:List Value)(a N:Nat)(tb0:List (Nat×AObj Empty))(i:Nat)(tbl:List (Nat×AObj Empty))(nx:Nat):Prop where
 nxt:nx=N+i
 row:look I.Pg tbl=some (.cells (rowCells (pidN I.pid a N i) 0 (setAll x.pages (some 0) a i)))
 new:∀q,q<i→look (N+q) tbl=some (.cells (pageCells 0))
 old:∀j,j<N→j≠I.Pg→look j tbl=look j tb0
 fresh:Fresh tbl nx
set_option maxHeartbeats 4000000 in
theorem commit_yes{n:Nat}{x:Ar}{I:ArIds}{a k:Nat}{h:Hp Empty}(H:HkA hk)(hn:1048576≤n)(hA:ArH h x I)(hL:x.pages.length≤64)(hk0:0<k)(hak:a+k≤x.pages.length)(hc:cntC x.pages a k=0)(har:¬(x.armed=true∧x.refuse=0)) :
  ∃v h',RA (hk:=hk) (n+4) 19 [.pointer (some ⟨I.A,0,none⟩),.int .i64 (Int.ofNat a),.int .i64 (Int.ofNat k)] h=some (v,h')∧(v=errV 0∧∃I',ArH h' ⟨setAll x.pages (some 0) a k,x.armed,Nat.pred x.refuse⟩ I'∧I'.A=I.A):=by
 have hnw:nWords x.pages=1:=by show(x.pages.length+63) / 64=1;omega
 have hsl:setN x.pages<18446744073709551616:=Nat.lt_of_lt_of_le (setN_lt _) (Nat.pow_le_pow_right (by decide) hL)
 refine run_fn (H.none 19 (by decide)) f19 (by show 3≤84;decide) ?_
 dsimp only[i19,argsE]
 refine WC.seq (WC.ops (WO.mv rfl (WO.nil (zN (WC.seq (WC.seq (WC.ops ?_)))))))
 refine WO.mv rfl (WO.mv rfl (WO.mv rfl (WO.fcall_ex rfl rfl (row_run (n:=n) (a:=Int.ofNat a) (k:=Int.ofNat k) (h:=h) H hn hA) ?_)))
 rintro v2 ⟨tb2,nx2⟩ ⟨hv,k2⟩
 have hrow:rowP x (Int.ofNat a) (Int.ofNat k)=(0,0):=by
  unfold rowP
  rw[if_neg (by simp only[zO];omega),if_pos (by simp only[zO];omega)]
  show(cntC x.pages a k,0)=(0,0)
  rw[hc]
 rw[hrow] at hv
 subst hv
 have hA2:ArH ⟨tb2,nx2⟩ x I:=hA.keep k2
 have htop:look I.A tb2=some (.cells (topCells x I)):=hA2.at_.top
 refine WO.mv rfl (WO.pure rfl (WO.pure rfl (WO.mv rfl (WO.mv rfl (WO.nil (zN (WC.block (WC.seq (WC.ops ?_)))))))))
 refine WO.mv rfl (WO.neqS rfl rfl (fun hne=>(hne rfl).elim) (fun _=>?_))
 refine WO.mv rfl (WO.nil (zN (WC.cond_false rfl (WC.seq (WC.ops (WO.mv rfl (WO.gtrS rfl rfl (fun hlt=>by cases hlt) (fun _=>?_))))))))
 refine WO.mv rfl (WO.nil (zN (WC.cond_false rfl (WC.seq (WC.ops (WO.mv rfl (WO.nilck rfl (WO.fadd rfl (WO.load rfl htop rfl rfl rfl (WO.mv rfl ?_))))))))))
 -- what comes behind the block
 suffices hrest:∀e,look 0 e=some (.pointer (some ⟨I.A,0,none⟩))→look 1 e=some (.int .i64 (Int.ofNat a))→look 2 e=some (.int .i64 (Int.ofNat k))→WC (run FA (fun _=>false) hk (n+3)) (n+3) rest84 e ⟨[],tb2,nx2⟩ (endC [.tmp 6] false h.next fun v h'=>v=errV 0∧∃I',ArH h' ⟨setAll x.pages (some 0) a k,x.armed,Nat.pred x.refuse⟩ I'∧I'.A=I.A) by
  cases harm:x.armed with
  |false =>
   simp only[] at htop ⊢
   refine WO.skip rfl rfl (WO.skip rfl rfl (WO.skip rfl rfl (WO.skip rfl rfl (WO.skip rfl rfl (WO.pure rfl (WO.mv rfl (WO.nil (zN (WC.cond_false rfl (WC.skip (zB (zN ?_))))))))))))
   have hr:=hrest
   simp only[harm] at hr
   exact hr _ rfl rfl rfl
  |true =>
   have hr0:x.refuse≠0:=fun h0=>har ⟨harm,h0⟩
   simp only[] at htop ⊢
   refine WO.take rfl rfl (WO.mv rfl (WO.take rfl rfl (WO.nilck rfl (WO.take rfl rfl (WO.fadd rfl (WO.take rfl rfl (WO.load rfl htop rfl rfl rfl (WO.take rfl rfl (WO.eqlS rfl rfl (fun he=>(hr0 (Int.ofNat.inj he)).elim) (fun _=>?_))))))))))
   refine WO.pure rfl (WO.mv rfl (WO.nil (zN (WC.cond_false rfl (WC.skip (zB (zN ?_)))))))
   have hr:=hrest
   simp only[harm] at hr
   exact hr _ rfl rfl rfl
 intro e e0 e1 e2
 have href:=hA.at_.ref
 dsimp only[rest84,i19]
 refine WC.seq (WC.ops (WO.mv e0 (WO.mv (by first|exact e0|rfl) (WO.nilck rfl (WO.fadd rfl (WO.load rfl htop rfl rfl rfl ?_))))))
 refine WO.sub rfl rfl (by simp only[zO];omega) (by simp only[zO];omega) (WO.max2 rfl rfl (WO.as (b:=Int.ofNat (Nat.pred x.refuse)) (by simp only[zO,Nat.pred_eq_sub_one];omega) ?_))
 refine WO.nilck rfl (WO.fadd rfl (WO.store (ob':=.cells (topCells ⟨x.pages,x.armed,Nat.pred x.refuse⟩ I)) rfl rfl rfl rfl htop rfl (by simp) rfl (WO.nil (zN (WC.seq (WC.seq (WC.ops ?_)))))))
 have hdA:=hA2.at_.dA
 have ltA:=hA2.ltA
 have ltPg:=hA2.ltPg
 have ltW:=hA2.ltW
 have ltA:I.A<nx2:=ltA
 have ltPg:I.Pg<nx2:=ltPg
 have ltW:I.W<nx2:=ltW
 have hfr0:Fresh (upd I.A (.cells (topCells ⟨x.pages,x.armed,Nat.pred x.refuse⟩ I)) tb2) nx2:=hA2.fresh.upd
 have hA0:look I.A (upd I.A (.cells (topCells ⟨x.pages,x.armed,Nat.pred x.refuse⟩ I)) tb2)=some (.cells [.slice (some ⟨I.Pg,0,none⟩) x.pages.length x.pages.length,.int .i64 (Int.ofNat x.pages.length),.slice (some ⟨I.W,0,I.sp⟩) 1 I.cp,.int .i64 (Int.ofNat (countN x.pages)),.bool x.armed,.int .i64 (Int.ofNat (Nat.pred x.refuse))]):=by
  rw[zS htop,← hnw]
 have hoth:∀j,j≠I.A→look j (upd I.A (.cells (topCells ⟨x.pages,x.armed,Nat.pred x.refuse⟩ I)) tb2)=look j tb2:=fun j hj=>zU hj
 generalize upd I.A (.cells (topCells ⟨x.pages,x.armed,Nat.pred x.refuse⟩ I)) tb2=tb0 at hfr0 hA0 hoth
 have hp0:pidN I.pid a nx2 0=I.pid:=by
  funext q;unfold pidN;rw[if_neg (by omega)]
 have hI0:ComInv I x [] a nx2 tb0 0 tb0 nx2:=⟨rfl,by rw[hp0];exact(hoth _ (Ne.symm hdA.1)).trans hA2.at_.row,fun q hq=>by omega,fun _ _ _=>rfl,hfr0⟩
 refine WO.mv e1 (WO.mv rfl (WO.nil (zN (WC.block ?_))))
 refine WC.loop (fun j e tbl nx=>∃i,i+j=k∧e 0=some (.pointer (some ⟨I.A,0,none⟩))∧e 1=some (.int .i64 (Int.ofNat a))∧e 2=some (.int .i64 (Int.ofNat k))∧e 9=some (.int .i64 (Int.ofNat (a+i)))∧ComInv I x [] a nx2 tb0 i tbl nx) (k:=k) (by omega) ⟨0,by omega,e0,e1,e2,rfl,hI0⟩ ?_
 rintro j e tbl nx ⟨i,hij,e0,e1,e2,e9,hI⟩
 have hAt:look I.A tbl=some (.cells [.slice (some ⟨I.Pg,0,none⟩) x.pages.length x.pages.length,.int .i64 (Int.ofNat x.pages.length),.slice (some ⟨I.W,0,I.sp⟩) 1 I.cp,.int .i64 (Int.ofNat (countN x.pages)),.bool x.armed,.int .i64 (Int.ofNat (Nat.pred x.refuse))]):=(hI.old _ ltA hdA.1).trans hA0
 have hnx:nx=nx2+i:=hI.nxt
 refine WC.seq (WC.seq (WC.ops (WO.mv e9 (WO.mv e1 (WO.mv e2 (WO.add rfl rfl (by simp only[zO];omega) (by simp only[zO];omega) (WO.lssS rfl rfl (fun hlt=>?_) (fun hlt=>?_))))))))
 ·simp only[zO] at hlt
  have hi:i<k:=by omega
  refine WO.nil (WC.cond_true rfl (WC.skip (zN (WC.seq (WC.block (WC.ops ?_))))))
  refine WO.mv e0 (WO.nilck rfl (WO.fadd rfl (WO.load rfl hAt rfl rfl rfl (WO.mv e9 (WO.new (WO.idxL (n:=a+i) rfl rfl rfl (by omega) ?_))))))
  have hrow2:look I.Pg ((nx,.cells (List.replicate 4096 (.int .u8 (.ofNat 0))))::tbl)=some (.cells (rowCells (pidN I.pid a nx2 i) 0 (setAll x.pages (some 0) a i))):=(look_old (by omega)).trans hI.row
  have hrl:∀(p:Nat→Nat) (l:List (Option Nat)) (b:Nat),(rowCells p b l).length=l.length:=by
   intro p l
   induction l with
   |nil=>intro b;rfl
   |cons x r ih=>intro b;cases x<;>simp only[rowCells,List.length_cons,ih]
  refine WO.store (ob':=.cells (rowCells (pidN I.pid a nx2 (i+1)) 0 (setAll x.pages (some 0) a (i+1)))) rfl rfl rfl rfl hrow2 rfl (by rw[hrl,setAll_len];show 0+(a+i)*1+1≤_;omega) (by
   show some (AObj.cells (splice _ (0+(a+i)*1) [Value.pointer (some ⟨nx,0,none⟩)]))=_
   rw[show 0+(a+i)*1=a+i by omega,hnx,row_step (by omega)]) ?_
  refine WO.nil (zB (zN (WC.ops ?_)))
  refine WO.mv e9 (WO.add rfl rfl (by simp only[zO];omega) (by simp only[zO];omega) (WO.as (b:=Int.ofNat (a+(i+1))) (by simp only[zO];omega) (WO.mv rfl (WO.nil ?_))))
  refine⟨j-1,by omega,rfl,i+1,by omega,e0,e1,e2,rfl,by show nx+1=_;omega,zS hrow2,?_,?_,(hI.fresh.new _).upd⟩
  ·intro q hq
   by_cases hqi:q=i
   ·subst hqi
    rw[page_zero]
    refine(zU (by omega)).trans ?_
    rw[← hnx];exact look_new
   ·exact(zU (by omega)).trans ((look_old (by omega)).trans (hI.new q (by omega)))
  ·intro j hj hjp
   exact(zU hjp).trans ((look_old (by omega)).trans (hI.old j hj hjp))
 ·simp only[zO] at hlt
  have hi:i=k:=by omega
  subst hi
  have hc1:wordCells x.pages=[.int .u64 (Int.ofNat (setN x.pages))]:=by
   unfold wordCells
   rw[hnw]
   show[wordV (setN x.pages) 0]=_
   unfold wordV
   show[Value.int .u64 (Int.ofNat ((setN x.pages >>> 0) % 18446744073709551616))]=_
   rw[Nat.shiftRight_zero,Nat.mod_eq_of_lt hsl]
  obtain⟨ob,ho1,ho2⟩:=hA2.at_.wds
  have ho1:look I.W tb2=some ob:=ho1
  rw[hc1] at ho2
  have hWt:look I.W tbl=some ob:=(hI.old _ ltW (Ne.symm hdA.2.2)).trans ((hoth _ (Ne.symm hdA.2.1)).trans ho1)
  refine WO.nil (WC.cond_false rfl (WC.exit (thenC_exit (blockC_exit (zN (WC.seq (WC.ops ?_)))))))
  refine WO.mv e0 (WO.mv e0 (WO.nilck rfl (WO.fadd rfl (WO.load rfl hAt rfl rfl rfl (WO.mv e1 (WO.mv e2 ?_))))))
  refine WO.fcall_ex rfl rfl (with_run (n:=n) (L:=x.pages.length) (a:=a) (k:=i) (h:=⟨tbl,nx⟩) H hn hL hk0 hak hsl hI.fresh ⟨ob,hWt,ho2⟩) ?_
  rintro v4 ⟨tb4,nx4⟩ ⟨W',hW3,rfl,hW5,k4⟩
  have hW3:nx≤W':=hW3
  have hW5:look W' tb4=some (.grown 1 28 [.int .u64 (Int.ofNat (setN x.pages ||| maskN a i))]):=hW5
  have k4:Keep tbl nx tb4 nx4:=k4
  have hA4:look I.A tb4=some (.cells [.slice (some ⟨I.Pg,0,none⟩) x.pages.length x.pages.length,.int .i64 (Int.ofNat x.pages.length),.slice (some ⟨I.W,0,I.sp⟩) 1 I.cp,.int .i64 (Int.ofNat (countN x.pages)),.bool x.armed,.int .i64 (Int.ofNat (Nat.pred x.refuse))]):=(k4.same _ (by omega)).trans hAt
  refine WO.mv rfl (WO.pure rfl (WO.pure rfl (WO.nilck rfl (WO.fadd rfl ?_))))
  refine WO.store (ob':=.cells [.slice (some ⟨I.Pg,0,none⟩) x.pages.length x.pages.length,.int .i64 (Int.ofNat x.pages.length),.slice (some ⟨W',0,none⟩) 1 1,.int .i64 (Int.ofNat (countN x.pages)),.bool x.armed,.int .i64 (Int.ofNat (Nat.pred x.refuse))]) rfl rfl rfl rfl hA4 rfl (by simp) rfl (WO.nil (zN (WC.seq (WC.ops ?_))))
  have hA5:look I.A (upd I.A (.cells [.slice (some ⟨I.Pg,0,none⟩) x.pages.length x.pages.length,.int .i64 (Int.ofNat x.pages.length),.slice (some ⟨W',0,none⟩) 1 1,.int .i64 (Int.ofNat (countN x.pages)),.bool x.armed,.int .i64 (Int.ofNat (Nat.pred x.refuse))]) tb4)=some (.cells [.slice (some ⟨I.Pg,0,none⟩) x.pages.length x.pages.length,.int .i64 (Int.ofNat x.pages.length),.slice (some ⟨W',0,none⟩) 1 1,.int .i64 (Int.ofNat (countN x.pages)),.bool x.armed,.int .i64 (Int.ofNat (Nat.pred x.refuse))]):=zS hA4
  have hoth5:∀j,j≠I.A→look j (upd I.A (.cells [.slice (some ⟨I.Pg,0,none⟩) x.pages.length x.pages.length,.int .i64 (Int.ofNat x.pages.length),.slice (some ⟨W',0,none⟩) 1 1,.int .i64 (Int.ofNat (countN x.pages)),.bool x.armed,.int .i64 (Int.ofNat (Nat.pred x.refuse))]) tb4)=look j tb4:=fun j hj=>zU hj
  have hfr5:Fresh (upd I.A (.cells [.slice (some ⟨I.Pg,0,none⟩) x.pages.length x.pages.length,.int .i64 (Int.ofNat x.pages.length),.slice (some ⟨W',0,none⟩) 1 1,.int .i64 (Int.ofNat (countN x.pages)),.bool x.armed,.int .i64 (Int.ofNat (Nat.pred x.refuse))]) tb4) nx4:=k4.fr.upd
  generalize upd I.A (.cells [.slice (some ⟨I.Pg,0,none⟩) x.pages.length x.pages.length,.int .i64 (Int.ofNat x.pages.length),.slice (some ⟨W',0,none⟩) 1 1,.int .i64 (Int.ofNat (countN x.pages)),.bool x.armed,.int .i64 (Int.ofNat (Nat.pred x.refuse))]) tb4=tb5 at hA5 hoth5 hfr5
  have hcn:=countN_setAll i x.pages a hak (cnt_none _ _ _ hc)
  have hcl:countN x.pages≤x.pages.length:=by
   have key:∀l:List (Option Nat),countN l≤l.length:=by
    intro l
    induction l with
    |nil=>exact Nat.le_refl _
    |cons x r ih=>cases x<;>simp only[countN,List.length_cons]<;>omega
   exact key _
  have hsl2:(setAll x.pages (some 0) a i).length=x.pages.length:=setAll_len _ _ _ _
  have hnw2:nWords (setAll x.pages (some 0) a i)=1:=by
   unfold nWords;rw[hsl2];exact hnw
  refine WO.mv e0 (WO.nilck rfl (WO.fadd rfl (WO.load rfl hA5 rfl rfl rfl (WO.mv e2 ?_))))
  refine WO.add rfl rfl (by simp only[zO];omega) (by simp only[zO];omega) (WO.as (b:=Int.ofNat (countN x.pages+i)) (by simp only[zO];omega) ?_)
  refine WO.nilck rfl (WO.fadd rfl (WO.store (ob':=.cells (topCells ⟨setAll x.pages (some 0) a i,x.armed,Nat.pred x.refuse⟩ ⟨I.A,I.Pg,W',none,1,pidN I.pid a nx2 i⟩)) rfl rfl rfl rfl hA5 rfl (by simp) (by
   show some (AObj.cells [_,_,_,_,_,_])=some (AObj.cells [_,_,_,_,_,_])
   rw[hsl2,hnw2,hcn]) ?_))
  refine WO.nil (zN (WC.seq (WC.ops (WO.mv rfl (WO.nil (zN (WC.ret ?_)))))))
  refine⟨_,_,rfl,rfl,rfl,⟨I.A,I.Pg,W',none,1,pidN I.pid a nx2 i⟩,⟨?_,hfr5.upd⟩,rfl⟩
  have hl:∀j,j≠I.A→j<nx→look j (upd I.A (.cells (topCells ⟨setAll x.pages (some 0) a i,x.armed,Nat.pred x.refuse⟩ ⟨I.A,I.Pg,W',none,1,pidN I.pid a nx2 i⟩)) tb5)=look j tbl:=fun j h1 h2=>(zU h1).trans ((hoth5 j h1).trans (k4.same j h2))
  have hpg:∀q P,(setAll x.pages (some 0) a i)[q]? = some (some P)→(a≤q∧q<a+i∧P=0∧pidN I.pid a nx2 i q=nx2+(q-a))∨(x.pages[q]? = some (some P)∧pidN I.pid a nx2 i q=I.pid q):=by
   intro q P h
   rw[setAll_get] at h
   by_cases hq:a≤q∧q<a+i∧q<x.pages.length
   ·rw[if_pos hq] at h
    injection h with h;injection h with h
    exact .inl ⟨hq.1,hq.2.1,h.symm,by unfold pidN;rw[if_pos ⟨hq.1,hq.2.1⟩]⟩
   ·rw[if_neg hq] at h
    have hql:q<x.pages.length:=by
     rcases Nat.lt_or_ge q x.pages.length with h1|h1
     ·exact h1
     ·rw[List.getElem?_eq_none h1] at h;cases h
    exact .inr ⟨h,by unfold pidN;rw[if_neg (by omega)]⟩
  have hpl:∀q P,x.pages[q]? = some (some P)→I.pid q<nx2:=fun q P h=>hA2.ltP h
  refine⟨zS hA5,(hl _ (Ne.symm hdA.1) (by omega)).trans hI.row,⟨_,(zU (by show W'≠I.A;omega)).trans ((hoth5 W' (by omega)).trans hW5),?_⟩,?_,?_,⟨hdA.1,by show I.A≠W';omega,by show I.Pg≠W';omega⟩,?_,by rw[hsl2];exact hA.at_.cap,by show Nat.pred x.refuse<_;rw[Nat.pred_eq_sub_one];omega⟩
  ·show some [Value.int .u64 (Int.ofNat (setN x.pages ||| maskN a i))]=some (wordCells (setAll x.pages (some 0) a i))
   unfold wordCells
   rw[hnw2]
   show _=some [wordV (setN (setAll x.pages (some 0) a i)) 0]
   unfold wordV
   show _=some [Value.int .u64 (Int.ofNat ((setN (setAll x.pages (some 0) a i) >>> 0) % 18446744073709551616))]
   have h64:(2:Nat) ^ (setAll x.pages (some 0) a i).length≤2 ^ 64:=Nat.pow_le_pow_right (by decide) (by rw[hsl2];exact hL)
   have hlt2:setN (setAll x.pages (some 0) a i)<18446744073709551616:=Nat.lt_of_lt_of_le (setN_lt _) h64
   rw[Nat.shiftRight_zero,Nat.mod_eq_of_lt hlt2,setN_setAll hak (by omega)]
  ·intro q P hq
   show look (pidN I.pid a nx2 i q) _=_
   rcases hpg q P hq with⟨h1,h2,rfl,h4⟩|⟨h1,h2⟩
   ·rw[h4]
    exact(hl _ (by omega) (by omega)).trans (hI.new _ (by omega))
   ·rw[h2]
    have:=hpl q P h1
    obtain⟨d1,d2,d3⟩:=hA2.at_.dP q P h1
    exact(hl _ d1 (by omega)).trans ((hI.old _ this d2).trans ((hoth _ d1).trans (hA2.at_.page q P h1)))
  ·intro q r P Q hq hr he
   have he:pidN I.pid a nx2 i q=pidN I.pid a nx2 i r:=he
   rcases hpg q P hq with⟨h1,h2,_,h4⟩|⟨h1,h2⟩<;>rcases hpg r Q hr with⟨g1,g2,_,g4⟩|⟨g1,g2⟩
   ·rw[h4,g4] at he;omega
   ·rw[h4,g2] at he;have:=hpl r Q g1;omega
   ·rw[h2,g4] at he;have:=hpl q P h1;omega
   ·rw[h2,g2] at he;exact hA2.at_.inj q r P Q h1 g1 he
  ·intro q P hq
   show pidN I.pid a nx2 i q≠I.A∧pidN I.pid a nx2 i q≠I.Pg∧pidN I.pid a nx2 i q≠W'
   rcases hpg q P hq with⟨h1,h2,_,h4⟩|⟨h1,h2⟩
   ·rw[h4];omega
   ·rw[h2]
    have:=hpl q P h1
    obtain⟨d1,d2,d3⟩:=hA2.at_.dP q P h1
    exact⟨d1,d2,by omega⟩
end Go.AI
/- What the arena's functions do upon its parts: Commit that is none;New. -/
namespace Go.AI
open Go.Proofs
variable {hk:Hook Empty}
theorem commit_bad{n:Nat}{x:Ar}{I:ArIds}{a k:Int}{h:Hp Empty}(H:HkA hk)(hn:1048576≤n)(hA:ArH h x I)(he:(rowP x a k).2≠0) :
  ∃v h',RA (hk:=hk) (n+4) 19 [.pointer (some ⟨I.A,0,none⟩),.int .i64 a,.int .i64 k] h=some (v,h')∧(v=errV (rowP x a k).2∧ArH h' x I):=by
 refine run_fn (H.none 19 (by decide)) f19 (by show 3≤84;decide) ?_
 dsimp only[i19,argsE]
 refine WC.seq (WC.ops (WO.mv rfl (WO.nil (zN (WC.seq (WC.seq (WC.ops ?_)))))))
 refine WO.mv rfl (WO.mv rfl (WO.mv rfl (WO.fcall_ex rfl rfl (row_run (n:=n) (a:=a) (k:=k) (h:=h) H hn hA) ?_)))
 rintro v2 h2 ⟨rfl,k2⟩
 have hA2:ArH h2 x I:=hA.keep k2
 refine WO.mv rfl (WO.pure rfl (WO.pure rfl (WO.mv rfl (WO.mv rfl (WO.nil (zN (WC.block (WC.seq (WC.ops ?_)))))))))
 refine WO.mv rfl (WO.neqS rfl rfl (fun _=>?_) (fun h0=>(he (Int.ofNat.inj h0)).elim))
 refine WO.mv rfl (WO.nil (zN (WC.cond_true rfl (WC.seq (WC.ops (WO.mv rfl (WO.mv rfl (WO.nil (zN (WC.ret ?_))))))))))
 exact⟨_,_,rfl,rfl,rfl,hA2⟩
theorem commit_there{n:Nat}{x:Ar}{I:ArIds}{a k:Int}{h:Hp Empty}(H:HkA hk)(hn:1048576≤n)(hA:ArH h x I)(he:(rowP x a k).2=0)(hc:(rowP x a k).1≠0) :
  ∃v h',RA (hk:=hk) (n+4) 19 [.pointer (some ⟨I.A,0,none⟩),.int .i64 a,.int .i64 k] h=some (v,h')∧(v=errV 9∧ArH h' x I):=by
 refine run_fn (H.none 19 (by decide)) f19 (by show 3≤84;decide) ?_
 dsimp only[i19,argsE]
 refine WC.seq (WC.ops (WO.mv rfl (WO.nil (zN (WC.seq (WC.seq (WC.ops ?_)))))))
 refine WO.mv rfl (WO.mv rfl (WO.mv rfl (WO.fcall_ex rfl rfl (row_run (n:=n) (a:=a) (k:=k) (h:=h) H hn hA) ?_)))
 rintro v2 h2 ⟨rfl,k2⟩
 have hA2:ArH h2 x I:=hA.keep k2
 rw[he]
 refine WO.mv rfl (WO.pure rfl (WO.pure rfl (WO.mv rfl (WO.mv rfl (WO.nil (zN (WC.block (WC.seq (WC.ops ?_)))))))))
 refine WO.mv rfl (WO.neqS rfl rfl (fun hne=>(hne rfl).elim) (fun _=>?_))
 refine WO.mv rfl (WO.nil (zN (WC.cond_false rfl (WC.seq (WC.ops (WO.mv rfl (WO.gtrS rfl rfl (fun hlt=>?_) (fun hlt=>?_))))))))
 ·refine WO.mv rfl (WO.nil (zN (WC.cond_true rfl (WC.seq (WC.ops (WO.mv rfl (WO.nil (zN (WC.ret ?_)))))))))
  exact⟨_,_,rfl,rfl,rfl,hA2⟩
 ·exfalso
  simp only[zO] at hlt
  omega
theorem commit_refused{n:Nat}{x:Ar}{I:ArIds}{a k:Int}{h:Hp Empty}(H:HkA hk)(hn:1048576≤n)(hA:ArH h x I)(he:rowP x a k=(0,0))(harm:x.armed=true)(hr0:x.refuse=0) :
  ∃v h',RA (hk:=hk) (n+4) 19 [.pointer (some ⟨I.A,0,none⟩),.int .i64 a,.int .i64 k] h=some (v,h')∧(v=errV 4∧ArH h' ⟨x.pages,false,x.refuse⟩ I):=by
 refine run_fn (H.none 19 (by decide)) f19 (by show 3≤84;decide) ?_
 dsimp only[i19,argsE]
 refine WC.seq (WC.ops (WO.mv rfl (WO.nil (zN (WC.seq (WC.seq (WC.ops ?_)))))))
 refine WO.mv rfl (WO.mv rfl (WO.mv rfl (WO.fcall_ex rfl rfl (row_run (n:=n) (a:=a) (k:=k) (h:=h) H hn hA) ?_)))
 rintro v2 h2 ⟨rfl,k2⟩
 have hA2:ArH h2 x I:=hA.keep k2
 rw[he]
 have htop:look I.A h2.tbl=some (.cells [.slice (some ⟨I.Pg,0,none⟩) x.pages.length x.pages.length,.int .i64 (Int.ofNat x.pages.length),.slice (some ⟨I.W,0,I.sp⟩) (nWords x.pages) I.cp,.int .i64 (Int.ofNat (countN x.pages)),.bool true,.int .i64 (Int.ofNat x.refuse)]):=by
  rw[← harm];exact hA2.at_.top
 refine WO.mv rfl (WO.pure rfl (WO.pure rfl (WO.mv rfl (WO.mv rfl (WO.nil (zN (WC.block (WC.seq (WC.ops ?_)))))))))
 refine WO.mv rfl (WO.neqS rfl rfl (fun hne=>(hne rfl).elim) (fun _=>?_))
 refine WO.mv rfl (WO.nil (zN (WC.cond_false rfl (WC.seq (WC.ops (WO.mv rfl (WO.gtrS rfl rfl (fun hlt=>by cases hlt) (fun hlt=>?_))))))))
 refine WO.mv rfl (WO.nil (zN (WC.cond_false rfl (WC.seq (WC.ops (WO.mv rfl (WO.nilck rfl (WO.fadd rfl (WO.load rfl htop rfl rfl rfl (WO.mv rfl ?_))))))))))
 refine WO.take rfl rfl (WO.mv rfl (WO.take rfl rfl (WO.nilck rfl (WO.take rfl rfl (WO.fadd rfl (WO.take rfl rfl (WO.load rfl htop rfl rfl rfl (WO.take rfl rfl (WO.eqlS rfl rfl (fun _=>?_) (fun h0=>(h0 (by rw[hr0])).elim))))))))))
 refine WO.pure rfl (WO.mv rfl (WO.nil (zN (WC.cond_true rfl (WC.seq (WC.ops ?_))))))
 refine WO.mv rfl (WO.nilck rfl (WO.fadd rfl (WO.store (ob':=.cells (topCells ⟨x.pages,false,x.refuse⟩ I)) rfl rfl rfl rfl htop rfl (by simp) rfl (WO.nil (zN (WC.seq (WC.ops (WO.mv rfl (WO.nil (zN (WC.ret ?_)))))))))))
 refine⟨_,_,rfl,rfl,rfl,⟨?_,hA2.fresh.upd⟩⟩
 have hoth:∀j,j≠I.A→look j (upd I.A (.cells (topCells ⟨x.pages,false,x.refuse⟩ I)) h2.tbl)=look j h2.tbl:=fun j hj=>zU hj
 have hd:=hA2.at_.dA
 refine⟨zS htop,(hoth _ (Ne.symm hd.1)).trans hA2.at_.row,?_,fun i P hp=>(hoth _ (hA2.at_.dP i P hp).1).trans (hA2.at_.page i P hp),hA2.at_.inj,hd,hA2.at_.dP,hA2.at_.cap,hA2.at_.ref⟩
 obtain⟨ob,q1,q2⟩:=hA2.at_.wds
 exact⟨ob,(hoth _ (Ne.symm hd.2.1)).trans q1,q2⟩
theorem commit_m{n:Nat}{x x':Ar}{I:ArIds}{args:List Value}{v:Value}{h:Hp Empty}(H:HkA hk)(hn:1048576≤n)(hA:ArH h x I)(hs:commitS1 x args=some (v,x')) :
  ∃h' I',RA (hk:=hk) (n+4) 19 (.pointer (some ⟨I.A,0,none⟩)::args) h=some (v,h')∧ArH h' x' I'∧I'.A=I.A:=by
 unfold commitS1 at hs
 cases hl:Nat.ble x.pages.length 64 with
 |false=>rw[hl] at hs;cases hs
 |true =>
  rw[hl,cond_true] at hs
  rw[Nat.ble_eq] at hl
  unfold commitS at hs
  split at hs
  ·rename_i a k
   have bad:∀e:Nat,e≠0→(rowP x a k).2=e→some (errV e,x)=some (v,x')→∃h' I',RA (hk:=hk) (n+4) 19 [.pointer (some ⟨I.A,0,none⟩),.int .i64 a,.int .i64 k] h=some (v,h')∧ArH h' x' I'∧I'.A=I.A:=by
    intro e he hr hq
    simp only[zI,Prod.mk.injEq] at hq
    obtain⟨rfl,rfl⟩:=hq
    obtain⟨w,h',q1,rfl,q3⟩:=commit_bad (n:=n) (a:=a) (k:=k) H hn hA (by rw[hr];exact he)
    rw[hr] at q1
    exact⟨h',I,q1,q3,rfl⟩
   split at hs
   ·exact bad 2 (by decide) (by unfold rowP;rw[if_pos (by omega)]) hs
   ·exact bad 2 (by decide) (by unfold rowP;rw[if_pos (by decide)]) hs
   ·rename_i k'
    split at hs
    ·exact bad 3 (by decide) (by unfold rowP;rw[if_neg (by simp only[zO];omega),if_neg (by omega)]) hs
    ·rename_i a'
     cases hb:Nat.ble (Nat.add a' (Nat.succ k')) x.pages.length with
     |false =>
      rw[hb,cond_false] at hs
      have hb':¬a'+(k'+1)≤x.pages.length:=by
       intro h
       have:Nat.ble (Nat.add a' (Nat.succ k')) x.pages.length=true:=by rw[Nat.ble_eq];exact h
       rw[hb] at this;cases this
      exact bad 3 (by decide) (by unfold rowP;rw[if_neg (by simp only[zO];omega),if_neg (by simp only[zO];omega)]) hs
     |true =>
      rw[hb,cond_true] at hs
      rw[Nat.ble_eq] at hb
      have hb':a'+(k'+1)≤x.pages.length:=hb
      have hrow:rowP x (Int.ofNat a') (Int.ofNat (k'+1))=(cntC x.pages a' (k'+1),0):=by
       unfold rowP
       rw[if_neg (by simp only[zO];omega),if_pos (by simp only[zO];omega)]
       rfl
      cases hcnt:Nat.beq (cntC x.pages a' (Nat.succ k')) 0 with
      |false =>
       rw[hcnt,cond_false] at hs
       simp only[zI,Prod.mk.injEq] at hs
       obtain⟨rfl,rfl⟩:=hs
       have hne:cntC x.pages a' (k'+1)≠0:=fun h=>by
        have:Nat.beq (cntC x.pages a' (Nat.succ k')) 0=true:=by rw[Nat.beq_eq];exact h
        rw[hcnt] at this;cases this
       obtain⟨w,h',q1,rfl,q3⟩:=commit_there (n:=n) (a:=Int.ofNat a') (k:=Int.ofNat (k'+1)) H hn hA (by rw[hrow]) (by rw[hrow];exact hne)
       exact⟨h',I,q1,q3,rfl⟩
      |true =>
       rw[hcnt,cond_true] at hs
       rw[Nat.beq_eq] at hcnt
       have hc0:cntC x.pages a' (k'+1)=0:=hcnt
       rw[hc0] at hrow
       cases harm:(x.armed&&Nat.beq x.refuse 0) with
       |true =>
        rw[harm,cond_true] at hs
        simp only[zI,Prod.mk.injEq] at hs
        obtain⟨rfl,rfl⟩:=hs
        rw[Bool.and_eq_true,Nat.beq_eq] at harm
        obtain⟨w,h',q1,rfl,q3⟩:=commit_refused (n:=n) H hn hA hrow harm.1 harm.2
        exact⟨h',I,q1,q3,rfl⟩
       |false =>
        rw[harm,cond_false] at hs
        simp only[zI,Prod.mk.injEq] at hs
        obtain⟨rfl,rfl⟩:=hs
        have har:¬(x.armed=true∧x.refuse=0):=fun h=>by
         have:(x.armed&&Nat.beq x.refuse 0)=true:=by rw[Bool.and_eq_true,Nat.beq_eq];exact h
         rw[harm] at this;cases this
        obtain⟨w,h',q1,rfl,I',q3,q4⟩:=commit_yes (n:=n) (k:=k'+1) H hn hA hl (by omega) hb' hc0 har
        exact⟨h',I',q1,q3,q4⟩
  ·cases hs
end Go.AI
/- What the arena's functions do upon its parts: New. -/
namespace Go.AI
open Go.Proofs
variable {hk:Hook Empty}
theorem estep_mslice{X:Type}{call:CallFn X}{env:List (Nat×Value)}{m:Mem X}{d e b a c:Nat}{z:List Value}{x y:Opd}{j k:IntKind}(hx:evo env x=some (.int j (.ofNat a)))(hy:evo env y=some (.int k (.ofNat c)))(h1:a≤c)(h2:c*b≤281474976710656)(h3:c≤281474976710656) :
  estep call env m (.mslice d e b z x y)=some (.slice (some ⟨m.next,0,none⟩) a c,m.new true (.cells (rows c z))):=by
 have q1:Nat.ble a c=true:=by rw[Nat.ble_eq];exact h1
 have q2:Nat.ble (c*b) 281474976710656=true:=by rw[Nat.ble_eq];exact h2
 have q3:Nat.ble c 281474976710656=true:=by rw[Nat.ble_eq];exact h3
 simp only[estep,mstep,hx,hy,natOf,q1,q2,q3,Bool.and_self,cond_true]
theorem set_run{n m:Nat}{h:Hp Empty}(H:HkA hk)(hm:m≤1048576)(hf:Fresh h.tbl h.next) :
  ∃v h',RA (hk:=hk) (n+1) 41 [.int .i64 (Int.ofNat m)] h=some (v,h')∧∃W,h.next≤W∧W<h'.next∧v=setVal m W none ((m+63) / 64) ((m+63) / 64)∧look W h'.tbl=some (.cells (rows ((m+63) / 64) [.int .u64 (.ofNat 0)]))∧Keep h.tbl h.next h'.tbl h'.next:=by
 refine run_fn (H.none 41 (by decide)) f41 (by simp[i41]) ?_
 dsimp only[i41,argsE]
 have k1:=Keep.new hf (.cells [.int .i64 (.ofNat 0),.slice none 0 0])
 refine WC.seq (WC.ops (WO.new (WO.nil (zN (WC.seq (WC.ops (WO.mv rfl (WO.min2 rfl rfl (WO.as (b:=Int.ofNat m) (by simp only[zO];omega) (WO.max2 rfl rfl (WO.as (b:=Int.ofNat m) (by simp only[zO];omega) (WO.mv rfl (WO.nil (zN (WC.seq (WC.ops ?_))))))))))))))))
 refine WO.mv rfl (WO.mv rfl (WO.add rfl rfl (by simp only[zO];omega) (by simp only[zO];omega) (WO.sub rfl rfl (by simp only[zO];omega) (by simp only[zO];omega) (WO.as (b:=Int.ofNat (m+63)) (by simp only[zO];omega) (WO.quo rfl rfl (by omega) ?_)))))
 refine WO.step (i:=.mslice 11 1 8 [.int .u64 (.ofNat 0)] (.t 10) (.t 10)) (estep_mslice rfl rfl (Nat.le_refl _) (by omega) (by omega)) ?_
 have k2:=Keep.new k1.fr (.cells (rows ((m+63) / (63+1)) [.int .u64 (.ofNat 0)]))
 have hr0:look h.next ((h.next+1,.cells (rows ((m+63) / (63+1)) [.int .u64 (.ofNat 0)]))::(h.next,.cells [.int .i64 (.ofNat 0),.slice none 0 0])::h.tbl)=some (.cells [.int .i64 (.ofNat 0),.slice none 0 0]):=(look_old (by omega)).trans look_new
 refine WO.pure rfl (WO.store (ob':=.cells [.int .i64 (Int.ofNat m),.slice (some ⟨h.next+1,0,none⟩) ((m+63) / (63+1)) ((m+63) / (63+1))]) rfl rfl rfl rfl hr0 rfl (by show(2:Nat)≤2;exact Nat.le_refl _) rfl (WO.nil (zN (WC.ret ?_))))
 refine⟨[setVal m (h.next+1) none ((m+63) / 64) ((m+63) / 64)],_,resV_cell rfl (mem_load (zS hr0) rfl rfl) rfl rfl,rfl,h.next+1,by omega,by show h.next+1<h.next+1+1;omega,rfl,(zU (by omega)).trans look_new,(k1.trans k2).upd (Nat.le_refl _)⟩
theorem len_run{n L W nw cp:Nat}{sp:Option Nat}{h:Hp Empty}(H:HkA hk) :
  RA (hk:=hk) (n+1) 42 [setVal L W sp nw cp] h=some (.int .i64 (Int.ofNat L),⟨(h.next,.cells [.int .i64 (Int.ofNat L),.slice (some ⟨W,0,sp⟩) nw cp])::h.tbl,h.next+1⟩):=by
 have key:∃v h',RA (hk:=hk) (n+1) 42 [setVal L W sp nw cp] h=some (v,h')∧(v = .int .i64 (Int.ofNat L)∧h'=⟨(h.next,.cells [.int .i64 (Int.ofNat L),.slice (some ⟨W,0,sp⟩) nw cp])::h.tbl,h.next+1⟩):=by
  refine run_fn (H.none 42 (by decide)) f42 (by simp[i42]) ?_
  dsimp only[i42,argsE]
  refine WC.seq (WC.ops (WO.box rfl rfl (WO.mv rfl (WO.nil (zN (WC.seq (WC.ops (WO.fadd rfl (WO.load rfl look_new rfl rfl rfl (WO.mv rfl (WO.nil (zN (WC.ret ?_)))))))))))))
  exact⟨_,_,rfl,rfl,rfl,rfl⟩
 obtain⟨v,h',q1,rfl,rfl⟩:=key
 exact q1
theorem row_none(pid:Nat→Nat):∀(m b:Nat),rowCells pid b (List.replicate m none)=rows m [.pointer none]
 |0,b=>rfl
 |m+1,b=>by
  simp only[List.replicate_succ,rowCells]
  rw[row_none pid m (b+1)]
  show _=(List.replicate (m+1) [Value.pointer none]).flatten
  rw[List.replicate_succ,List.flatten_cons]
  rfl
theorem setN_none:∀m:Nat,setN (List.replicate m none)=0
 |0=>rfl
 |m+1=>by
  simp only[List.replicate_succ,setN]
  rw[setN_none m]
theorem countN_none:∀m:Nat,countN (List.replicate m none)=0
 |0=>rfl
 |m+1=>by
  simp only[List.replicate_succ,countN]
  exact countN_none m
theorem words_none(m:Nat):wordCells (List.replicate m none)=rows ((m+63) / 64) [.int .u64 (.ofNat 0)]:=by
 unfold wordCells
 have h1:nWords (List.replicate m none)=(m+63) / 64:=by
  show((List.replicate m (none:Option Nat)).length+63) / 64=_
  rw[List.length_replicate]
 rw[h1,setN_none]
 generalize(m+63) / 64=k
 induction k with
 |zero=>rfl
 |succ k ih =>
  rw[List.range_succ,List.map_append,ih]
  show rows k [.int .u64 (.ofNat 0)]++[wordV 0 k]=(List.replicate (k+1) [Value.int .u64 (.ofNat 0)]).flatten
  rw[List.replicate_succ',List.flatten_append]
  congr 1
  show[wordV 0 k]=[Value.int .u64 (.ofNat 0)]++[]
  unfold wordV
  show[Value.int .u64 (Int.ofNat ((0 >>> (64*k)) % 18446744073709551616))]=_
  rw[Nat.zero_shiftRight];rfl
set_option maxHeartbeats 1000000 in
theorem new_run{n m:Nat}{h:Hp Empty}(H:HkA hk)(hm:m≤1048576)(hf:Fresh h.tbl h.next) :
  ∃v h',RA (hk:=hk) (n+2) 18 [.int .i64 (Int.ofNat m)] h=some (v,h')∧∃I,v = .pointer (some ⟨I.A,0,none⟩)∧ArH h' ⟨List.replicate m none,false,0⟩ I:=by
 refine run_fn (H.none 18 (by decide)) f18 (by simp[i18]) ?_
 dsimp only[i18,argsE]
 refine WC.seq (WC.ops (WO.mv rfl (WO.nil (zN (WC.seq (WC.ops ?_))))))
 refine WO.mv rfl (WO.fcall_ex rfl rfl (set_run (n:=n) (m:=m) (h:=h) H hm hf) ?_)
 rintro v2 ⟨tb2,nx2⟩ ⟨W,hW1,hW2,rfl,hW3,k2⟩
 have hW2:W<nx2:=hW2
 have hW3:look W tb2=some (.cells (rows ((m+63) / 64) [.int .u64 (.ofNat 0)])):=hW3
 have k2:Keep h.tbl h.next tb2 nx2:=k2
 have k3:=Keep.new k2.fr (.cells [.int .i64 (.ofNat 0),.slice none 0 0])
 refine WO.new (WO.store (ob':=.cells [.int .i64 (Int.ofNat m),.slice (some ⟨W,0,none⟩) ((m+63) / 64) ((m+63) / 64)]) rfl rfl rfl rfl look_new rfl (by show(2:Nat)≤2;exact Nat.le_refl _) rfl (WO.nil (zN (WC.seq (WC.drawnW ?_)))))
 have hs3:look nx2 (upd nx2 (.cells [.int .i64 (Int.ofNat m),.slice (some ⟨W,0,none⟩) ((m+63) / 64) ((m+63) / 64)]) ((nx2,.cells [.int .i64 (.ofNat 0),.slice none 0 0])::tb2))=some (.cells [.int .i64 (Int.ofNat m),.slice (some ⟨W,0,none⟩) ((m+63) / 64) ((m+63) / 64)]):=zS look_new
 have hw3:look W (upd nx2 (.cells [.int .i64 (Int.ofNat m),.slice (some ⟨W,0,none⟩) ((m+63) / 64) ((m+63) / 64)]) ((nx2,.cells [.int .i64 (.ofNat 0),.slice none 0 0])::tb2))=some (.cells (rows ((m+63) / 64) [.int .u64 (.ofNat 0)])):=(zU (by omega)).trans ((look_old (by omega)).trans hW3)
 have hfr3:=k3.fr.upd (i:=nx2) (o:=.cells [.int .i64 (Int.ofNat m),.slice (some ⟨W,0,none⟩) ((m+63) / 64) ((m+63) / 64)])
 generalize upd nx2 (.cells [.int .i64 (Int.ofNat m),.slice (some ⟨W,0,none⟩) ((m+63) / 64) ((m+63) / 64)]) ((nx2,.cells [.int .i64 (.ofNat 0),.slice none 0 0])::tb2)=tb3 at hs3 hw3 hfr3
 have hfr3:Fresh tb3 (nx2+1):=hfr3
 have hld:∀nx,(⟨[],tb3,nx⟩:Mem Empty).load ⟨nx2,0,none⟩ 2=some [.int .i64 (Int.ofNat m),.slice (some ⟨W,0,none⟩) ((m+63) / 64) ((m+63) / 64)]:=fun nx=>mem_load hs3 rfl rfl
 have hl4:∀o nx,(⟨[],(nx2+1+7,o)::tb3,nx⟩:Mem Empty).load ⟨nx2,0,none⟩ 2=some [.int .i64 (Int.ofNat m),.slice (some ⟨W,0,none⟩) ((m+63) / 64) ((m+63) / 64)]:=fun o nx=>mem_load ((look_old (by omega)).trans hs3) rfl rfl
 have hl5:∀o o' nx,(⟨[],(nx2+1+7+1,o')::(nx2+1+7,o)::tb3,nx⟩:Mem Empty).load ⟨nx2,0,none⟩ 2=some [.int .i64 (Int.ofNat m),.slice (some ⟨W,0,none⟩) ((m+63) / 64) ((m+63) / 64)]:=fun o o' nx=>mem_load ((look_old (by omega)).trans ((look_old (by omega)).trans hs3)) rfl rfl
 have hlr:=len_run (hk:=hk) (n:=n) (L:=m) (W:=W) (nw:=(m+63) / 64) (cp:=(m+63) / 64) (sp:=none) (h:=⟨tb3,nx2+1+7⟩) H
 refine WD.load rfl (hld _) rfl ?_
 refine WD.chn (v:=.int .i64 (Int.ofNat m)) (m':=⟨[],(nx2+1+7,.cells [.int .i64 (Int.ofNat m),.slice (some ⟨W,0,none⟩) ((m+63) / 64) ((m+63) / 64)])::tb3,nx2+1+7+1⟩) rfl rfl rfl (Eq.trans (estep_call (vs:=[setVal m W none ((m+63) / 64) ((m+63) / 64)]) (kf:=42) (fst:=#[]) (caps:=#[]) rfl rfl hlr) rfl) ?_
 refine WD.chn (v:=.slice (some ⟨nx2+1+7+1,0,none⟩) m m) (m':=⟨[],(nx2+1+7+1,.cells (rows m [.pointer none]))::(nx2+1+7,.cells [.int .i64 (Int.ofNat m),.slice (some ⟨W,0,none⟩) ((m+63) / 64) ((m+63) / 64)])::tb3,nx2+1+7+1+1⟩) rfl rfl rfl (Eq.trans (estep_mslice rfl rfl (Nat.le_refl _) (by omega) (by omega)) rfl) ?_
 refine WD.load rfl (hl5 _ _ _) rfl (WD.pure rfl (WD.alloc rfl rfl (WD.pure rfl (WD.nil ⟨?_,_,_,rfl,?_⟩))))
 ·have h1:ceqs [Value.int .i64 (Int.ofNat m),Value.slice (some ⟨W,0,none⟩) ((m+63) / 64) ((m+63) / 64)] [Value.int .i64 (Int.ofNat m),Value.slice (some ⟨W,0,none⟩) ((m+63) / 64) ((m+63) / 64)]=true:=by simp[ceqs,ceq,ieqF_eq]
  simp only[heldAll,loadsIn,hld,hl4,hl5,h1]
  rfl
 refine zN (WC.ret ⟨_,_,rfl,rfl,⟨nx2+1+5,nx2+1+7+1,W,none,(m+63) / 64,fun _=>0⟩,rfl,⟨?_,?_⟩⟩)
 ·have hl:∀j,j<nx2+1→look j ((nx2+1+5,AObj.cells [.slice (some ⟨nx2+1+7+1,0,none⟩) m m,.int .i64 (Int.ofNat m),.slice (some ⟨W,0,none⟩) ((m+63) / 64) ((m+63) / 64),.int .i64 (.ofNat 0),.bool false,.int .i64 (.ofNat 0)])::(nx2+1+7+1,.cells (rows m [.pointer none]))::(nx2+1+7,.cells [.int .i64 (Int.ofNat m),.slice (some ⟨W,0,none⟩) ((m+63) / 64) ((m+63) / 64)])::tb3)=look j tb3:=fun j hj =>
   (look_old (by omega)).trans ((look_old (by omega)).trans (look_old (by omega)))
  have hn1:nWords (List.replicate m (none:Option Nat))=(m+63) / 64:=by
   show((List.replicate m (none:Option Nat)).length+63) / 64=_
   rw[List.length_replicate]
  have hno:∀(i P:Nat),(List.replicate m (none:Option Nat))[i]? = some (some P)→False:=fun i P h=>by
   rw[List.getElem?_replicate] at h
   split at h<;>simp at h
  refine⟨?_,?_,⟨_,(hl W (by omega)).trans hw3,?_⟩,fun i P h=>(hno i P h).elim,fun i j P Q h=>(hno i P h).elim,⟨by show nx2+1+5≠nx2+1+7+1;omega,by show nx2+1+5≠W;omega,by show nx2+1+7+1≠W;omega⟩,fun i P h=>(hno i P h).elim,by rw[List.length_replicate];exact hm,by show(0:Nat)<9223372036854775808;decide⟩
  ·refine look_new.trans ?_
   rw[hn1,List.length_replicate,countN_none]
   rfl
  ·refine(look_old (by show nx2+1+7+1≠nx2+1+5;omega)).trans (look_new.trans ?_)
   rw[row_none]
  ·rw[words_none];rfl
 ·show Fresh ((nx2+1+5,_)::(nx2+1+7+1,_)::(nx2+1+7,_)::tb3) (nx2+1+7+1+1)
  intro k hk
  rw[look_old (by omega),look_old (by omega),look_old (by omega)]
  exact hfr3 k (by omega)
end Go.AI
/- The arena as one object: its methods and New as hooks. -/
namespace Go.AI
open Go.Proofs
variable {W0:World}{Cls:Nat→Int→Prop}
def hk0:Hook Empty:=hookL [(148,noEscapeH)]
theorem hk0_B:HkB hk0 where
 none:=fun k hk=>by
  show(bif Nat.beq k 148 then some noEscapeH else none)=none
  rw[beq_no hk];rfl
 noesc:=rfl
theorem hk0_ok{n:Nat}:CallsOk Ext0 PZ W0 (RA (hk:=hk0) n):=by
 refine run_sound (esc:=escA) mixedZ (hookL_ok fun x hx=>?_) n
 simp only[List.mem_cons,List.not_mem_nil,or_false] at hx
 subst hx
 exact noEscape_ok noEscE
def methH(spec:Ar→List Value→Option (Value×Ar)):List Value→Hp Ar→Option (Value×Hp Ar)
 | .pointer (some ⟨i,0,none⟩)::r,h=>match look i h.tbl with
  |some (.ext x)=>bif r.all plainV&&Nat.blt x.refuse 9223372036854775808 then(match spec x r with
   |some (v,x')=>bif plainV v then some (v,⟨upd i (.ext x') h.tbl,h.next⟩) else none
   |none=>none) else none
  |_=>none
 |_,_=>none
theorem meth_ok{k N:Nat}{spec:Ar→List Value→Option (Value×Ar)}
  (hm:∀x I h args v x',ArH h x I→spec x args=some (v,x')→∃h' I',RA (hk:=hk0) N k (.pointer (some ⟨I.A,0,none⟩)::args) h=some (v,h')∧ArH h' x' I'∧I'.A=I.A):HookOk (Ext1 Cls) PZ W0 k (methH spec):=by
 intro vs hp v h2 hr ρ φ w hG vs' hvs
 unfold methH at hr
 split at hr
 ·rename_i i r
  split at hr
  ·rename_i x hx
   cases hpl':(r.all plainV&&Nat.blt x.refuse 9223372036854775808) with
   |false=>rw[hpl'] at hr;cases hr
   |true =>
    rw[hpl',cond_true] at hr
    rw[Bool.and_eq_true,blt_iff,decide_eq_true_eq] at hpl'
    obtain⟨hpl,hrf⟩:=hpl'
    split at hr
    ·rename_i v1 x' hsp
     cases hpv:plainV v1 with
     |false=>rw[hpv] at hr;cases hr
     |true =>
      rw[hpv,cond_true] at hr
      simp only[zI,Prod.mk.injEq] at hr
      obtain⟨rfl,rfl⟩:=hr
      cases hvs with
      |cons hv1 hv2 =>
       have e0:=plains_vr hpl hv2
       subst e0
       rename_i b0 y
       obtain⟨T,n0,ρ0,φ0,I,b,s,s',hA,hG0,hb,hb0,hF,hD⟩:=good_down hG hx hrf
       have hfr:Fresh T n0:=fun q hq=>by
        cases hq2:look q T with
        |none=>rfl
        |some o=>have:=hG0.lt hq2;omega
       obtain⟨h',I',hrun,hA',hI⟩:=hm x I ⟨T,n0⟩ y v1 x' ⟨hA,hfr⟩ hsp
       obtain rfl:b0=Value.pointer (some ⟨b,0,none⟩):=by
        cases hv1 with
        |x hx1 =>
         cases hx1 with
         |flat hf =>
          cases hf with
          |ptr he=>rw[hb] at he;injection he with he;injection he with e1 e2;subst e1;rfl
       have hvs0:All2 (VR ρ0) (.pointer (some ⟨I.A,0,none⟩)::y) (.pointer (some ⟨b,0,none⟩)::y):=.cons (.of_flat (.ptr hb0)) (plains_same hpl)
       have key:∀{v' w' ρ' φ'},VR ρ' v1 v'→Post (E:=Ext0) W0 ρ0 φ0 (fun i=>look i T) n0 w ρ' φ' (fun i=>look i h'.tbl) h'.next w' →
         ∃φ1,VR ρ v1 v'∧Post (E:=(Ext1 Cls)) W0 ρ φ (fun i=>look i hp.tbl) hp.next w ρ φ1 (fun j=>look j (upd i (.ext x') hp.tbl)) hp.next w':=by
        intro v' w' ρ' φ' q1 q2
        have q3:=plainV_vr hpv q1
        subst q3
        have q4:=post_up hG hx hb hF hD q2 hA'.at_ (s':=s') (by rw[hI];exact q2.le _ _ hb0)
        have q5:(fun j=>look j (upd i (AObj.ext x') hp.tbl))=View.put (E:=(Ext1 Cls)) (fun i=>look i hp.tbl) i (.ext x'):=by
         funext j
         unfold View.put
         rw[look_upd]
         split
         ·rename_i e;subst e
          show Option.map _ (look j hp.tbl)=_
          have hx':look j hp.tbl=some (AObj.ext x):=hx
          rw[hx'];rfl
         ·rfl
        rw[← q5] at q4
        exact⟨_,plainV_same hpv,q4⟩
       rcases hk0_ok k _ _ _ _ hrun ρ0 φ0 w hG0 _ hvs0 with⟨hb1,hc⟩|⟨v',w',ρ',φ',hx1,q1,q2⟩
       ·refine .inl ⟨hb1,calls_mono hc ?_⟩
        rintro e w' ⟨v',ρ',φ',rfl,q1,q2⟩
        obtain⟨φ1,q3,q4⟩:=key q1 q2
        exact⟨v',ρ,φ1,rfl,q3,q4⟩
       ·obtain⟨φ1,q3,q4⟩:=key q1 q2
        exact .inr ⟨v',w',ρ,φ1,hx1,q3,q4⟩
    ·cases hr
  ·cases hr
 ·cases hr
def newH:List Value→Hp Ar→Option (Value×Hp Ar)
 |[.int .i64 (.ofNat m)],h=>bif Nat.ble m 64 then some (.pointer (some ⟨h.next,0,none⟩),⟨(h.next,.ext ⟨List.replicate m none,false,0⟩)::h.tbl,Nat.succ h.next⟩) else none
 |_,_=>none
theorem new_ok:HookOk (Ext1 Cls) PZ W0 18 newH:=by
 intro vs hp v h2 hr ρ φ w hG vs' hvs
 unfold newH at hr
 split at hr
 ·rename_i m
  cases hm:Nat.ble m 64 with
  |false=>rw[hm] at hr;cases hr
  |true =>
   rw[hm,cond_true] at hr
   rw[Nat.ble_eq] at hm
   simp only[zI,Prod.mk.injEq] at hr
   obtain⟨rfl,rfl⟩:=hr
   cases hvs with
   |cons hv1 hv2 =>
    cases hv2
    have e1:=hv1.int_inv
    subst e1
    obtain⟨v0,h',hrun,I,rfl,hA'⟩:=new_run (hk:=hk0) (n:=0) (m:=m) (h:=⟨[],0⟩) hk0_B.toHkA (by omega) (fun q _=>rfl)
    have hG0:Good (E:=Ext0) W0 (fun _=>none) φ (fun i=>look i (⟨[],0⟩:Hp Empty).tbl) 0 w :=
     ⟨fun _ _=>rfl,fun i o h=>by simp[look] at h,fun i j oi oj b h=>by simp[look] at h,fun i o b h=>by simp[look] at h,fun i o b h=>by simp[look] at h,fun i o b h=>by simp[look] at h,hG.size,hG.base,hG.os,hG.out⟩
    have key:∀{v' w' ρ' φ'},VR ρ' (.pointer (some ⟨I.A,0,none⟩)) v'→Post (E:=Ext0) W0 (fun _=>none) φ (fun i=>look i (⟨[],0⟩:Hp Empty).tbl) 0 w ρ' φ' (fun i=>look i h'.tbl) h'.next w' →
      ∃ρ1 φ1,VR ρ1 (.pointer (some ⟨hp.next,0,none⟩)) v'∧Post (E:=(Ext1 Cls)) W0 ρ φ (fun i=>look i hp.tbl) hp.next w ρ1 φ1 (fun j=>look j ((hp.next,AObj.ext ⟨List.replicate m none,false,0⟩)::hp.tbl)) (Nat.succ hp.next) w':=by
     intro v' w' ρ' φ' q1 q2
     obtain⟨b,s,rfl,hb⟩:∃b s,v' = .pointer (some ⟨b,0,none⟩)∧ρ' I.A=some (b,s):=by
      cases q1 with
      |x hx1 =>
       cases hx1 with
       |flat hf =>
        cases hf with
        |ptr he=>exact⟨_,_,rfl,he⟩
     have q4:=post_made hG (fun i=>rfl) q2 hA'.at_ hb
     have q5:(fun j=>look j ((hp.next,AObj.ext (⟨List.replicate m none,false,0⟩:Ar))::hp.tbl))=View.put (E:=(Ext1 Cls)) (fun i=>look i hp.tbl) hp.next (.ext ⟨List.replicate m none,false,0⟩):=by
      funext j
      unfold View.put
      rw[zC]
     rw[← q5] at q4
     exact⟨_,_,.of_flat (.ptr (s:=0) (by simp[Ren.put])),q4⟩
    rcases hk0_ok 18 _ _ _ _ hrun _ φ w hG0 _ (.cons (.of_flat (.int _ _)) .nil) with⟨hb1,hc⟩|⟨v',w',ρ',φ',hx1,q1,q2⟩
    ·refine .inl ⟨hb1,calls_mono hc ?_⟩
     rintro e w' ⟨v',ρ',φ',rfl,q1,q2⟩
     obtain⟨ρ1,φ1,q3,q4⟩:=key q1 q2
     exact⟨v',ρ1,φ1,rfl,q3,q4⟩
    ·obtain⟨ρ1,φ1,q3,q4⟩:=key q1 q2
     exact .inr ⟨v',w',ρ1,φ1,hx1,q3,q4⟩
 ·cases hr
def hAr:List (HookF Ar):=[(18,newH),(19,methH commitS1),(45,methH bytesS),(111,methH fillS),(174,methH putS),(278,methH copyS),(105,methH loadS),(155,methH capS),(138,methH storeS)]
theorem hAr_ok:∀x∈hAr,HookOk (Ext1 Cls) PZ W0 x.1 x.2:=by
 have B:=hk0_B
 have A:=B.toHkA
 intro x hx
 simp only[hAr,List.mem_cons,List.not_mem_nil,or_false] at hx
 rcases hx with rfl|rfl|rfl|rfl|rfl|rfl|rfl|rfl|rfl
 ·exact new_ok
 ·exact meth_ok (N:=1048576+4) fun x I h args v x' hA hs=>commit_m A (Nat.le_refl _) hA hs
 ·refine meth_ok (N:=4294967297+6) fun x I h args v x' hA hs=>?_
  obtain⟨h',q1,rfl,q3⟩:=bytes_m B (Nat.le_refl _) hA hs
  exact⟨h',I,q1,hA.keep q3,rfl⟩
 ·refine meth_ok (N:=4294967297+4) fun x I h args v x' hA hs=>?_
  obtain⟨h',q1,q3⟩:=fill_m A (Nat.le_refl _) hA hs
  exact⟨h',I,q1,q3,rfl⟩
 ·refine meth_ok (N:=4294967297+4) fun x I h args v x' hA hs=>?_
  obtain⟨h',q1,q3⟩:=put_m A (Nat.le_refl _) hA hs
  exact⟨h',I,q1,q3,rfl⟩
 ·refine meth_ok (N:=4294967297+7) fun x I h args v x' hA hs=>?_
  obtain⟨h',q1,q3⟩:=copy_m B (Nat.le_refl _) hA hs
  exact⟨h',I,q1,q3,rfl⟩
 ·refine meth_ok (N:=4294967297+7) fun x I h args v x' hA hs=>?_
  obtain⟨h',q1,q3⟩:=load_m B (Nat.le_refl _) hA hs
  exact⟨h',I,q1,q3,rfl⟩
 ·refine meth_ok (N:=0+1) fun x I h args v x' hA hs=>?_
  obtain⟨h',q1,q3⟩:=cap_m A hA hs
  exact⟨h',I,q1,q3,rfl⟩
 ·refine meth_ok (N:=4294967297+7) fun x I h args v x' hA hs=>?_
  obtain⟨h',q1,q3⟩:=store_m B (Nat.le_refl _) hA hs
  exact⟨h',I,q1,q3,rfl⟩
end Go.AI
