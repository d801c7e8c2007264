/- An arena opened anew: calls of told functions that show an arena by itself; Base, and the openings of lists, tags, bins: the walks. -/
import Derived.Test.YtodcomgkpifpfaaGreatDoorKRg
import Derived.Test.YtodcomgkpifpfaaGreatDoorKRi
set_option maxRecDepth 100000
namespace Go.AI
open Go.Proofs
open Go.Fo (Wd Un Pre)
variable {x:Ar}{S:List Nat}{off ka tb:Nat}{acts:List Value}{tbl t' t'':List (Nat×AObj Ar)}{nx n' n'' lo:Nat}
theorem liftH_rd{spec:Spec}{spec0:List Value→Option Value}{vs vs0:List Value}{v0 v:Value}{i:Nat}(h1:firstV vs=some i)(hl:look i tbl=some (.ext x))(hx:x.refuse<9223372036854775808)(h2:canL i vs=some vs0)(hs:spec x vs0=some (v0,x))(hb:backV i v0=some v) :
  liftH spec spec0 vs ⟨tbl,nx⟩=some (v,⟨tbl,nx⟩):=by
 have e:Nat.blt x.refuse 9223372036854775808=true:=by rw[blt_iff];exact decide_eq_true hx
 have hu:upd i (AObj.ext x) tbl=tbl:=upd_self hl
 simp only[liftH,h1,hl,e,cond_true,h2,hs,hb,hu]
section
variable {F:Nat→Option IFn}{cl:Nat→Bool}{hk:Hook Ar}{n:Nat}{K:List (Nat×Value)→Mem Ar→Prop}{env:List (Nat×Value)}{l:List (Option (Nat×Bool)×IOp)}
theorem WO.rdH{d:Option Nat}{f:Opd}{xs:List Opd}{kf i:Nat}{vs vs0:List Value}{v v0:Value}{spec:Spec}{spec0:List Value→Option Value}(hl:look i tbl=some (.ext x))(hx:x.refuse<9223372036854775808)
  (hs:spec x vs0=some (v0,x)) (hf:evo env f=some (.func (.func kf) #[] #[])) (hxs:evs env xs=some vs) (hh:hk kf=some (liftH spec spec0)) (h1:firstV vs=some i) (h2:canL i vs=some vs0)
  (hb:backV i v0=some v) (k:WO (run F cl hk (n+1)) l (putEnv d v env) ⟨[],tbl,nx⟩ K):WO (run F cl hk (n+1)) ((none,.call d f xs)::l) env ⟨[],tbl,nx⟩ K:=by
 refine .fcall (v:=v) (h:=⟨tbl,nx⟩) hf hxs ?_ k
 have he:vs++(#[]:Array Value).toList=vs:=List.append_nil vs
 rw[he,run_hook hh,liftH_rd h1 hl hx h2 hs hb]
end
abbrev vwA(i:Nat)(a s:Int):Value:=.agg ⟨[.pointer (some ⟨i,0,none⟩),.int .i64 a,.int .i64 s]⟩
theorem listOpen_run{hk:List (HookF Ar)}(hh:hookL hk 92=none){n i:Nat}{a s:Int}:∃u h',RF1 hk (n+1) 92 [vwA i a s] ⟨tbl,nx⟩=some (u,h')∧(u=vwA i a s∧Kp tbl nx h'.tbl h'.next):=by
 refine run_fn hh fListOpen (zL rfl) ?_
 dsimp only[iListOpen,argsE]
 refine WC.seq (WC.ops (WO.box (v:=vwA i a s) rfl rfl (WO.new (WO.nil (zN (WC.seq (WC.ops ?_)))))))
 have l1:look nx ((nx+1,AObj.cells [.pointer none,.int .i64 (.ofNat 0),.int .i64 (.ofNat 0)])::(nx,.cells [.pointer (some ⟨i,0,none⟩),.int .i64 a,.int .i64 s])::tbl)=some (.cells [.pointer (some ⟨i,0,none⟩),.int .i64 a,.int .i64 s]):=by
  rw[zC,if_neg (by show¬nx=nx+1;omega),zC,if_pos rfl]
 have l2:look (nx+1) ((nx+1,AObj.cells [.pointer none,.int .i64 (.ofNat 0),.int .i64 (.ofNat 0)])::(nx,.cells [.pointer (some ⟨i,0,none⟩),.int .i64 a,.int .i64 s])::tbl)=some (.cells [.pointer none,.int .i64 (.ofNat 0),.int .i64 (.ofNat 0)]):=by
  rw[zC,if_pos rfl]
 refine WO.load (v:=vwA i a s) rfl l1 rfl rfl rfl (WO.pure (v:=vwA i a s) rfl (WO.store (vs:=[.pointer (some ⟨i,0,none⟩),.int .i64 a,.int .i64 s]) (ob':=.cells [.pointer (some ⟨i,0,none⟩),.int .i64 a,.int .i64 s]) rfl rfl rfl rfl l2 rfl (zL rfl) rfl (WO.nil (zN (WC.ret ?_)))))
 rw[upd_head]
 refine⟨_,_,resV_cell rfl (mem_load (cs:=[.pointer (some ⟨i,0,none⟩),.int .i64 a,.int .i64 s]) (by rw[zC,if_pos rfl]) rfl rfl) rfl rfl,rfl,rfl,?_⟩
 exact(Kp.refl.cons (Nat.le_refl _) (Nat.le_succ _)).cons (Nat.le_succ _) (Nat.le_succ _)
theorem tagsOpen_run{hk:List (HookF Ar)}(hh:hookL hk 93=none){n i:Nat}{a s:Int}:∃u h',RF1 hk (n+1) 93 [vwA i a s] ⟨tbl,nx⟩=some (u,h')∧(u=vwA i a s∧Kp tbl nx h'.tbl h'.next):=by
 refine run_fn hh fTagsOpen (zL rfl) ?_
 dsimp only[iTagsOpen,argsE]
 refine WC.seq (WC.ops (WO.box (v:=vwA i a s) rfl rfl (WO.new (WO.nil (zN (WC.seq (WC.ops ?_)))))))
 have l1:look nx ((nx+1,AObj.cells [.pointer none,.int .i64 (.ofNat 0),.int .i64 (.ofNat 0)])::(nx,.cells [.pointer (some ⟨i,0,none⟩),.int .i64 a,.int .i64 s])::tbl)=some (.cells [.pointer (some ⟨i,0,none⟩),.int .i64 a,.int .i64 s]):=by
  rw[zC,if_neg (by show¬nx=nx+1;omega),zC,if_pos rfl]
 have l2:look (nx+1) ((nx+1,AObj.cells [.pointer none,.int .i64 (.ofNat 0),.int .i64 (.ofNat 0)])::(nx,.cells [.pointer (some ⟨i,0,none⟩),.int .i64 a,.int .i64 s])::tbl)=some (.cells [.pointer none,.int .i64 (.ofNat 0),.int .i64 (.ofNat 0)]):=by
  rw[zC,if_pos rfl]
 refine WO.load (v:=vwA i a s) rfl l1 rfl rfl rfl (WO.pure (v:=vwA i a s) rfl (WO.store (vs:=[.pointer (some ⟨i,0,none⟩),.int .i64 a,.int .i64 s]) (ob':=.cells [.pointer (some ⟨i,0,none⟩),.int .i64 a,.int .i64 s]) rfl rfl rfl rfl l2 rfl (zL rfl) rfl (WO.nil (zN (WC.ret ?_)))))
 rw[upd_head]
 refine⟨_,_,resV_cell rfl (mem_load (cs:=[.pointer (some ⟨i,0,none⟩),.int .i64 a,.int .i64 s]) (by rw[zC,if_pos rfl]) rfl rfl) rfl rfl,rfl,rfl,?_⟩
 exact(Kp.refl.cons (Nat.le_refl _) (Nat.le_succ _)).cons (Nat.le_succ _) (Nat.le_succ _)
theorem binsOpen_run{hk:List (HookF Ar)}(hh:hookL hk 60=none){n i:Nat}{a s:Int}:∃u h',RF1 hk (n+1) 60 [vwA i a s] ⟨tbl,nx⟩=some (u,h')∧(u=vwA i a s∧Kp tbl nx h'.tbl h'.next):=by
 refine run_fn hh fBinsOpen (zL rfl) ?_
 dsimp only[iBinsOpen,argsE]
 refine WC.seq (WC.ops (WO.box (v:=vwA i a s) rfl rfl (WO.new (WO.nil (zN (WC.seq (WC.ops ?_)))))))
 have l1:look nx ((nx+1,AObj.cells [.pointer none,.int .i64 (.ofNat 0),.int .i64 (.ofNat 0)])::(nx,.cells [.pointer (some ⟨i,0,none⟩),.int .i64 a,.int .i64 s])::tbl)=some (.cells [.pointer (some ⟨i,0,none⟩),.int .i64 a,.int .i64 s]):=by
  rw[zC,if_neg (by show¬nx=nx+1;omega),zC,if_pos rfl]
 have l2:look (nx+1) ((nx+1,AObj.cells [.pointer none,.int .i64 (.ofNat 0),.int .i64 (.ofNat 0)])::(nx,.cells [.pointer (some ⟨i,0,none⟩),.int .i64 a,.int .i64 s])::tbl)=some (.cells [.pointer none,.int .i64 (.ofNat 0),.int .i64 (.ofNat 0)]):=by
  rw[zC,if_pos rfl]
 refine WO.load (v:=vwA i a s) rfl l1 rfl rfl rfl (WO.pure (v:=vwA i a s) rfl (WO.store (vs:=[.pointer (some ⟨i,0,none⟩),.int .i64 a,.int .i64 s]) (ob':=.cells [.pointer (some ⟨i,0,none⟩),.int .i64 a,.int .i64 s]) rfl rfl rfl rfl l2 rfl (zL rfl) rfl (WO.nil (zN (WC.ret ?_)))))
 rw[upd_head]
 refine⟨_,_,resV_cell rfl (mem_load (cs:=[.pointer (some ⟨i,0,none⟩),.int .i64 a,.int .i64 s]) (by rw[zC,if_pos rfl]) rfl rfl) rfl rfl,rfl,rfl,?_⟩
 exact(Kp.refl.cons (Nat.le_refl _) (Nat.le_succ _)).cons (Nat.le_succ _) (Nat.le_succ _)
def budC(i:Nat)(base pages:Int)(h l t:List Value):List Value:=[.pointer (some ⟨i,0,none⟩),.int .i64 base,.int .i64 pages]++h++l++t
theorem base_run{hk:List (HookF Ar)}(hh:hookL hk 42=none){n b i:Nat}{base pages:Int}{h l t:List Value}(hb:look b tbl=some (.cells (budC i base pages h l t))):∃u h',RF1 hk (n+1) 42 [.pointer (some ⟨b,0,none⟩)] ⟨tbl,nx⟩=some (u,h')∧(u = .int .i64 base∧Kp tbl nx h'.tbl h'.next):=by
 refine run_fn hh fBBase (zL rfl) ?_
 dsimp only[iBBase,argsE]
 refine WC.seq (WC.ops (WO.mv rfl (WO.nil (zN (WC.seq (WC.seq (WC.ops (WO.mv rfl (WO.pure (v:=.bool false) rfl (WO.nil (zN (WC.cond_false rfl (WC.skip (zN (WC.seq (WC.ops ?_))))))))))))))))
 refine WO.mv rfl (WO.pure (v:=.pointer (some ⟨b,0,none⟩)) rfl (WO.fadd rfl (WO.load (v:=.int .i64 base) rfl hb rfl rfl rfl (WO.mv rfl (WO.nil (zN (WC.ret ⟨_,_,rfl,rfl,rfl,Kp.refl⟩)))))))
end Go.AI
/- How many pages are a buddy's own. -/
namespace Go.AI
open Go.Proofs
variable {S:List Nat}{tbl:List (Nat×AObj Ar)}{nx:Nat}
theorem own_run(n:Nat):RF1 (hP S) (n+5) 90 [vI 30] ⟨tbl,nx⟩=some (vI 1,⟨tbl,nx⟩):=by kernel_rfl
end Go.AI
/- A buddy opened anew: what its view's calls answer. -/
namespace Go.AI
open Go.Proofs
variable {x:Ar}{S:List Nat}{tbl:List (Nat×AObj Ar)}{nx i:Nat}
theorem canP:canL i [.pointer (some ⟨i,0,none⟩)]=some [pA]:=by
 simp only[canL,canV,canF,Nat.beq_refl,cond_true]
theorem canP2{a s:Int}:canL i [.pointer (some ⟨i,0,none⟩),.int .i64 a,.int .i64 s]=some [pA,.int .i64 a,.int .i64 s]:=by
 simp only[canL,canV,canF,Nat.beq_refl,cond_true]
theorem canW{a s b m:Int}:canL i [vwA i a s,.int .i64 b,.int .i64 m]=some [vwC a s,.int .i64 b,.int .i64 m]:=by
 simp only[canL,canV,canFs,canF,Nat.beq_refl,cond_true]
theorem Bd.by0(h:Bd x){o k:Nat}(hk:o+k≤4096):bytesE x (.ofNat o) (.ofNat k)=0:=by
 obtain⟨P,hP⟩:=h.p0
 have:=bytesE_in (off:=o) (k:=k) hP hk
 rwa [Nat.mul_zero,Nat.zero_add] at this
theorem Bd.by1(h:Bd x){k:Nat}(hk:k≤4096):bytesE x (.ofNat 4096) (.ofNat k)=0:=by
 obtain⟨P,hP⟩:=h.p1
 exact bytesE_in (off:=0) (k:=k) hP (by omega)
theorem Bd.cap(h:Bd x):spAm capS x [pA]=some (vI 30,x):=by
 show some (Value.int .i64 (Int.ofNat x.pages.length),x)=_
 rw[h.len]
theorem Bd.of0(h:Bd x){o k:Nat}(hk:o+k≤4096):spVOf x [pA,vI o,vI k]=some (.tuple ⟨[vwC (.ofNat o) (.ofNat k),errV 0]⟩,x):=by
 simp only[spVOf,h.by0 hk]
theorem Bd.of1(h:Bd x):spVOf x [pA,vI 4096,vI 64]=some (.tuple ⟨[vwC (.ofNat 4096) (.ofNat 64),errV 0]⟩,x):=by
 simp only[spVOf,h.by1 (k:=64) (by decide)]
theorem Bd.part1(h:Bd x):spVPart x [vwC (.ofNat 0) (.ofNat 286),vI 0,vI 256]=some (.tuple ⟨[vwC (.ofNat 0) (.ofNat 256),errV 0]⟩,x):=h.of0 (o:=0) (k:=256) (by decide)
theorem Bd.part2(h:Bd x):spVPart x [vwC (.ofNat 0) (.ofNat 286),vI 0,vI 88]=some (.tuple ⟨[vwC (.ofNat 0) (.ofNat 88),errV 0]⟩,x):=h.of0 (o:=0) (k:=88) (by decide)
theorem Bd.part3(h:Bd x):spVPart x [vwC (.ofNat 0) (.ofNat 286),vI 257,vI 29]=some (.tuple ⟨[vwC (.ofNat 257) (.ofNat 29),errV 0]⟩,x):=h.of0 (o:=257) (k:=29) (by decide)
theorem Bd.mark(h:Bd x):spVLoad x [vwC (.ofNat 0) (.ofNat 256),vI 104,vI 8]=some (.tuple ⟨[numV 6432341300767115597,errV 0]⟩,x):=by
 show some (Value.tuple ⟨[numV (loadV x (.ofNat 104) (.ofNat 8)),errV (loadE x (.ofNat 104) (.ofNat 8))]⟩,x)=_
 have e:loadE x (.ofNat 104) (.ofNat 8)=0:=h.by0 (o:=104) (k:=8) (by decide)
 rw[h.mg,e]
end Go.AI
/- A buddy opened anew: the walk, first part. -/
namespace Go.AI
open Go.Proofs
variable {x:Ar}{S:List Nat}{tbl:List (Nat×AObj Ar)}{nx i:Nat}
theorem bof_run(hb:Bd x)(hx:x.refuse<9223372036854775808)(hl:look i tbl=some (.ext x))(hi:i<nx){n:Nat}(hn:1001≤n) :
  ∃u h',RF1 (hP S) (n+7) 56 [.pointer (some ⟨i,0,none⟩)] ⟨tbl,nx⟩=some (u,h')∧(∃b,nx≤b∧b<h'.next∧u = .tuple ⟨[.pointer (some ⟨b,0,none⟩),.bool true]⟩ ∧
   look b h'.tbl=some (.cells (budC i 1 29 [.pointer (some ⟨i,0,none⟩),vI 0,vI 256] [.pointer (some ⟨i,0,none⟩),vI 0,vI 88] [.pointer (some ⟨i,0,none⟩),vI 257,vI 29]))∧Kp tbl nx h'.tbl h'.next):=by
 refine run_fn rfl fBOf (zL rfl) ?_
 dsimp only[iBOf,argsE]
 refine WC.seq (WC.ops (WO.mv rfl (WO.mv rfl (WO.nil (zN (WC.seq (WC.ops (WO.mv rfl ?_))))))))
 refine WO.rdH hl hx hb.cap rfl rfl rfl rfl canP rfl ?_
 refine WO.fcall (v:=vI 1) (h:=⟨tbl,nx⟩) (vs:=[vI 30]) rfl rfl (own_run (n+1)) ?_
 refine WO.mv rfl (WO.nil (zN (WC.seq (WC.ops (WO.mv rfl (WO.mv rfl (WO.mv rfl ?_)))))))
 refine WO.rdH hl hx hb.cap rfl rfl rfl rfl canP rfl ?_
 refine WO.mv rfl (WO.pure (v:=vI 29) rfl (WO.pure (v:=.agg ⟨budC i 1 29 [.pointer none,vI 0,vI 0] [.pointer none,vI 0,vI 0] [.pointer none,vI 0,vI 0]⟩) rfl (WO.box rfl rfl (WO.mv rfl (WO.nil (zN (WC.seq (WC.ops ?_))))))))
 have hl1:look i ((nx,AObj.cells (budC i 1 29 [.pointer none,vI 0,vI 0] [.pointer none,vI 0,vI 0] [.pointer none,vI 0,vI 0]))::tbl)=some (.ext x):=by rw[zC,if_neg (by show¬i=nx;omega)];exact hl
 refine WO.mv rfl (WO.mv rfl (WO.rdH hl1 hx hb.cap rfl rfl rfl rfl canP rfl (WO.pure (v:=vI 286) rfl ?_)))
 refine WO.rdH hl1 hx (hb.of0 (o:=0) (k:=286) (by decide)) rfl rfl rfl rfl canP2 rfl ?_
 refine WO.mv rfl (WO.pure (v:=vwA i (.ofNat 0) (.ofNat 286)) rfl (WO.pure (v:=vI 0) rfl (WO.new (WO.step (i:=.store 3 (.t 6) (.t 29)) (v:=undef) (m':=⟨[],(nx+1,.cells [.pointer (some ⟨i,0,none⟩),vI 0,vI 286])::(nx,.cells (budC i 1 29 [.pointer none,vI 0,vI 0] [.pointer none,vI 0,vI 0] [.pointer none,vI 0,vI 0]))::tbl,nx+1+1⟩) ?_ ?_))))
 ·have hs:=mem_store (nx:=nx+1+1) (vs:=[.pointer (some ⟨i,0,none⟩),vI 0,vI 286]) (o:=0) (ob':=.cells [.pointer (some ⟨i,0,none⟩),vI 0,vI 286]) (tbl:=(nx+1,.cells [.pointer none,.int .i64 (.ofNat 0),.int .i64 (.ofNat 0)])::(nx,AObj.cells (budC i 1 29 [.pointer none,vI 0,vI 0] [.pointer none,vI 0,vI 0] [.pointer none,vI 0,vI 0]))::tbl) (i:=nx+1) (by rw[zC,if_pos rfl]) rfl (zL rfl) rfl
  rw[upd_head] at hs
  exact estep_store rfl rfl rfl rfl hs
 refine WO.mv rfl (WO.nil (zN (WC.seq (WC.seq (WC.ops (WO.mv rfl (WO.pure (v:=.bool false) rfl (WO.mv rfl (WO.take rfl rfl (WO.mv rfl (WO.take rfl rfl (WO.pure (v:=.pointer (some ⟨nx,0,none⟩)) rfl (WO.take rfl rfl (WO.fadd rfl (WO.take rfl rfl ?_)))))))))))))))
 have l5:look nx ((nx+1,AObj.cells [.pointer (some ⟨i,0,none⟩),vI 0,vI 286])::(nx,.cells (budC i 1 29 [.pointer none,vI 0,vI 0] [.pointer none,vI 0,vI 0] [.pointer none,vI 0,vI 0]))::tbl)=some (.cells (budC i 1 29 [.pointer none,vI 0,vI 0] [.pointer none,vI 0,vI 0] [.pointer none,vI 0,vI 0])):=by rw[zC,if_neg (by show¬nx=nx+1;omega),zC,if_pos rfl]
 refine WO.load (v:=vI 29) rfl l5 rfl rfl rfl (WO.take rfl rfl (WO.pure (v:=.bool false) rfl (WO.pure (v:=.bool false) rfl (WO.nil (zN (WC.cond_false rfl (WC.skip (zN (WC.seq (WC.ops ?_))))))))))
 have hl2:look i ((nx+1,AObj.cells [.pointer (some ⟨i,0,none⟩),vI 0,vI 286])::(nx,.cells (budC i 1 29 [.pointer none,vI 0,vI 0] [.pointer none,vI 0,vI 0] [.pointer none,vI 0,vI 0]))::tbl)=some (.ext x):=by rw[zC,if_neg (by show¬i=nx+1;omega)];exact hl1
 have l6:look (nx+1) ((nx+1,AObj.cells [.pointer (some ⟨i,0,none⟩),vI 0,vI 286])::(nx,.cells (budC i 1 29 [.pointer none,vI 0,vI 0] [.pointer none,vI 0,vI 0] [.pointer none,vI 0,vI 0]))::tbl)=some (.cells [.pointer (some ⟨i,0,none⟩),vI 0,vI 286]):=by rw[zC,if_pos rfl]
 refine WO.mv rfl (WO.load (v:=vwA i (.ofNat 0) (.ofNat 286)) rfl l6 rfl rfl rfl (WO.rdH hl2 hx hb.part1 rfl rfl rfl rfl canW rfl ?_))
 refine WO.mv rfl (WO.pure (v:=vwA i (.ofNat 0) (.ofNat 256)) rfl (WO.pure (v:=vI 0) rfl (WO.pure (v:=.pointer (some ⟨nx,0,none⟩)) rfl (WO.fadd rfl (WO.step (i:=.store 3 (.t 47) (.t 44)) (v:=undef) (m':=⟨[],(nx+1,.cells [.pointer (some ⟨i,0,none⟩),vI 0,vI 286])::(nx,.cells (budC i 1 29 [.pointer (some ⟨i,0,none⟩),vI 0,vI 256] [.pointer none,vI 0,vI 0] [.pointer none,vI 0,vI 0]))::tbl,nx+1+1⟩) ?_ ?_)))))
 ·have hs:=mem_store (nx:=nx+1+1) (vs:=[.pointer (some ⟨i,0,none⟩),vI 0,vI 256]) (o:=0+3) (ob':=.cells (budC i 1 29 [.pointer (some ⟨i,0,none⟩),vI 0,vI 256] [.pointer none,vI 0,vI 0] [.pointer none,vI 0,vI 0])) l5 rfl (zL rfl) rfl
  rw[upd_next (by omega),upd_head] at hs
  exact estep_store rfl rfl rfl rfl hs
 have hl3:look i ((nx+1,AObj.cells [.pointer (some ⟨i,0,none⟩),vI 0,vI 286])::(nx,.cells (budC i 1 29 [.pointer (some ⟨i,0,none⟩),vI 0,vI 256] [.pointer none,vI 0,vI 0] [.pointer none,vI 0,vI 0]))::tbl)=some (.ext x):=by rw[zC,if_neg (by show¬i=nx+1;omega),zC,if_neg (by show¬i=nx;omega)];exact hl
 have l7:look (nx+1) ((nx+1,AObj.cells [.pointer (some ⟨i,0,none⟩),vI 0,vI 286])::(nx,.cells (budC i 1 29 [.pointer (some ⟨i,0,none⟩),vI 0,vI 256] [.pointer none,vI 0,vI 0] [.pointer none,vI 0,vI 0]))::tbl)=some (.cells [.pointer (some ⟨i,0,none⟩),vI 0,vI 286]):=by rw[zC,if_pos rfl]
 refine WO.nil (zN (WC.seq (WC.ops (WO.load (v:=vwA i (.ofNat 0) (.ofNat 286)) rfl l7 rfl rfl rfl (WO.rdH hl3 hx hb.part2 rfl rfl rfl rfl canW rfl ?_)))))
 refine WO.mv rfl (WO.pure (v:=vwA i (.ofNat 0) (.ofNat 88)) rfl (WO.pure (v:=vI 0) rfl (WO.new (WO.step (i:=.store 3 (.t 8) (.t 51)) (v:=undef) (m':=⟨[],(nx+1+1,.cells [.pointer (some ⟨i,0,none⟩),vI 0,vI 88])::(nx+1,.cells [.pointer (some ⟨i,0,none⟩),vI 0,vI 286])::(nx,.cells (budC i 1 29 [.pointer (some ⟨i,0,none⟩),vI 0,vI 256] [.pointer none,vI 0,vI 0] [.pointer none,vI 0,vI 0]))::tbl,nx+1+1+1⟩) ?_ ?_))))
 ·have hs:=mem_store (nx:=nx+1+1+1) (vs:=[.pointer (some ⟨i,0,none⟩),vI 0,vI 88]) (o:=0) (ob':=.cells [.pointer (some ⟨i,0,none⟩),vI 0,vI 88]) (tbl:=(nx+1+1,.cells [.pointer none,.int .i64 (.ofNat 0),.int .i64 (.ofNat 0)])::(nx+1,AObj.cells [.pointer (some ⟨i,0,none⟩),vI 0,vI 286])::(nx,.cells (budC i 1 29 [.pointer (some ⟨i,0,none⟩),vI 0,vI 256] [.pointer none,vI 0,vI 0] [.pointer none,vI 0,vI 0]))::tbl) (i:=nx+1+1) (by rw[zC,if_pos rfl]) rfl (zL rfl) rfl
  rw[upd_head] at hs
  exact estep_store rfl rfl rfl rfl hs
 refine WO.mv rfl (WO.nil (zN (WC.seq (WC.drawnW ?_))))
 have hl4:look i ((nx+1+1,AObj.cells [.pointer (some ⟨i,0,none⟩),vI 0,vI 88])::(nx+1,.cells [.pointer (some ⟨i,0,none⟩),vI 0,vI 286])::(nx,.cells (budC i 1 29 [.pointer (some ⟨i,0,none⟩),vI 0,vI 256] [.pointer none,vI 0,vI 0] [.pointer none,vI 0,vI 0]))::tbl)=some (.ext x):=by rw[zC,if_neg (by show¬i=nx+1+1;omega)];exact hl3
 have l8:look (nx+1) ((nx+1+1,AObj.cells [.pointer (some ⟨i,0,none⟩),vI 0,vI 88])::(nx+1,.cells [.pointer (some ⟨i,0,none⟩),vI 0,vI 286])::(nx,.cells (budC i 1 29 [.pointer (some ⟨i,0,none⟩),vI 0,vI 256] [.pointer none,vI 0,vI 0] [.pointer none,vI 0,vI 0]))::tbl)=some (.cells [.pointer (some ⟨i,0,none⟩),vI 0,vI 286]):=by rw[zC,if_neg (by show¬nx+1=nx+1+1;omega)];exact l7
 have l9:look nx ((nx+1+1,AObj.cells [.pointer (some ⟨i,0,none⟩),vI 0,vI 88])::(nx+1,.cells [.pointer (some ⟨i,0,none⟩),vI 0,vI 286])::(nx,.cells (budC i 1 29 [.pointer (some ⟨i,0,none⟩),vI 0,vI 256] [.pointer none,vI 0,vI 0] [.pointer none,vI 0,vI 0]))::tbl)=some (.cells (budC i 1 29 [.pointer (some ⟨i,0,none⟩),vI 0,vI 256] [.pointer none,vI 0,vI 0] [.pointer none,vI 0,vI 0])):=by rw[zC,if_neg (by show¬nx=nx+1+1;omega),zC,if_neg (by show¬nx=nx+1;omega),zC,if_pos rfl]
 have la:look (nx+1+1) ((nx+1+1,AObj.cells [.pointer (some ⟨i,0,none⟩),vI 0,vI 88])::(nx+1,.cells [.pointer (some ⟨i,0,none⟩),vI 0,vI 286])::(nx,.cells (budC i 1 29 [.pointer (some ⟨i,0,none⟩),vI 0,vI 256] [.pointer none,vI 0,vI 0] [.pointer none,vI 0,vI 0]))::tbl)=some (.cells [.pointer (some ⟨i,0,none⟩),vI 0,vI 88]):=by rw[zC,if_pos rfl]
 generalize ht4:((nx+1+1,AObj.cells [.pointer (some ⟨i,0,none⟩),vI 0,vI 88])::(nx+1,.cells [.pointer (some ⟨i,0,none⟩),vI 0,vI 286])::(nx,.cells (budC i 1 29 [.pointer (some ⟨i,0,none⟩),vI 0,vI 256] [.pointer none,vI 0,vI 0] [.pointer none,vI 0,vI 0]))::tbl)=t4 at hl4 l8 l9 la ⊢
 have hc3:RF1 (hP S) (n+6) 75 [vwA i (.ofNat 0) (.ofNat 286),vI 257,vI 29] ⟨t4,nx+1+1+1+14⟩=some (.tuple ⟨[vwA i (.ofNat 257) (.ofNat 29),errV 0]⟩,⟨t4,nx+1+1+1+14⟩):=by
  refine(run_hook (n:=n+5) (g:=liftH spVPart _) rfl).trans ?_
  exact liftH_rd rfl hl4 hx canW hb.part3 rfl
 have ld8:∀m,(⟨[],t4,m⟩:Mem Ar).load ⟨nx+1,0,none⟩ 3=some [.pointer (some ⟨i,0,none⟩),vI 0,vI 286]:=fun m=>mem_load l8 rfl rfl
 have ld9:∀m,(⟨[],t4,m⟩:Mem Ar).load ⟨nx,0+2,none⟩ 1=some [vI 29]:=fun m=>mem_load l9 rfl rfl
 refine WD.load (m:=⟨[],t4,nx+1+1+1+14⟩) (ms:=[]) (v:=vwA i (.ofNat 0) (.ofNat 286)) rfl (ld8 _) rfl (WD.pure rfl (WD.pure (v:=vI 257) rfl (WD.pure rfl (WD.pure (v:=.pointer (some ⟨nx,0,none⟩)) rfl (WD.pure (pv_faddZ rfl) (WD.load (m:=⟨[],t4,nx+1+1+1+14⟩) (ms:=[]) (v:=vI 29) rfl (ld9 _) rfl ?_))))))
 refine WD.chn (m:=⟨[],t4,nx+1+1+1+14⟩) (m':=⟨[],t4,nx+1+1+1+14⟩) rfl rfl rfl (estep_call (m:=⟨[],t4,nx+1+1+1+14⟩) (h:=⟨t4,nx+1+1+1+14⟩) (vs:=[vwA i (.ofNat 0) (.ofNat 286),vI 257,vI 29]) rfl rfl hc3) ?_
 refine WD.pure rfl (WD.pure (v:=vwA i (.ofNat 257) (.ofNat 29)) rfl (WD.pure (v:=vI 0) rfl (WD.alloc rfl rfl ?_)))
 have hst:(⟨[],(nx+1+1+1+11,.cells [.pointer none,.int .i64 (.ofNat 0),.int .i64 (.ofNat 0)])::t4,nx+1+1+1+14⟩:Mem Ar).store ⟨nx+1+1+1+11,0,none⟩ [.pointer (some ⟨i,0,none⟩),vI 257,vI 29]=some ⟨[],(nx+1+1+1+11,.cells [.pointer (some ⟨i,0,none⟩),vI 257,vI 29])::t4,nx+1+1+1+14⟩:=by
  have hs:=mem_store (nx:=nx+1+1+1+14) (vs:=[.pointer (some ⟨i,0,none⟩),vI 257,vI 29]) (o:=0) (ob':=.cells [.pointer (some ⟨i,0,none⟩),vI 257,vI 29]) (tbl:=(nx+1+1+1+11,.cells [.pointer none,.int .i64 (.ofNat 0),.int .i64 (.ofNat 0)])::t4) (i:=nx+1+1+1+11) (by rw[zC,if_pos rfl]) rfl (zL rfl) rfl
  rw[upd_head] at hs
  exact hs
 refine WD.chn (m:=⟨[],t4,nx+1+1+1+14⟩) (m':=⟨[],(nx+1+1+1+11,.cells [.pointer (some ⟨i,0,none⟩),vI 257,vI 29])::t4,nx+1+1+1+14⟩) (v:=undef) rfl rfl rfl (estep_store (vs:=[.pointer (some ⟨i,0,none⟩),vI 257,vI 29]) rfl rfl rfl rfl hst) ?_
 refine WD.pure rfl (WD.nil ⟨?_,_,_,rfl,?_⟩)
 ·have ls8:(⟨[],(nx+1+1+1+11,.cells [.pointer (some ⟨i,0,none⟩),vI 257,vI 29])::t4,nx+1+1+1+14⟩:Mem Ar).load ⟨nx+1,0,none⟩ 3=some [.pointer (some ⟨i,0,none⟩),vI 0,vI 286]:=mem_load (by rw[zC,if_neg (by show¬nx+1=nx+1+1+1+11;omega)];exact l8) rfl rfl
  have ls9:(⟨[],(nx+1+1+1+11,.cells [.pointer (some ⟨i,0,none⟩),vI 257,vI 29])::t4,nx+1+1+1+14⟩:Mem Ar).load ⟨nx,0+2,none⟩ 1=some [vI 29]:=mem_load (by rw[zC,if_neg (by show¬nx=nx+1+1+1+11;omega)];exact l9) rfl rfl
  have cv:ceqs ([.pointer (some ⟨i,0,none⟩),vI 0,vI 286]:List Value) [.pointer (some ⟨i,0,none⟩),vI 0,vI 286]=true:=by simp[ceqs,ceq,ieqF_refl]
  have ci:ceqs [vI 29] [vI 29]=true:=ceqs_int _ _
  simp only[heldAll,loadsIn,ld8,ld9,ls8,ls9,cv,ci]
  rfl
 have lA:look (nx+1+1) ((nx+1+1+1+11,AObj.cells [.pointer (some ⟨i,0,none⟩),vI 257,vI 29])::t4)=some (.cells [.pointer (some ⟨i,0,none⟩),vI 0,vI 88]):=by rw[zC,if_neg (by show¬nx+1+1=nx+1+1+1+11;omega)];exact la
 have lB:look (nx+1+1+1+11) ((nx+1+1+1+11,AObj.cells [.pointer (some ⟨i,0,none⟩),vI 257,vI 29])::t4)=some (.cells [.pointer (some ⟨i,0,none⟩),vI 257,vI 29]):=by rw[zC,if_pos rfl]
 have lC:look nx ((nx+1+1+1+11,AObj.cells [.pointer (some ⟨i,0,none⟩),vI 257,vI 29])::t4)=some (.cells (budC i 1 29 [.pointer (some ⟨i,0,none⟩),vI 0,vI 256] [.pointer none,vI 0,vI 0] [.pointer none,vI 0,vI 0])):=by rw[zC,if_neg (by show¬nx=nx+1+1+1+11;omega)];exact l9
 generalize ht5:((nx+1+1+1+11,AObj.cells [.pointer (some ⟨i,0,none⟩),vI 257,vI 29])::t4)=t5 at lA lB lC ⊢
 obtain⟨u1,⟨t6,n6⟩,hd1,rfl,k1⟩:=listOpen_run (hk:=hP S) (tbl:=t5) (nx:=nx+1+1+1+14+12) (i:=i) (a:=.ofNat 0) (s:=.ofNat 88) (n:=n+5) rfl
 obtain⟨u2,⟨t7,n7⟩,hd2,rfl,k2⟩:=tagsOpen_run (hk:=hP S) (tbl:=t6) (nx:=n6) (i:=i) (a:=.ofNat 257) (s:=.ofNat 29) (n:=n+5) rfl
 refine zN (WC.seq (WC.drawnW ?_))
 dsimp only at k1 k2
 have q1:=k1.1
 have q2:=k2.1
 have a6:look (nx+1+1) t6=some (.cells [.pointer (some ⟨i,0,none⟩),vI 0,vI 88]):=(k1.2 _ (by omega)).trans lA
 have a7:look (nx+1+1) t7=some (.cells [.pointer (some ⟨i,0,none⟩),vI 0,vI 88]):=(k2.2 _ (by omega)).trans a6
 have b6:look (nx+1+1+1+11) t6=some (.cells [.pointer (some ⟨i,0,none⟩),vI 257,vI 29]):=(k1.2 _ (by omega)).trans lB
 have b7:look (nx+1+1+1+11) t7=some (.cells [.pointer (some ⟨i,0,none⟩),vI 257,vI 29]):=(k2.2 _ (by omega)).trans b6
 have c6:look nx t6=some (.cells (budC i 1 29 [.pointer (some ⟨i,0,none⟩),vI 0,vI 256] [.pointer none,vI 0,vI 0] [.pointer none,vI 0,vI 0])):=(k1.2 _ (by omega)).trans lC
 have c7:look nx t7=some (.cells (budC i 1 29 [.pointer (some ⟨i,0,none⟩),vI 0,vI 256] [.pointer none,vI 0,vI 0] [.pointer none,vI 0,vI 0])):=(k2.2 _ (by omega)).trans c6
 have a8:look (nx+1+1) (upd nx (AObj.cells (budC i 1 29 [.pointer (some ⟨i,0,none⟩),vI 0,vI 256] [.pointer (some ⟨i,0,none⟩),vI 0,vI 88] [.pointer none,vI 0,vI 0])) t7)=some (.cells [.pointer (some ⟨i,0,none⟩),vI 0,vI 88]):=(zU (by omega)).trans a7
 have b8:look (nx+1+1+1+11) (upd nx (AObj.cells (budC i 1 29 [.pointer (some ⟨i,0,none⟩),vI 0,vI 256] [.pointer (some ⟨i,0,none⟩),vI 0,vI 88] [.pointer none,vI 0,vI 0])) t7)=some (.cells [.pointer (some ⟨i,0,none⟩),vI 257,vI 29]):=(zU (by omega)).trans b7
 have c8:look nx (upd nx (AObj.cells (budC i 1 29 [.pointer (some ⟨i,0,none⟩),vI 0,vI 256] [.pointer (some ⟨i,0,none⟩),vI 0,vI 88] [.pointer none,vI 0,vI 0])) t7)=some (.cells (budC i 1 29 [.pointer (some ⟨i,0,none⟩),vI 0,vI 256] [.pointer (some ⟨i,0,none⟩),vI 0,vI 88] [.pointer none,vI 0,vI 0])):=zS c7
 have a9:look (nx+1+1) (upd nx (AObj.cells (budC i 1 29 [.pointer (some ⟨i,0,none⟩),vI 0,vI 256] [.pointer (some ⟨i,0,none⟩),vI 0,vI 88] [.pointer (some ⟨i,0,none⟩),vI 257,vI 29])) (upd nx (AObj.cells (budC i 1 29 [.pointer (some ⟨i,0,none⟩),vI 0,vI 256] [.pointer (some ⟨i,0,none⟩),vI 0,vI 88] [.pointer none,vI 0,vI 0])) t7))=some (.cells [.pointer (some ⟨i,0,none⟩),vI 0,vI 88]):=(zU (by omega)).trans a8
 have b9:look (nx+1+1+1+11) (upd nx (AObj.cells (budC i 1 29 [.pointer (some ⟨i,0,none⟩),vI 0,vI 256] [.pointer (some ⟨i,0,none⟩),vI 0,vI 88] [.pointer (some ⟨i,0,none⟩),vI 257,vI 29])) (upd nx (AObj.cells (budC i 1 29 [.pointer (some ⟨i,0,none⟩),vI 0,vI 256] [.pointer (some ⟨i,0,none⟩),vI 0,vI 88] [.pointer none,vI 0,vI 0])) t7))=some (.cells [.pointer (some ⟨i,0,none⟩),vI 257,vI 29]):=(zU (by omega)).trans b8
 have c9:look nx (upd nx (AObj.cells (budC i 1 29 [.pointer (some ⟨i,0,none⟩),vI 0,vI 256] [.pointer (some ⟨i,0,none⟩),vI 0,vI 88] [.pointer (some ⟨i,0,none⟩),vI 257,vI 29])) (upd nx (AObj.cells (budC i 1 29 [.pointer (some ⟨i,0,none⟩),vI 0,vI 256] [.pointer (some ⟨i,0,none⟩),vI 0,vI 88] [.pointer none,vI 0,vI 0])) t7))=some (.cells (budC i 1 29 [.pointer (some ⟨i,0,none⟩),vI 0,vI 256] [.pointer (some ⟨i,0,none⟩),vI 0,vI 88] [.pointer (some ⟨i,0,none⟩),vI 257,vI 29])):=zS c8
 have s1:(⟨[],t7,n7⟩:Mem Ar).store ⟨nx,0+6,none⟩ [.pointer (some ⟨i,0,none⟩),vI 0,vI 88]=some ⟨[],upd nx (AObj.cells (budC i 1 29 [.pointer (some ⟨i,0,none⟩),vI 0,vI 256] [.pointer (some ⟨i,0,none⟩),vI 0,vI 88] [.pointer none,vI 0,vI 0])) t7,n7⟩:=mem_store (ob':=.cells (budC i 1 29 [.pointer (some ⟨i,0,none⟩),vI 0,vI 256] [.pointer (some ⟨i,0,none⟩),vI 0,vI 88] [.pointer none,vI 0,vI 0])) c7 rfl (zL rfl) rfl
 have s2:(⟨[],upd nx (AObj.cells (budC i 1 29 [.pointer (some ⟨i,0,none⟩),vI 0,vI 256] [.pointer (some ⟨i,0,none⟩),vI 0,vI 88] [.pointer none,vI 0,vI 0])) t7,n7⟩:Mem Ar).store ⟨nx,0+9,none⟩ [.pointer (some ⟨i,0,none⟩),vI 257,vI 29]=some ⟨[],upd nx (AObj.cells (budC i 1 29 [.pointer (some ⟨i,0,none⟩),vI 0,vI 256] [.pointer (some ⟨i,0,none⟩),vI 0,vI 88] [.pointer (some ⟨i,0,none⟩),vI 257,vI 29])) (upd nx (AObj.cells (budC i 1 29 [.pointer (some ⟨i,0,none⟩),vI 0,vI 256] [.pointer (some ⟨i,0,none⟩),vI 0,vI 88] [.pointer none,vI 0,vI 0])) t7),n7⟩:=mem_store (ob':=.cells (budC i 1 29 [.pointer (some ⟨i,0,none⟩),vI 0,vI 256] [.pointer (some ⟨i,0,none⟩),vI 0,vI 88] [.pointer (some ⟨i,0,none⟩),vI 257,vI 29])) c8 rfl (zL rfl) rfl
 have xa5:∀m,(⟨[],t5,m⟩:Mem Ar).load ⟨nx+1+1,0,none⟩ 3=some [.pointer (some ⟨i,0,none⟩),vI 0,vI 88]:=fun m=>mem_load lA rfl rfl
 have xa6:(⟨[],t6,n6⟩:Mem Ar).load ⟨nx+1+1,0,none⟩ 3=some [.pointer (some ⟨i,0,none⟩),vI 0,vI 88]:=mem_load a6 rfl rfl
 have xa7:(⟨[],t7,n7⟩:Mem Ar).load ⟨nx+1+1,0,none⟩ 3=some [.pointer (some ⟨i,0,none⟩),vI 0,vI 88]:=mem_load a7 rfl rfl
 have xa8:(⟨[],upd nx (AObj.cells (budC i 1 29 [.pointer (some ⟨i,0,none⟩),vI 0,vI 256] [.pointer (some ⟨i,0,none⟩),vI 0,vI 88] [.pointer none,vI 0,vI 0])) t7,n7⟩:Mem Ar).load ⟨nx+1+1,0,none⟩ 3=some [.pointer (some ⟨i,0,none⟩),vI 0,vI 88]:=mem_load a8 rfl rfl
 have xa9:(⟨[],upd nx (AObj.cells (budC i 1 29 [.pointer (some ⟨i,0,none⟩),vI 0,vI 256] [.pointer (some ⟨i,0,none⟩),vI 0,vI 88] [.pointer (some ⟨i,0,none⟩),vI 257,vI 29])) (upd nx (AObj.cells (budC i 1 29 [.pointer (some ⟨i,0,none⟩),vI 0,vI 256] [.pointer (some ⟨i,0,none⟩),vI 0,vI 88] [.pointer none,vI 0,vI 0])) t7),n7⟩:Mem Ar).load ⟨nx+1+1,0,none⟩ 3=some [.pointer (some ⟨i,0,none⟩),vI 0,vI 88]:=mem_load a9 rfl rfl
 have xb5:∀m,(⟨[],t5,m⟩:Mem Ar).load ⟨nx+1+1+1+11,0,none⟩ 3=some [.pointer (some ⟨i,0,none⟩),vI 257,vI 29]:=fun m=>mem_load lB rfl rfl
 have xb6:(⟨[],t6,n6⟩:Mem Ar).load ⟨nx+1+1+1+11,0,none⟩ 3=some [.pointer (some ⟨i,0,none⟩),vI 257,vI 29]:=mem_load b6 rfl rfl
 have xb7:(⟨[],t7,n7⟩:Mem Ar).load ⟨nx+1+1+1+11,0,none⟩ 3=some [.pointer (some ⟨i,0,none⟩),vI 257,vI 29]:=mem_load b7 rfl rfl
 have xb8:(⟨[],upd nx (AObj.cells (budC i 1 29 [.pointer (some ⟨i,0,none⟩),vI 0,vI 256] [.pointer (some ⟨i,0,none⟩),vI 0,vI 88] [.pointer none,vI 0,vI 0])) t7,n7⟩:Mem Ar).load ⟨nx+1+1+1+11,0,none⟩ 3=some [.pointer (some ⟨i,0,none⟩),vI 257,vI 29]:=mem_load b8 rfl rfl
 have xb9:(⟨[],upd nx (AObj.cells (budC i 1 29 [.pointer (some ⟨i,0,none⟩),vI 0,vI 256] [.pointer (some ⟨i,0,none⟩),vI 0,vI 88] [.pointer (some ⟨i,0,none⟩),vI 257,vI 29])) (upd nx (AObj.cells (budC i 1 29 [.pointer (some ⟨i,0,none⟩),vI 0,vI 256] [.pointer (some ⟨i,0,none⟩),vI 0,vI 88] [.pointer none,vI 0,vI 0])) t7),n7⟩:Mem Ar).load ⟨nx+1+1+1+11,0,none⟩ 3=some [.pointer (some ⟨i,0,none⟩),vI 257,vI 29]:=mem_load b9 rfl rfl
 refine WD.pure rfl (WD.pure rfl (WD.load (m:=⟨[],t5,nx+1+1+1+14+12⟩) (ms:=[]) (v:=vwA i (.ofNat 0) (.ofNat 88)) rfl (xa5 _) rfl ?_))
 refine WD.chn (m:=⟨[],t5,nx+1+1+1+14+12⟩) (m':=⟨[],t6,n6⟩) rfl rfl rfl (estep_call (m:=⟨[],t5,nx+1+1+1+14+12⟩) (h:=⟨t6,n6⟩) (vs:=[vwA i (.ofNat 0) (.ofNat 88)]) rfl rfl hd1) ?_
 refine WD.load (m:=⟨[],t6,n6⟩) (v:=vwA i (.ofNat 257) (.ofNat 29)) rfl xb6 rfl ?_
 refine WD.chn (m:=⟨[],t6,n6⟩) (m':=⟨[],t7,n7⟩) rfl rfl rfl (estep_call (m:=⟨[],t6,n6⟩) (h:=⟨t7,n7⟩) (vs:=[vwA i (.ofNat 257) (.ofNat 29)]) rfl rfl hd2) ?_
 refine WD.pure (v:=.pointer (some ⟨nx,0,none⟩)) rfl (WD.pure (pv_faddZ rfl) ?_)
 refine WD.chn (m:=⟨[],t7,n7⟩) (m':=⟨[],upd nx (AObj.cells (budC i 1 29 [.pointer (some ⟨i,0,none⟩),vI 0,vI 256] [.pointer (some ⟨i,0,none⟩),vI 0,vI 88] [.pointer none,vI 0,vI 0])) t7,n7⟩) (v:=undef) rfl rfl rfl (estep_store (vs:=[.pointer (some ⟨i,0,none⟩),vI 0,vI 88]) rfl rfl rfl rfl s1) ?_
 refine WD.pure (v:=.pointer (some ⟨nx,0,none⟩)) rfl (WD.pure (pv_faddZ rfl) ?_)
 refine WD.chn (m:=⟨[],upd nx (AObj.cells (budC i 1 29 [.pointer (some ⟨i,0,none⟩),vI 0,vI 256] [.pointer (some ⟨i,0,none⟩),vI 0,vI 88] [.pointer none,vI 0,vI 0])) t7,n7⟩) (m':=⟨[],upd nx (AObj.cells (budC i 1 29 [.pointer (some ⟨i,0,none⟩),vI 0,vI 256] [.pointer (some ⟨i,0,none⟩),vI 0,vI 88] [.pointer (some ⟨i,0,none⟩),vI 257,vI 29])) (upd nx (AObj.cells (budC i 1 29 [.pointer (some ⟨i,0,none⟩),vI 0,vI 256] [.pointer (some ⟨i,0,none⟩),vI 0,vI 88] [.pointer none,vI 0,vI 0])) t7),n7⟩) (v:=undef) rfl rfl rfl (estep_store (vs:=[.pointer (some ⟨i,0,none⟩),vI 257,vI 29]) rfl rfl rfl rfl s2) ?_
 refine WD.nil ⟨?_,_,_,rfl,?_⟩
 ·have cv:∀a b:Int,ceqs ([.pointer (some ⟨i,0,none⟩),.int .i64 a,.int .i64 b]:List Value) [.pointer (some ⟨i,0,none⟩),.int .i64 a,.int .i64 b]=true:=fun a b=>by simp[ceqs,ceq,ieqF_refl]
  simp only[heldAll,loadsIn,xa5,xa6,xa7,xa8,xa9,xb5,xb6,xb7,xb8,xb9,cv]
  rfl
 have k4:Kp tbl nx t4 (nx+1+1+1):=by
  rw[← ht4]
  exact((Kp.refl.cons (Nat.le_refl _) (Nat.le_succ _)).cons (Nat.le_succ _) (Nat.le_succ _)).cons (by omega) (Nat.le_succ _)
 have k5:Kp tbl nx t5 (nx+1+1+1+14+12):=by
  rw[← ht5]
  exact k4.cons (by omega) (by omega)
 have k9:=(((k5.trans k1).trans k2).upd (k:=nx) (o:=AObj.cells (budC i 1 29 [.pointer (some ⟨i,0,none⟩),vI 0,vI 256] [.pointer (some ⟨i,0,none⟩),vI 0,vI 88] [.pointer none,vI 0,vI 0])) (Nat.le_refl _)).upd (k:=nx) (o:=AObj.cells (budC i 1 29 [.pointer (some ⟨i,0,none⟩),vI 0,vI 256] [.pointer (some ⟨i,0,none⟩),vI 0,vI 88] [.pointer (some ⟨i,0,none⟩),vI 257,vI 29])) (Nat.le_refl _)
 refine zN (WC.seq (WC.ops (WO.mv rfl (WO.mv rfl (WO.mv rfl (WO.nil (zN (WC.ret ⟨_,_,rfl,rfl,nx,Nat.le_refl _,?_,rfl,c9,k9⟩))))))))
 show nx<n7
 omega
end Go.AI
/- A buddy, and a recycler, opened anew: the walk. -/
namespace Go.AI
open Go.Proofs
variable {x:Ar}{S:List Nat}{tbl:List (Nat×AObj Ar)}{nx i:Nat}
abbrev budN(i:Nat):List Value:=budC i 1 29 [.pointer (some ⟨i,0,none⟩),vI 0,vI 256] [.pointer (some ⟨i,0,none⟩),vI 0,vI 88] [.pointer (some ⟨i,0,none⟩),vI 257,vI 29]
theorem bopen_run(hb:Bd x)(hx:x.refuse<9223372036854775808)(hl:look i tbl=some (.ext x))(hi:i<nx){n:Nat}(hn:1001≤n) :
  ∃u h',RF1 (hP S) (n+8) 39 [.pointer (some ⟨i,0,none⟩)] ⟨tbl,nx⟩=some (u,h')∧(∃b,nx≤b∧b<h'.next∧u = .tuple ⟨[.pointer (some ⟨b,0,none⟩),errV 0]⟩∧look b h'.tbl=some (.cells (budN i))∧Kp tbl nx h'.tbl h'.next):=by
 refine run_fn rfl fBOpen (zL rfl) ?_
 dsimp only[iBOpen,argsE]
 refine WC.seq (WC.ops (WO.mv rfl (WO.mv rfl (WO.nil (zN (WC.seq (WC.seq (WC.ops (WO.mv rfl (WO.pure (v:=.bool false) rfl (WO.nil (zN (WC.cond_false rfl (WC.skip (zN (WC.seq (WC.ops (WO.mv rfl ?_))))))))))))))))))
 refine WO.fcall_ex (vs:=[.pointer (some ⟨i,0,none⟩)]) rfl rfl (bof_run hb hx hl hi hn) ?_
 rintro u ⟨t1,n1⟩ ⟨b,hb1,hb2,rfl,hbl,k1⟩
 dsimp only at hb2 hbl k1
 refine WO.mv rfl (WO.pure rfl (WO.pure rfl (WO.mv rfl (WO.mv rfl (WO.nil (zN (WC.seq (WC.seq (WC.ops (WO.mv rfl (WO.pure (v:=.bool false) rfl (WO.nil (zN (WC.cond_false rfl (WC.skip (zN (WC.seq (WC.seq (WC.ops ?_)))))))))))))))))))
 refine WO.mv rfl (WO.pure (v:=.pointer (some ⟨b,0,none⟩)) rfl (WO.fadd rfl (WO.load (v:=vwA i (.ofNat 0) (.ofNat 256)) rfl hbl rfl rfl rfl ?_)))
 refine WO.rdH ((k1.2 i hi).trans hl) hx hb.mark rfl rfl rfl rfl canW rfl ?_
 refine WO.mv rfl (WO.pure rfl (WO.pure rfl (WO.mv rfl (WO.mv rfl (WO.nil (zN (WC.seq (WC.ops (WO.mv rfl (WO.pure (v:=.bool false) rfl (WO.nil (zN (WC.cond_false rfl (WC.skip (zN (WC.seq (WC.ops ?_)))))))))))))))))
 exact WO.mv rfl (WO.mv rfl (WO.mv rfl (WO.nil (zN (WC.ret ⟨_,_,rfl,rfl,b,hb1,hb2,rfl,hbl,k1⟩)))))
theorem vsize_run{hk:List (HookF Ar)}(hh:hookL hk 59=none){n i:Nat}{a s:Int}:∃u h',RF1 hk (n+1) 59 [vwA i a s] ⟨tbl,nx⟩=some (u,h')∧(u = .int .i64 s∧Kp tbl nx h'.tbl h'.next):=by
 refine run_fn hh fVSize (zL rfl) ?_
 dsimp only[iVSize,argsE]
 have l1:look nx ((nx,AObj.cells [.pointer (some ⟨i,0,none⟩),.int .i64 a,.int .i64 s])::tbl)=some (.cells [.pointer (some ⟨i,0,none⟩),.int .i64 a,.int .i64 s]):=by rw[zC,if_pos rfl]
 refine WC.seq (WC.ops (WO.box (v:=vwA i a s) rfl rfl (WO.mv rfl (WO.nil (zN (WC.seq (WC.ops (WO.fadd rfl (WO.load (v:=.int .i64 s) rfl l1 rfl rfl rfl (WO.mv rfl (WO.nil (zN (WC.ret ?_)))))))))))))
 exact⟨_,_,rfl,rfl,rfl,Kp.refl.cons (Nat.le_refl _) (Nat.le_succ _)⟩
def recC(b i:Nat):List Value:=[.pointer (some ⟨b,0,none⟩),.pointer (some ⟨i,0,none⟩),vI 4096,vI 64,.pointer (some ⟨i,0,none⟩),vI 4096,vI 64]
theorem ropen_run{b:Nat}{n:Nat} :
  ∃u h',RF1 (hP S) (n+2) 43 [.pointer (some ⟨b,0,none⟩),vwA i (.ofNat 4096) (.ofNat 64)] ⟨tbl,nx⟩=some (u,h')∧(∃r,nx≤r∧r<h'.next∧u = .tuple ⟨[.pointer (some ⟨r,0,none⟩),errV 0]⟩∧look r h'.tbl=some (.cells (recC b i))∧Kp tbl nx h'.tbl h'.next):=by
 refine run_fn rfl fROpen (zL rfl) ?_
 dsimp only[iROpen,argsE]
 have l1:look nx ((nx,AObj.cells [.pointer (some ⟨i,0,none⟩),vI 4096,vI 64])::tbl)=some (.cells [.pointer (some ⟨i,0,none⟩),vI 4096,vI 64]):=by rw[zC,if_pos rfl]
 refine WC.seq (WC.ops (WO.box (v:=vwA i (.ofNat 4096) (.ofNat 64)) rfl rfl (WO.mv rfl (WO.mv rfl (WO.nil (zN (WC.seq (WC.block (WC.seq (WC.seq (WC.ops (WO.mv rfl (WO.pure (v:=.bool false) rfl (WO.mv rfl (WO.nil (zN (WC.cond_false rfl (WC.ops ?_))))))))))))))))))
 refine WO.fadd rfl (WO.load (v:=.pointer (some ⟨i,0,none⟩)) rfl l1 rfl rfl rfl (WO.pure (v:=.bool false) rfl (WO.mv rfl (WO.nil (zN (WC.cond_false rfl (WC.seq (WC.ops ?_))))))))
 refine WO.load (v:=vwA i (.ofNat 4096) (.ofNat 64)) rfl l1 rfl rfl rfl (WO.fcall_ex (vs:=[vwA i (.ofNat 4096) (.ofNat 64)]) rfl rfl (vsize_run (hk:=hP S) (n:=n) rfl) ?_)
 rintro u ⟨t1,n1⟩ ⟨rfl,k1⟩
 dsimp only at k1
 have l2:=(k1.2 nx (Nat.lt_succ_self _)).trans l1
 have k0:Kp tbl nx t1 n1:=(Kp.refl.cons (o:=AObj.cells [.pointer (some ⟨i,0,none⟩),vI 4096,vI 64]) (Nat.le_refl _) (Nat.le_succ _)).trans k1
 refine WO.pure (v:=.bool false) rfl (WO.mv rfl (WO.nil (zN (WC.cond_false rfl (WC.skip (zB (zN (WC.seq (WC.drawnW ?_)))))))))
 obtain⟨u1,⟨t2,n2⟩,hd1,rfl,k2⟩:=binsOpen_run (hk:=hP S) (tbl:=t1) (nx:=n1+8) (i:=i) (a:=.ofNat 4096) (s:=.ofNat 64) (n:=n) rfl
 dsimp only at k2
 have l3:look nx t2=some (.cells [.pointer (some ⟨i,0,none⟩),vI 4096,vI 64]):=(k2.2 nx (by have:=k1.1;omega)).trans l2
 have x1:∀m,(⟨[],t1,m⟩:Mem Ar).load ⟨nx,0,none⟩ 3=some [.pointer (some ⟨i,0,none⟩),vI 4096,vI 64]:=fun m=>mem_load l2 rfl rfl
 have x2:(⟨[],t2,n2⟩:Mem Ar).load ⟨nx,0,none⟩ 3=some [.pointer (some ⟨i,0,none⟩),vI 4096,vI 64]:=mem_load l3 rfl rfl
 refine WD.pure rfl (WD.load (m:=⟨[],t1,n1+8⟩) (ms:=[]) (v:=vwA i (.ofNat 4096) (.ofNat 64)) rfl (x1 _) rfl (WD.load (m:=⟨[],t1,n1+8⟩) (ms:=[]) (v:=vwA i (.ofNat 4096) (.ofNat 64)) rfl (x1 _) rfl ?_))
 refine WD.chn (m:=⟨[],t1,n1+8⟩) (m':=⟨[],t2,n2⟩) rfl rfl rfl (estep_call (m:=⟨[],t1,n1+8⟩) (h:=⟨t2,n2⟩) (vs:=[vwA i (.ofNat 4096) (.ofNat 64)]) rfl rfl hd1) ?_
 refine WD.pure (v:=.agg ⟨recC b i⟩) rfl (WD.alloc rfl rfl (WD.pure rfl (WD.pure rfl (WD.nil ⟨?_,_,_,rfl,?_⟩))))
 ·have cv:∀a b:Int,ceqs ([.pointer (some ⟨i,0,none⟩),.int .i64 a,.int .i64 b]:List Value) [.pointer (some ⟨i,0,none⟩),.int .i64 a,.int .i64 b]=true:=fun a b=>by simp[ceqs,ceq,ieqF_refl]
  simp only[heldAll,loadsIn,x1,x2,cv]
  rfl
 have q2:=k2.1
 have q1:=k0.1
 have k3:Kp tbl nx t2 n2:=(k0.up (Nat.le_add_right _ 8)).trans k2
 refine zN (WC.ret ⟨_,_,rfl,rfl,n1+5,by omega,by show n1+5<n2;omega,rfl,?_,?_⟩)
 ·show look (n1+5) ((n1+5,AObj.cells (recC b i))::t2)=_
  rw[zC,if_pos rfl]
 ·exact k3.cons (by show nx≤n1+5;omega) (Nat.le_refl _)
end Go.AI
/- All opened anew, upon a clone: the walk. -/
namespace Go.AI
open Go.Proofs
variable {x:Ar}{S:List Nat}{tbl:List (Nat×AObj Ar)}{nx ka w:Nat}
theorem again_run{q:B3}{rr rb rr' rb' rw0:List Value}(H:Lv q S ka rr rb rr' rb' tbl nx x)(hb:Bd x)(hx:x.refuse<9223372036854775808)(hw:look w tbl=some (.cells (.pointer (some ⟨q.r,0,none⟩)::rw0)))(hwn:w<nx)(hwk:w≠ka){n:Nat}(hn:1001≤n) :
  ∃u h',RF1 (hP S) (n+9) 21 [.pointer (some ⟨w,0,none⟩)] ⟨tbl,nx⟩=some (u,h')∧(u = .bool true∧nx≤h'.next∧(∀j,j<nx→j≠q.i→j≠w→look j h'.tbl=look j tbl) ∧
   ∃q2 rr2 rb2 rr2' rb2',look w h'.tbl=some (.cells (.pointer (some ⟨q2.r,0,none⟩)::rw0))∧w<h'.next∧Lv q2 S ka rr2 rb2 rr2' rb2' h'.tbl h'.next x):=by
 refine run_fn rfl fRAgain (zL rfl) ?_
 dsimp only[iRAgain,argsE]
 refine WC.seq (WC.ops (WO.mv rfl (WO.nil (zN (WC.seq (WC.ops ?_))))))
 refine WO.mv rfl (WO.pure (v:=.pointer (some ⟨w,0,none⟩)) rfl (WO.fadd rfl (WO.load (v:=.pointer (some ⟨q.r,0,none⟩)) rfl hw rfl rfl rfl ?_)))
 refine WO.pure (v:=.pointer (some ⟨q.r,0,none⟩)) rfl (WO.fadd rfl (WO.load (v:=.pointer (some ⟨q.b,0,none⟩)) rfl H.lr rfl rfl rfl ?_))
 refine WO.pure (v:=.pointer (some ⟨q.b,0,none⟩)) rfl (WO.fadd rfl (WO.load (v:=.pointer (some ⟨q.i,0,none⟩)) rfl H.lb rfl rfl rfl ?_))
 have hcl:cloneH [.pointer (some ⟨q.i,0,none⟩)] ⟨tbl,nx⟩=some (.pointer (some ⟨nx,0,none⟩),⟨(nx,.ext x)::del q.i tbl,nx+1⟩):=by
  have e:Nat.blt x.refuse 9223372036854775808=true:=by rw[blt_iff];exact decide_eq_true hx
  simp only[cloneH,H.li,e,cond_true]
 refine WO.fcall (v:=.pointer (some ⟨nx,0,none⟩)) (h:=⟨(nx,.ext x)::del q.i tbl,nx+1⟩) (vs:=[.pointer (some ⟨q.i,0,none⟩)]) rfl rfl ((run_hook (n:=n+7) (g:=cloneH) rfl).trans hcl) ?_
 have hl1:look nx ((nx,AObj.ext x)::del q.i tbl)=some (.ext x):=by rw[zC,if_pos rfl]
 have hk1:∀j,j<nx→j≠q.i→look j ((nx,AObj.ext x)::del q.i tbl)=look j tbl:=fun j h1 h2=>by
  rw[zC,if_neg (by show¬j=nx;omega),look_del_ne h2]
 generalize ht1:((nx,AObj.ext x)::del q.i tbl)=t1 at hl1 hk1 ⊢
 refine WO.fcall_ex (vs:=[.pointer (some ⟨nx,0,none⟩)]) rfl rfl (bopen_run hb hx hl1 (Nat.lt_succ_self _) hn) ?_
 rintro u ⟨t2,n2⟩ ⟨b,b1,b2,rfl,hbl,k2⟩
 dsimp only at b2 hbl k2
 have g2:=k2.1
 refine WO.mv rfl (WO.pure rfl (WO.pure rfl (WO.mv rfl (WO.mv rfl (WO.nil (zN (WC.seq (WC.seq (WC.ops (WO.mv rfl (WO.pure (v:=.bool false) rfl (WO.nil (zN (WC.cond_false rfl (WC.skip (zN (WC.seq (WC.drawnW ?_))))))))))))))))))
 obtain⟨u1,⟨t3,n3⟩,hd1,rfl,k3⟩:=base_run (hk:=hP S) (tbl:=t2) (nx:=n2+14) (n:=n+7) rfl hbl
 dsimp only at k3
 have g3:=k3.1
 have hl2:look nx t2=some (.ext x):=(k2.2 nx (Nat.lt_succ_self _)).trans hl1
 have hl3:look nx t3=some (.ext x):=(k3.2 nx (by omega)).trans hl2
 have hb3:look b t3=some (.cells (budN nx)):=(k3.2 b (by omega)).trans hbl
 have hc2:RF1 (hP S) (n+8) 41 [.pointer (some ⟨nx,0,none⟩),vI 4096,vI 64] ⟨t3,n3⟩=some (.tuple ⟨[vwA nx (.ofNat 4096) (.ofNat 64),errV 0]⟩,⟨t3,n3⟩):=by
  refine(run_hook (n:=n+7) (g:=liftH spVOf _) rfl).trans ?_
  exact liftH_rd rfl hl3 hx canP2 hb.of1 rfl
 have x2:∀m,(⟨[],t2,m⟩:Mem Ar).load ⟨b,0,none⟩ 1=some [.pointer (some ⟨nx,0,none⟩)]:=fun m=>mem_load hbl rfl rfl
 have x3:(⟨[],t3,n3⟩:Mem Ar).load ⟨b,0,none⟩ 1=some [.pointer (some ⟨nx,0,none⟩)]:=mem_load hb3 rfl rfl
 have x4:(⟨[],(n2+11,.cells [.pointer (some ⟨nx,0,none⟩),vI 4096,vI 64])::t3,n3⟩:Mem Ar).load ⟨b,0,none⟩ 1=some [.pointer (some ⟨nx,0,none⟩)]:=mem_load (by rw[zC,if_neg (by show¬b=n2+11;omega)];exact hb3) rfl rfl
 have hst:(⟨[],(n2+11,.cells [.pointer none,.int .i64 (.ofNat 0),.int .i64 (.ofNat 0)])::t3,n3⟩:Mem Ar).store ⟨n2+11,0,none⟩ [.pointer (some ⟨nx,0,none⟩),vI 4096,vI 64]=some ⟨[],(n2+11,.cells [.pointer (some ⟨nx,0,none⟩),vI 4096,vI 64])::t3,n3⟩:=by
  have hs:=mem_store (nx:=n3) (vs:=[.pointer (some ⟨nx,0,none⟩),vI 4096,vI 64]) (o:=0) (ob':=.cells [.pointer (some ⟨nx,0,none⟩),vI 4096,vI 64]) (tbl:=(n2+11,.cells [.pointer none,.int .i64 (.ofNat 0),.int .i64 (.ofNat 0)])::t3) (i:=n2+11) (by rw[zC,if_pos rfl]) rfl (zL rfl) rfl
  rw[upd_head] at hs
  exact hs
 refine WD.pure rfl (WD.pure (v:=.pointer (some ⟨b,0,none⟩)) rfl (WD.pure (pv_faddZ rfl) (WD.load (m:=⟨[],t2,n2+14⟩) (ms:=[]) (v:=.pointer (some ⟨nx,0,none⟩)) rfl (x2 _) rfl (WD.pure rfl ?_))))
 refine WD.chn (m:=⟨[],t2,n2+14⟩) (m':=⟨[],t3,n3⟩) rfl rfl rfl (estep_call (m:=⟨[],t2,n2+14⟩) (h:=⟨t3,n3⟩) (vs:=[.pointer (some ⟨b,0,none⟩)]) rfl rfl hd1) ?_
 refine WD.pure (v:=vI 4096) rfl ?_
 refine WD.chn (m:=⟨[],t3,n3⟩) (m':=⟨[],t3,n3⟩) rfl rfl rfl (estep_call (m:=⟨[],t3,n3⟩) (h:=⟨t3,n3⟩) (vs:=[.pointer (some ⟨nx,0,none⟩),vI 4096,vI 64]) rfl rfl hc2) ?_
 refine WD.pure rfl (WD.pure (v:=vwA nx (.ofNat 4096) (.ofNat 64)) rfl (WD.pure (v:=vI 0) rfl (WD.alloc rfl rfl ?_)))
 refine WD.chn (m:=⟨[],t3,n3⟩) (m':=⟨[],(n2+11,.cells [.pointer (some ⟨nx,0,none⟩),vI 4096,vI 64])::t3,n3⟩) (v:=undef) rfl rfl rfl (estep_store (vs:=[.pointer (some ⟨nx,0,none⟩),vI 4096,vI 64]) rfl rfl rfl rfl hst) ?_
 refine WD.pure rfl (WD.nil ⟨?_,_,_,rfl,?_⟩)
 ·have cv:ceqs ([.pointer (some ⟨nx,0,none⟩)]:List Value) [.pointer (some ⟨nx,0,none⟩)]=true:=by simp[ceqs,ceq]
  simp only[heldAll,loadsIn,x2,x3,x4,cv]
  rfl
 have hv:look (n2+11) ((n2+11,AObj.cells [.pointer (some ⟨nx,0,none⟩),vI 4096,vI 64])::t3)=some (.cells [.pointer (some ⟨nx,0,none⟩),vI 4096,vI 64]):=by rw[zC,if_pos rfl]
 have k4:Kp t1 (nx+1) ((n2+11,AObj.cells [.pointer (some ⟨nx,0,none⟩),vI 4096,vI 64])::t3) n3:=((k2.up (Nat.le_add_right _ 14)).trans k3).cons (by omega) (Nat.le_refl _)
 have hb4:look b ((n2+11,AObj.cells [.pointer (some ⟨nx,0,none⟩),vI 4096,vI 64])::t3)=some (.cells (budN nx)):=by rw[zC,if_neg (by show¬b=n2+11;omega)];exact hb3
 generalize ht4:((n2+11,AObj.cells [.pointer (some ⟨nx,0,none⟩),vI 4096,vI 64])::t3)=t4 at hv k4 hb4 ⊢
 refine zN (WC.seq (WC.ops (WO.mv (m:=⟨[],t4,n3⟩) rfl (WO.load (v:=vwA nx (.ofNat 4096) (.ofNat 64)) rfl hv rfl rfl rfl ?_))))
 refine WO.fcall_ex (vs:=[.pointer (some ⟨b,0,none⟩),vwA nx (.ofNat 4096) (.ofNat 64)]) rfl rfl (ropen_run (n:=n+6) (b:=b) (i:=nx)) ?_
 rintro u ⟨t5,n5⟩ ⟨r,r1,r2,rfl,hrl,k5⟩
 dsimp only at r2 hrl k5
 have r3:n3≤r:=r1
 have g5:=k5.1
 have k6:Kp t1 (nx+1) t5 n5:=k4.trans k5
 have hb5:look b t5=some (.cells (budN nx)):=(k5.2 b (by omega)).trans hb4
 have hl5:look nx t5=some (.ext x):=(k6.2 nx (Nat.lt_succ_self _)).trans hl1
 have hwi:w≠q.i:=fun e=>by rw[e,H.li] at hw;cases hw
 have hw5:look w t5=some (.cells (.pointer (some ⟨q.r,0,none⟩)::rw0)):=(k6.2 w (by omega)).trans ((hk1 w hwn hwi).trans hw)
 have hai:ka≠q.i:=fun e=>by have:=H.la;rw[e,H.li] at this;cases this
 have ha5:look ka t5=some (.grown 1 3 (S.map nI)):=(k6.2 ka (by have:=H.hka;omega)).trans ((hk1 ka H.hka hai).trans H.la)
 refine WO.mv rfl (WO.pure rfl (WO.pure rfl (WO.mv rfl (WO.mv rfl (WO.nil (zN (WC.seq (WC.ops ?_))))))))
 refine WO.mv rfl (WO.mv rfl (WO.pure (v:=.pointer (some ⟨w,0,none⟩)) rfl (WO.fadd rfl (WO.store (vs:=[.pointer (some ⟨r,0,none⟩)]) (ob':=.cells (.pointer (some ⟨r,0,none⟩)::rw0)) rfl rfl rfl rfl hw5 rfl (Nat.le_add_left 1 _) (by cases rw0<;>rfl) ?_))))
 refine WO.nil (zN (WC.seq (WC.ops (WO.mv rfl (WO.pure (v:=.bool true) rfl (WO.mv rfl (WO.take rfl rfl (WO.mv rfl (WO.take rfl rfl (WO.pure (v:=.bool true) rfl (WO.pure (v:=.bool true) rfl (WO.mv rfl (WO.nil (zN (WC.ret ?_)))))))))))))))
 refine⟨_,_,rfl,rfl,rfl,by show nx≤n5;omega,fun j h1 h2 h3=>?_,⟨nx,b,r⟩,[.pointer (some ⟨nx,0,none⟩),vI 4096,vI 64,.pointer (some ⟨nx,0,none⟩),vI 4096,vI 64],
  [vI 1,vI 29,.pointer (some ⟨nx,0,none⟩),vI 0,vI 256,.pointer (some ⟨nx,0,none⟩),vI 0,vI 88,.pointer (some ⟨nx,0,none⟩),vI 257,vI 29],
  [.pointer (some ⟨0,0,none⟩),vI 4096,vI 64,.pointer (some ⟨0,0,none⟩),vI 4096,vI 64],[vI 1,vI 29,.pointer (some ⟨0,0,none⟩),vI 0,vI 256,.pointer (some ⟨0,0,none⟩),vI 0,vI 88,.pointer (some ⟨0,0,none⟩),vI 257,vI 29],
  zS hw5,by show w<n5;omega,?_⟩
 ·exact(zU h3).trans ((k6.2 j (by omega)).trans (hk1 j h1 h2))
 ·refine⟨(zU (by show nx≠w;omega)).trans hl5,(zU (by show b≠w;omega)).trans hb5,(zU (by show r≠w;omega)).trans hrl,(zU (fun e=>hwk e.symm)).trans ha5,by show nx<n5;omega,by show b<n5;omega,r2,by have:=H.hka;show ka<n5;omega,?_,?_,by show r≠b;omega,by show r≠nx;omega⟩
  ·simp only[can3Fs,can3F,Nat.beq_refl,cond_true]
  ·simp only[can3Fs,can3F,Nat.beq_refl,cond_true]
end Go.AI
/- The law as a whole. -/
namespace Go.AI
open Go.Proofs
open Go.Fo (Wd Un Pre)
variable {x:Ar}{S:List Nat}{off ka tb lo:Nat}{acts:List Value}{tbl t':List (Nat×AObj Ar)}{nx n':Nat}
theorem Bk.rows{v:Value}{N:List NodeT}(h:Bk lo tbl nx v N)(hn:nx≤n')(hne:∀k e T cs,k<nx→look k tbl=some (AObj.grown e T cs)→look k t'=some (.grown e T cs)):Bk lo t' n' v N:=by
 obtain⟨k,M,h0,h1,h3,h4,h5⟩:=h
 refine⟨k,M,h0,Nat.lt_of_lt_of_le h1 hn,h3,hne _ _ _ _ h1 h4,h5.mono fun m n hm=>⟨hm.1,hm.2.1,?_⟩⟩
 rcases hm.2.2 with q|⟨c,c0,c1,c2,c3,c4⟩
 ·exact .inl q
 ·exact .inr ⟨c,c0,Nat.lt_of_lt_of_le c1 hn,c2,c3,hne _ _ _ _ c1 c4⟩
theorem bd_of(h:bdB x=true):Bd x:=by
 unfold bdB at h
 simp only[Bool.and_eq_true,Nat.beq_eq] at h
 obtain⟨h1,h2,h3,h4⟩:=h
 have some_of:∀p,(match pgAt x.pages p with|some _=>true|none=>false)=true→∃P,pgAt x.pages p=some P:=fun p hp=>by
  cases h:pgAt x.pages p with
  |some P=>exact⟨P,rfl⟩
  |none=>rw[h] at hp;cases hp
 exact⟨h1,some_of 0 h2,some_of 1 h3,h4⟩
theorem fresh_refN(hC:chkB x S=true):refN (wds x S) S (kidsX x S)=S.map fun a=>(a,0,[]):=by
 have hT:=chk_TW hC
 have I:=depX_inv hT
 have h2:=hC
 unfold chkB at h2
 rw[Bool.and_eq_true] at h2
 have hp:∀a,a∈S→(wds x S).par a=0:=by
  intro a ha
  have h1:=List.all_eq_true.1 h2.2 a ha
  unfold nodeB at h1
  simp only[Bool.and_eq_true,Nat.beq_eq] at h1
  exact(wdS_in ha).trans h1.2.2.2.2.2.1
 refine List.map_congr_left fun a ha=>?_
 rw[hp a ha]
 cases hk:kidsX x S a with
 |nil=>rfl
 |cons z zs =>
  exfalso
  obtain⟨z1,z2⟩:=I.kid ha (b:=z) (by rw[hk];exact List.mem_cons_self ..)
  rw[hp z z1] at z2
  exact z2.2.1 rfl
theorem plays_run{k:Nat}(hk8:k<256){l:List ActT}(hu:∀a,a∈l→a.2.1<256∧a.2.2<256)(hll:l.length≤9223372036854775807){cp:Nat}{ad:Option Addr}(had:l.length≠0→ad=some ⟨0,off,some 1⟩)(hO:OpenOk (1+k % 12) off (actsC l)) :
  ∃S:List Nat,S.length<900∧∃v h',RF1 (hP S) 2014 4 [.int .u8 (.ofNat k),.slice ad l.length cp] ⟨[(0,.ro off (actsC l))],1⟩=some (v,h')∧v = .bool true:=by
 obtain⟨x,S,ka,rw0,tbl0,nx0,hrun,l0,l2,l3,l241,l249,lka,k1,k2,hC,hB,hSk,hnd⟩:=hO
 have hT:=chk_TW hC
 have hBd:=bd_of hB
 refine⟨S,by omega,?_⟩
 have hSl:0<S.length:=by omega
 have hS0:S≠[]:=fun e=>by rw[e] at hSl;simp at hSl
 refine run_fn rfl fTreePlays (zL rfl) ?_
 dsimp only[iTreePlays,argsE]
 refine WC.seq (WC.ops (WO.mv rfl (WO.nil (zN (WC.seq (WC.seq (WC.ops ?_)))))))
 refine WO.fcall (vs:=[]) (v:=.bool true) (h:=⟨[(0,.ro off (actsC l))],1⟩) rfl rfl ((run_hook (n:=2012) (g:=constH (.bool true)) rfl).trans rfl) ?_
 refine WO.pure rfl (WO.nil (zN (WC.cond_false rfl (WC.skip (zN (WC.seq (WC.seq (WC.ops (WO.mv rfl (WO.len rfl ?_))))))))))
 refine WO.gtrS rfl rfl (fun _=>?_) (fun hle=>?_)
 ·refine WO.nil (zN (WC.cond_true rfl (WC.seq (WC.ops (WO.mv rfl (WO.nil (zN (WC.ret (thenC_ret ⟨_,_,rfl,rfl,rfl⟩)))))))))
 have hl60:l.length≤60:=by simp only[zO] at hle;omega
 refine WO.nil (zN (WC.cond_false rfl (WC.skip (zN (WC.seq (WC.ops ?_))))))
 have hrem:∀env:List (Nat×Value),look 22 env=some (.int .u8 (.ofNat k))→peval env (.bin .rem .no (.t 22) (.c (.int .u8 (.ofNat 12))))=some (.int .u8 (.ofNat (k % 12))):=fun env he=>by
  have h3:Nat.mod k 12=k % 12:=rfl
  have e1:evo env (.t 22)=some (.int .u8 (.ofNat k)):=he
  have e2:evo env (.c (.int .u8 (.ofNat 12)))=some (.int .u8 (.ofNat 12)):=rfl
  simp only[peval,e1,e2,binVal,intBin,divF,if_true,h3,Option.map]
 refine WO.mv rfl (WO.pure (hrem _ rfl) (WO.pure (pv_conv rfl (by omega)) (WO.add rfl rfl (by simp only[zO];omega) (by simp only[zO];omega) ?_)))
 refine WO.fcall (vs:=[vI (1+k % 12)]) rfl rfl ((run_hook (n:=2012) (g:=runOpen) rfl).trans hrun) ?_
 refine WO.mv rfl (WO.pure rfl (WO.pure rfl (WO.pure rfl (WO.mv rfl (WO.mv rfl (WO.mv rfl (WO.nil (zN (WC.seq (WC.seq (WC.ops (WO.mv rfl (WO.pure (v:=.bool false) rfl (WO.nil (zN (WC.cond_false rfl (WC.skip (zN (WC.seq (WC.ops ?_))))))))))))))))))))
 refine WO.mv rfl (WO.pure (v:=.pointer (some ⟨249,0,none⟩)) rfl (WO.pure (v:=.pointer (some ⟨249,0,none⟩)) rfl (WO.load (v:=pO) rfl l249 rfl rfl rfl ?_)))
 refine WO.fcall_ex (vs:=[pO]) rfl rfl (of_run (hk:=hP S) (tbl:=tbl0) (nx:=nx0) (n:=2012) (r:=241) rfl) ?_
 rintro u h' ⟨rfl,rfl⟩
 refine WO.mv rfl ?_
 refine WO.fcall_ex (vs:=[.slice (some ⟨ka,0,none⟩) S.length S.length]) rfl rfl (forest_run (hk:=hP S) rfl (n:=2012) (ka:=ka) (S:=S) (by omega) hS0 (by decide) (Nat.lt_succ_of_lt k2) ((look_ne (by omega)).trans lka)) ?_
 rintro v ⟨t1,n1⟩ ⟨B,K1⟩
 dsimp only at B K1
 have g1:=K1.1
 refine WO.new (WO.step (i:=.store 1 (.t 8) (.t 36)) (v:=undef) (m':=⟨[],(n1,.cells [pO])::t1,n1+1⟩) ?_ ?_)
 ·have hm:=mem_store (nx:=n1+1) (vs:=[pO]) (o:=0) (ob':=.cells (splice [.pointer none] 0 [pO])) (tbl:=(n1,.cells [.pointer none])::t1) (i:=n1) (by rw[zC,if_pos rfl]) rfl (zL rfl) rfl
  rw[upd_head] at hm
  exact estep_store rfl rfl rfl rfl hm
 have hk:∀j,j<nx0→look j ((n1,AObj.cells [pO])::t1)=look j tbl0:=fun j hj=>(look_ne (by omega)).trans ((K1.2 j (by omega)).trans (look_ne (by omega)))
 have F:Lw S off (actsC l) ka n1 ((n1,.cells [pO])::t1) (n1+1) x :=
  ⟨(hk _ (by omega)).trans l0,(hk _ (by omega)).trans l2,(hk _ (by omega)).trans l3,(hk _ (by omega)).trans l241,(hk _ (by omega)).trans lka,by rw[zC,if_pos rfl],k1,by omega,by omega⟩
 have l9:=(hk 249 (by omega)).trans l249
 have B0:Bk 0 ((n1,AObj.cells [pO])::t1) (n1+1) v (refN (wds x S) S (kidsX x S)):=by
  rw[fresh_refN hC]
  exact(B.low (Nat.zero_le _)).kp (Kp.refl.cons (Nat.le_refl _) (Nat.le_succ _))
 refine WO.mv rfl (WO.nil (zN (WC.seq (WC.seq (WC.ops (WO.mv rfl (WO.len rfl (WO.mv rfl (WO.nil (zN ?_))))))))))
 refine loopP (n:=2010) (cp:=cp) (ad:=ad) (by decide) (by omega) hnd hl60 hu hSl hT F had hBd l9 B0 rfl rfl rfl rfl rfl rfl rfl fun e1 t2 n2 x1 v1 g5 g6 g8 g9 hT1 hBd1 l91 F1 B1=>?_
 refine zN (WC.seq (WC.ops ?_))
 refine WO.load g8 F1.lt rfl rfl rfl (WO.mv g9 (WO.mv g6 ?_))
 refine WO.fcall_ex (vs:=[trV qO,v1,.slice (some ⟨ka,0,none⟩) S.length S.length]) rfl rfl (told_run (n:=2010) (by omega) hnd hT1 F1.lv B1 (by decide)) ?_
 rintro u ⟨t3,n3⟩ ⟨rfl,k3⟩
 dsimp only at k3
 have F3:=F1.kp k3
 have B3:=B1.kp k3
 have h1':=F1.h1
 have h2':=F1.h2
 have h3':=F1.h3
 refine WO.mv rfl (WO.take rfl rfl (WO.mv g5 (WO.take rfl rfl ?_)))
 refine WO.fcall_ex (vs:=[.pointer (some ⟨249,0,none⟩)]) rfl rfl (again_run (q:=qO) (w:=249) F3.lv hBd1 hT1.ref ((k3.2 249 (by omega)).trans l91) (by have:=F3.h3;omega) (by omega) (n:=2004) (by decide)) ?_
 rintro u ⟨t4,n4⟩ ⟨rfl,m4,k4,q2,rr2,rb2,rr2',rb2',hw4,hwn,H4⟩
 dsimp only at m4 k4 hw4 hwn H4
 have hne:∀j e T cs,j<n3→look j t3=some (AObj.grown e T cs)→look j t4=some (.grown e T cs):=fun j e T cs hj hl=>by
  refine(k4 j hj (fun e=>?_) (fun e=>?_)).trans hl
  ·have e:j=2:=e
   rw[e,F3.li] at hl;cases hl
  ·rw[e,(k3.2 249 (by omega)).trans l91] at hl;cases hl
 have B4:=B3.rows (n':=n4) m4 hne
 refine WO.pure rfl (WO.mv rfl (WO.take rfl rfl (WO.mv g5 (WO.take rfl rfl ?_))))
 refine WO.pure (v:=.pointer (some ⟨249,0,none⟩)) rfl (WO.take rfl rfl (WO.pure (v:=.pointer (some ⟨249,0,none⟩)) rfl (WO.take rfl rfl (WO.load (v:=.pointer (some ⟨q2.r,0,none⟩)) rfl hw4 rfl rfl rfl (WO.take rfl rfl ?_)))))
 refine WO.fcall_ex (vs:=[.pointer (some ⟨q2.r,0,none⟩)]) rfl rfl (of_run (hk:=hP S) (tbl:=t4) (nx:=n4) (n:=2012) (r:=q2.r) rfl) ?_
 rintro u h' ⟨rfl,rfl⟩
 have K5:Kp t4 n4 ((n4,AObj.cells [.pointer (some ⟨q2.r,0,none⟩)])::t4) (n4+1):=Kp.refl.cons (Nat.le_refl _) (Nat.le_succ _)
 refine WO.take rfl rfl (WO.mv g9 (WO.take rfl rfl (WO.mv g6 (WO.take rfl rfl ?_))))
 refine WO.fcall_ex (vs:=[trV q2,v1,.slice (some ⟨ka,0,none⟩) S.length S.length]) rfl rfl (told_run (n:=2010) (by omega) hnd hT1 (H4.kp K5) (B4.kp K5) (by decide)) ?_
 rintro u ⟨t6,n6⟩ ⟨rfl,_⟩
 exact WO.pure rfl (WO.mv rfl (WO.nil (zN (WC.ret ⟨_,_,rfl,rfl,rfl⟩))))
end Go.AI
