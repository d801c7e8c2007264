/- Functions in the evaluator's form: printed by a program, held against the program by the kernel. -/
import Derived.Test.YthoiknijhfnadaaGreatDoorIfn
import Derived.Test.YthoiknijhfnadaaGreatDoorKKd
set_option maxRecDepth 8000
namespace Go.AI
def iNGet:IFn:=(.mk (sO [(none,(.box 2 true (.t 0))),pU 4 (.mv (.c (u0 0)))] (.seq (sO [mV 7 1,pU 8 (.bin .lss .no (.t 7) (cI 0)),mV 9 8,((some (9,false)),(.pure 10 (.mv (.t 1)))),((some (9,false)),(.pure 11 (.bin .geq .no (.t 10) (cI 13)))),pU 12 (.pick (.t 9) (.c (.bool true)) (.t 11))] (.cond (.t 12) (sO [pU 4 (.mv (.c (u0 0)))] .ret) .skip)) (sO [fD 14 9 2,lD 15 3 true 14,mV 16 1,pU 17 (.bin .mul .no (cI 8) (.t 16)),cL 18 61 [(.t 15),(.t 17),(cI 8)],mV 13 18,eX 19 0 13,eX 20 1 13,mV 5 19,mV 6 20] (sO [mV 21 5,mV 4 21] .ret)))) 22 [(.tmp 4)])
theorem fNGet:FA 37=some iNGet:=by kernel_rfl
def iNWhere:IFn:=(.mk (sO [(none,(.box 1 true (.t 0))),mI 2 0] (sO [fD 3 9 1,lD 4 3 true 3,cL 5 62 [(.t 4)],pU 6 (.bin .sub .no (.t 5) (cI 32)),pU 7 (.max [(cI 0),(.t 6)]),mV 2 7] .ret)) 8 [(.tmp 2)])
theorem fNWhere:FA 38=some iNWhere:=by kernel_rfl
def iNPart:IFn:=(.mk (sO [(none,(.box 2 true (.t 0))),(none,(.new 4 true [p0,(i0 0),(i0 0)]))] (.seq (sO [mV 10 1,pU 11 (.bin .lss .no (.t 10) (cI 0)),mV 12 11,((some (12,false)),(.pure 13 (.mv (.t 1)))),((some (12,false)),(.pure 14 (.bin .geq .no (.t 13) (cI 5)))),pU 15 (.pick (.t 12) (.c (.bool true)) (.t 14))] (.cond (.t 15) (sO [pU 16 (.build [p0,(i0 0),(i0 0)] []),sT 3 4 16] .ret) .skip)) (sO [mI 5 192] (.seq (sO [cL 17 63 [],mI 18 0] (.block 0 (.loop (sO [pU 19 (.bin .lss .no (.t 18) (cI 5))] (.seq (.cond (.t 19) .skip (.exit 0)) (.seq (.block 1 (sO [mV 20 18,pU 21 (.idxG 5 1 false (.t 17) (.t 18)),mV 6 20,mV 7 21] (.seq (sO [mV 22 6,mV 23 1,pU 24 (.bin .eql .no (.t 22) (.t 23))] (.cond (.t 24) (sO [fD 26 9 2,lD 27 3 true 26,mV 28 5,mV 29 7,cL 30 51 [(.t 27),(.t 28),(.t 29)],mV 25 30,eX 31 0 25,eX 32 1 25,(none,(.new 8 true [p0,(i0 0),(i0 0)])),sT 3 8 31,mV 9 32] (sO [lD 33 3 true 8,sT 3 4 33] .ret)) .skip)) (.ops [mV 34 5,mV 35 7,pU 36 (.bin .add .no (.t 34) (.t 35)),mV 5 36])))) (.ops [pU 37 (.bin .add .no (.t 18) (cI 1)),mV 18 37]))))))) (sO [pU 38 (.build [p0,(i0 0),(i0 0)] []),sT 3 4 38] .ret))))) 39 [(.cell 4 3 true)])
theorem fNPart:FA 40=some iNPart:=by kernel_rfl
def iNSizes:IFn:=(.mk (sO [(none,(.new 0 true [(i0 0),(i0 0),(i0 0),(i0 0),(i0 0)]))] (sO [pU 1 (.build [(i0 0),(i0 0),(i0 0),(i0 0),(i0 0)] [(0,(1,(cI 192))),(1,(1,(cI 96))),(2,(1,(cI 128))),(3,(1,(cI 128))),(4,(1,(cI 128)))]),sT 5 0 1] .ret)) 2 [(.cell 0 5 true)])
theorem fNSizes:FA 63=some iNSizes:=by kernel_rfl
def iVAt:IFn:=(.mk (sO [(none,(.box 1 true (.t 0))),mI 2 0] (sO [fD 3 1 1,lD 4 1 false 3,mV 2 4] .ret)) 5 [(.tmp 2)])
theorem fVAt:FA 62=some iVAt:=by kernel_rfl
def iQTargets:IFn:=(.mk (sO [(none,(.box 1 true (.t 0))),pU 2 (.mv (.c (.slice none 0 0)))] (sO [lD 3 12 true 1,cL 4 40 [(.t 3),(cI 3)],cL 5 21 [(.t 4)],cL 6 26 [(.t 5)],mV 2 6] .ret)) 7 [(.tmp 2)])
theorem fQTargets:FA 14=some iQTargets:=by kernel_rfl
def iQHolders:IFn:=(.mk (sO [(none,(.box 1 true (.t 0))),pU 2 (.mv (.c (.slice none 0 0)))] (sO [lD 3 12 true 1,cL 4 40 [(.t 3),(cI 4)],cL 5 21 [(.t 4)],cL 6 26 [(.t 5)],mV 2 6] .ret)) 7 [(.tmp 2)])
theorem fQHolders:FA 16=some iQHolders:=by kernel_rfl
def iQparts:IFn:=(.mk (sO [(none,(.box 2 true (.t 0))),(none,(.box 3 true (.t 1))),(none,(.new 4 true [p0,(i0 0),(i0 0)])),(none,(.new 5 true [p0,(i0 0),(i0 0)]))] (.seq (.drawn [lD 6 12 true 2,cL 7 40 [(.t 6),(cI 3)],cL 8 21 [(.t 7)],lD 9 12 true 3,cL 10 40 [(.t 9),(cI 4)],cL 11 21 [(.t 10)],sT 3 4 8,sT 3 5 11] [[],[0],[1,0],[],[3,2,1,0],[4,3,2,1,0],[2,5,0,1,4,3],[5,6,0,1,2,3,4]]) .ret)) 12 [(.cell 4 3 true),(.cell 5 3 true)])
theorem fQparts:FA 36=some iQparts:=by kernel_rfl
def iQTie:IFn:=(.mk (sO [(none,(.box 3 true (.t 0))),(none,(.box 4 true (.t 1))),mI 6 0] (sO [lD 14 12 true 3,lD 15 12 true 4,cL 16 36 [(.t 14),(.t 15)],mV 13 16,eX 17 0 13,eX 18 1 13,(none,(.new 7 true [p0,(i0 0),(i0 0)])),(none,(.new 8 true [p0,(i0 0),(i0 0)])),sT 3 7 17,sT 3 8 18] (.seq (.block 0 (sO [fD 20 0 7,fD 21 0 20,lD 22 1 false 21,pU 23 (.bin .eql .ptr (.t 22) (.c p0)),mV 24 23,((some (24,false)),(.pure 25 (.fadd 0 (.t 8)))),((some (24,false)),(.pure 26 (.fadd 0 (.t 25)))),((some (24,false)),(.load 27 1 false (.t 26))),((some (24,false)),(.pure 28 (.bin .eql .ptr (.t 27) (.c p0)))),pU 29 (.pick (.t 24) (.c (.bool true)) (.t 28)),mV 19 29] (.cond (.t 19) (sO [mI 6 1] .ret) (sO [mV 31 2,pU 32 (.bin .eql .no (.t 31) (.c (u0 0))),mV 30 32] (.cond (.t 30) (sO [mI 6 2] .ret) (.seq (.drawn [lD 34 12 true 3,cL 35 38 [(.t 34)],lD 36 12 true 4,cL 37 38 [(.t 36)],pU 38 (.bin .eql .no (.t 35) (.t 37)),mV 33 38] [[],[0],[],[2,1,0],[1,3,0,2],[4,3,1,0,2]]) (.cond (.t 33) (sO [mI 6 12] .ret) .skip))))))) (.seq (.drawn [lD 39 12 true 4,cL 40 37 [(.t 39),(cI 0)],mV 41 2,pU 42 (.build [(u0 0),(u0 0)] [(0,(1,(.t 40))),(1,(1,(.t 41)))]),lD 43 12 true 3,cL 44 37 [(.t 43),(cI 0)],mV 45 2,pU 46 (.build [(u0 0),(u0 0)] [(0,(1,(.t 44))),(1,(1,(.t 45)))]),(none,(.new 9 true [(u0 0),(u0 0)])),(none,(.new 10 true [(u0 0),(u0 0)])),sT 2 9 42,sT 2 10 46] [[],[0],[],[1,2,0],[],[4,1,0],[],[5,6,4,1,0],[],[],[8,3,5,0,1,2,9,4],[9,7,10,0,1,2,3,4,5,6,8]]) (.seq (sO [lD 47 3 true 7,lD 48 2 true 9,cL 49 39 [(.t 47),(.t 48)],mV 11 49] (sO [mV 50 11,pU 51 (.bin .neq .no (.t 50) (cI 0))] (.cond (.t 51) (sO [mV 52 11,mV 6 52] .ret) .skip))) (.seq (sO [lD 53 3 true 8,lD 54 2 true 10,cL 55 39 [(.t 53),(.t 54)],mV 12 55] (sO [mV 56 12,pU 57 (.bin .neq .no (.t 56) (cI 0))] (.cond (.t 57) (sO [mV 58 12,mV 6 58] .ret) .skip))) (sO [lD 59 3 true 7,lD 60 2 true 9,cL 61 24 [(.t 59),(.t 60)]] (sO [lD 62 3 true 8,lD 63 2 true 10,cL 64 24 [(.t 62),(.t 63)],mV 6 64] .ret)))))))) 65 [(.tmp 6)])
theorem fQTie:FA 10=some iQTie:=by kernel_rfl
def iQUntie:IFn:=(.mk (sO [(none,(.box 2 true (.t 0))),(none,(.box 3 true (.t 1))),mI 4 0] (sO [lD 9 12 true 2,lD 10 12 true 3,cL 11 36 [(.t 9),(.t 10)],mV 8 11,eX 12 0 8,eX 13 1 8,(none,(.new 5 true [p0,(i0 0),(i0 0)])),(none,(.new 6 true [p0,(i0 0),(i0 0)])),sT 3 5 12,sT 3 6 13] (.seq (sO [fD 14 0 5,fD 15 0 14,lD 16 1 false 15,pU 17 (.bin .eql .ptr (.t 16) (.c p0)),mV 18 17,((some (18,false)),(.pure 19 (.fadd 0 (.t 6)))),((some (18,false)),(.pure 20 (.fadd 0 (.t 19)))),((some (18,false)),(.load 21 1 false (.t 20))),((some (18,false)),(.pure 22 (.bin .eql .ptr (.t 21) (.c p0)))),pU 23 (.pick (.t 18) (.c (.bool true)) (.t 22))] (.cond (.t 23) (sO [mI 4 1] .ret) .skip)) (.seq (.seq (.drawn [lD 24 3 true 5,lD 25 12 true 3,cL 26 37 [(.t 25),(cI 0)],cL 27 22 [(.t 24),(.t 26)],mV 7 27] [[],[],[1],[0,2,1],[3,0,1,2]]) (sO [mV 28 7,pU 29 (.bin .neq .no (.t 28) (cI 0))] (.cond (.t 29) (sO [mV 30 7,mV 4 30] .ret) .skip))) (.seq (.drawn [lD 31 3 true 6,lD 32 12 true 2,cL 33 37 [(.t 32),(cI 0)],cL 34 22 [(.t 31),(.t 33)],mV 4 34] [[],[],[1],[0,2,1],[3,0,1,2]]) .ret))))) 35 [(.tmp 4)])
theorem fQUntie:FA 8=some iQUntie:=by kernel_rfl
end Go.AI
/- A node's address, number and parts, walked. -/
namespace Go.AI
open Go.Proofs
variable {x:Ar}{tbl t' t'':List (Nat×AObj Ar)}{nx n' n'' j a s i w z ty lo lo2 b P off:Nat}{L M Q:List (Nat×Nat)}
abbrev ndN(i:Nat):List Value:=[.pointer (some ⟨241,0,none⟩),.pointer (some ⟨2,0,none⟩),vI (4096*(i+2)+160),vI 32,.int .u64 (.ofNat (i+1)),.pointer (some ⟨2,0,none⟩),vI (4096*(i+2)+160),vI 32,vI 1024,.pointer (some ⟨2,0,none⟩),vI (4096*(i+2)+32),vI 992]
abbrev vN(i:Nat):Value:=.agg ⟨ndN i⟩
structure NHk(hk:List (HookF Ar)):Prop extends WHk6 hk where
 load:∃g,hookL hk 61=some (liftH spVLoad g)
 vat:hookL hk 62=none
 get:hookL hk 37=none
 whr:hookL hk 38=none
 prt:hookL hk 40=none
 szs:hookL hk 63=none
 opn:hookL hk 21=none
theorem vat_run{hk:List (HookF Ar)}(hh:NHk hk){n:Nat}:∃u h',RW hk (n+1) 62 [vW j a s] ⟨tbl,nx⟩=some (u,h')∧(u=vI a∧Kq tbl nx h'.tbl h'.next):=by
 refine run_fn hh.vat fVAt (zL rfl) ?_
 dsimp only[iVAt,argsE]
 refine WC.seq (WC.ops (WO.box (v:=vW j a s) (cs:=[.pointer (some ⟨j,0,none⟩),vI a,vI s]) rfl rfl (WO.mv rfl (WO.nil (zN ?_)))))
 refine WC.seq (WC.ops (WO.fadd rfl (WO.load (ob:=.cells [.pointer (some ⟨j,0,none⟩),vI a,vI s]) (v:=vI a) rfl (by rw[zC,if_pos rfl]) rfl rfl rfl (WO.mv rfl (WO.nil (zN (WC.ret ?_)))))))
 exact⟨_,_,rfl,rfl,rfl,Kq.refl.cons (Nat.le_refl _) (Nat.le_succ _)⟩
theorem where_run{hk:List (HookF Ar)}(hh:NHk hk){n:Nat}(hi:i<12):∃u h',RW hk (n+2) 38 [vN i] ⟨tbl,nx⟩=some (u,h')∧(u=vI (4096*(i+2))∧Kq tbl nx h'.tbl h'.next):=by
 refine run_fn hh.whr fNWhere (zL rfl) ?_
 dsimp only[iNWhere,argsE]
 refine WC.seq (WC.ops (WO.box (v:=vN i) (cs:=ndN i) rfl rfl (WO.mv rfl (WO.nil (zN ?_)))))
 refine WC.seq (WC.ops (WO.fadd rfl (WO.load (ob:=.cells (ndN i)) (v:=vW 2 (4096*(i+2)+32) 992) rfl (by rw[zC,if_pos rfl]) rfl rfl rfl ?_)))
 refine WO.fcall_ex (vs:=[vW 2 (4096*(i+2)+32) 992]) rfl rfl (vat_run (n:=n) hh) ?_
 rintro u ⟨t1,n1⟩ ⟨rfl,k1⟩
 refine WO.sub rfl rfl (by simp only[zO];omega) (by simp only[zO];omega) (WO.max2 rfl rfl (WO.mv rfl (WO.nil (zN (WC.ret ⟨_,_,rfl,rfl,?_,(Kq.refl.cons (Nat.le_refl _) (Nat.le_succ _)).trans k1⟩)))))
 refine congrArg (Value.int .i64) ?_
 simp only[zO]
 omega
theorem load_at{g:List Value→Option Value}{b m:Nat}(hl:look j tbl=some (.ext x))(hx:x.refuse<9223372036854775808)(hv:bytesE x (.ofNat a) (.ofNat s)=0)(ha:a<4611686018427387904)(hs:s<4294967296)(h:b+m≤s)(hm:wholeI (.ofNat m)=true):liftH spVLoad g [vW j a s,vI b,vI m] ⟨tbl,nx⟩=some (.tuple ⟨[numV (loadV x (.ofNat (a+b)) (.ofNat m)),errV 0]⟩,⟨tbl,nx⟩):=by
 have e:Nat.blt x.refuse 9223372036854775808=true:=by rw[blt_iff];exact decide_eq_true hx
 have hu:upd j (AObj.ext x) tbl=tbl:=upd_sameW hl
 have h1:firstV [vW j a s,vI b,vI m]=some j:=rfl
 have hb:Nat.beq j j=true:=Nat.beq_refl j
 have h2:canL j [vW j a s,vI b,vI m]=some [vwC (.ofNat a) (.ofNat s),vI b,vI m]:=by
  simp only[canL,canV,canFs,canF,hb,cond_true]
 have h3:=vload_in hv ha (by omega:b<4294967296) h hm (vckW h hs)
 have h4:backV j (.tuple ⟨[numV (loadV x (.ofNat (a+b)) (.ofNat m)),errV 0]⟩)=some (.tuple ⟨[numV (loadV x (.ofNat (a+b)) (.ofNat m)),errV 0]⟩):=rfl
 simp only[liftH,h1,hl,e,cond_true,h2,h3,h4,hu]
theorem get_run{hk:List (HookF Ar)}(hh:NHk hk){n:Nat}(hi:i<12)(hl:look 2 tbl=some (.ext x))(h2:2<nx)(hx:x.refuse<9223372036854775808)(hp:pgAt x.pages (i+2)=some P)(hw:pgW P 32 8=w) :
  ∃u h',RW hk (n+2) 37 [vN i,vI 0] ⟨tbl,nx⟩=some (u,h')∧(u = .int .u64 (.ofNat w)∧Kq tbl nx h'.tbl h'.next):=by
 obtain⟨g,hload⟩:=hh.load
 refine run_fn hh.get fNGet (zL rfl) ?_
 dsimp only[iNGet,argsE]
 refine WC.seq (WC.ops (WO.box (v:=vN i) (cs:=ndN i) rfl rfl (WO.mv rfl (WO.nil (zN ?_)))))
 have hl':look 2 ((nx,AObj.cells (ndN i))::tbl)=some (.ext x):=by rw[zC,if_neg (by show¬2=nx;omega)];exact hl
 refine WC.seq (WC.seq (WC.ops (WO.mv rfl (WO.pure (v:=.bool false) rfl (WO.mv rfl (WO.take rfl rfl (WO.mv rfl (WO.take rfl rfl (WO.pure (v:=.bool false) rfl (WO.pure (v:=.bool false) rfl (WO.nil (zN (WC.cond_false rfl (WC.skip (zN ?_)))))))))))))))
 refine WC.seq (WC.ops (WO.fadd rfl (WO.load (ob:=.cells (ndN i)) (v:=vW 2 (4096*(i+2)+32) 992) rfl (by rw[zC,if_pos rfl]) rfl rfl rfl (WO.mv rfl (WO.pure (v:=vI 0) rfl ?_)))))
 refine WO.fcall (vs:=[vW 2 (4096*(i+2)+32) 992,vI 0,vI 8]) rfl rfl ((run_hook (n:=n) hload).trans (load_at (b:=0) (m:=8) hl' hx (bytesE_in (off:=32) (k:=992) hp (by decide)) (by omega) (by decide) (by decide) rfl)) ?_
 refine WO.mv rfl (WO.pure (v:=.int .u64 (.ofNat w)) ?_ (WO.pure (v:=errV 0) rfl (WO.mv rfl (WO.mv rfl (WO.nil (zN (WC.seq (WC.ops (WO.mv rfl (WO.mv rfl (WO.nil (zN (WC.ret ⟨_,_,rfl,rfl,rfl,Kq.refl.cons (Nat.le_refl _) (Nat.le_succ _)⟩)))))))))))))
 have:loadV x (.ofNat (4096*(i+2)+32+0)) (.ofNat 8)=w:=by
  rw[Nat.add_zero,loadV_in hp (by omega) rfl (by decide)];exact hw
 rw[this];rfl
theorem sizes_run{hk:List (HookF Ar)}(hh:NHk hk){n:Nat}:∃u h',RW hk (n+1) 63 [] ⟨tbl,nx⟩=some (u,h')∧(u = .agg ⟨[vI 192,vI 96,vI 128,vI 128,vI 128]⟩∧Kq tbl nx h'.tbl h'.next):=by
 refine run_fn hh.szs fNSizes (zL rfl) ?_
 dsimp only[iNSizes,argsE]
 refine WC.seq (WC.ops (WO.new (WO.nil (zN ?_))))
 refine WC.seq (WC.ops (WO.pure (v:=.agg ⟨[vI 192,vI 96,vI 128,vI 128,vI 128]⟩) rfl (WO.step (i:=.store 5 (.t 0) (.t 1)) (v:=undef) (m':=⟨[],(nx,.cells [vI 192,vI 96,vI 128,vI 128,vI 128])::tbl,nx+1⟩) ?_ (WO.nil (zN (WC.ret ?_))))))
 ·have hm:=mem_store (nx:=nx+1) (vs:=[vI 192,vI 96,vI 128,vI 128,vI 128]) (o:=0) (ob':=.cells [vI 192,vI 96,vI 128,vI 128,vI 128]) (tbl:=(nx,AObj.cells [vI 0,vI 0,vI 0,vI 0,vI 0])::tbl) (i:=nx) (by rw[zC,if_pos rfl]) rfl (zL rfl) rfl
  rw[updH] at hm
  exact estep_store rfl rfl rfl rfl hm
 ·have hl:(⟨[],(nx,AObj.cells [vI 192,vI 96,vI 128,vI 128,vI 128])::tbl,nx+1⟩:Mem Ar).load ⟨nx,0,none⟩ 5=some [vI 192,vI 96,vI 128,vI 128,vI 128]:=mem_load (by rw[zC,if_pos rfl]) rfl rfl
  exact⟨_,_,resV_cell rfl hl rfl rfl,rfl,rfl,Kq.refl.cons (Nat.le_refl _) (Nat.le_succ _)⟩
end Go.AI
/- A node's parts, walked. -/
namespace Go.AI
open Go.Proofs
variable {x:Ar}{tbl t' t'':List (Nat×AObj Ar)}{nx n' n'' j a s i w z ty lo lo2 b P off m:Nat}{L M Q:List (Nat×Nat)}
def ptAt:Nat→Nat
 |0=>192
 |1=>384
 |2=>480
 |3=>608
 |_=>736
def ptSz:Nat→Nat
 |0=>192
 |1=>96
 |_=>128
theorem pt_get(h:i<5){env:List (Nat×Value)}{p q:Opd}(hp:evo env p=some (.agg ⟨[vI 192,vI 96,vI 128,vI 128,vI 128]⟩))(hq:evo env q=some (vI i)):peval env (.idxG 5 1 false p q)=some (vI (ptSz i)):=by
 match i,h with
 |0,_=>simp only[peval,hp,hq];rfl
 |1,_=>simp only[peval,hp,hq];rfl
 |2,_=>simp only[peval,hp,hq];rfl
 |3,_=>simp only[peval,hp,hq];rfl
 |4,_=>simp only[peval,hp,hq];rfl
theorem pt_next(h:i<4):ptAt i+ptSz i=ptAt (i+1):=by
 match i,h with
 |0,_=>rfl
 |1,_=>rfl
 |2,_=>rfl
 |3,_=>rfl
theorem pt_le(i:Nat):ptAt i+ptSz i≤992:=by
 unfold ptAt ptSz
 split<;>split<;>simp_all
theorem part_run{hk:List (HookF Ar)}(hh:NHk hk){n:Nat}(hn:10≤n)(hm:m<5)(hi:i<12)(hl:look 2 tbl=some (.ext x))(h2:2<nx)(hx:x.refuse<9223372036854775808)(hp:pgAt x.pages (i+2)=some P) :
  ∃u h',RW hk (n+2) 40 [vN i,vI m] ⟨tbl,nx⟩=some (u,h')∧(u=vW 2 (4096*(i+2)+(32+ptAt m)) (ptSz m)∧Kq tbl nx h'.tbl h'.next):=by
 obtain⟨g,hpart⟩:=hh.part
 refine run_fn hh.prt fNPart (zL rfl) ?_
 dsimp only[iNPart,argsE]
 refine WC.seq (WC.ops (WO.box (v:=vN i) (cs:=ndN i) rfl rfl (WO.new (WO.nil (zN ?_)))))
 have K0:Kq tbl nx ((nx+1,AObj.cells [.pointer none,.int .i64 (.ofNat 0),.int .i64 (.ofNat 0)])::(nx,.cells (ndN i))::tbl) (nx+1+1):=(Kq.refl.cons (Nat.le_refl _) (Nat.le_succ _)).cons (by omega) (by omega)
 have c0:look nx ((nx+1,AObj.cells [.pointer none,.int .i64 (.ofNat 0),.int .i64 (.ofNat 0)])::(nx,.cells (ndN i))::tbl)=some (.cells (ndN i)):=by rw[zC,if_neg (by show¬nx=nx+1;omega),zC,if_pos rfl]
 have c1:look (nx+1) ((nx+1,AObj.cells [.pointer none,.int .i64 (.ofNat 0),.int .i64 (.ofNat 0)])::(nx,.cells (ndN i))::tbl)=some (.cells [.pointer none,.int .i64 (.ofNat 0),.int .i64 (.ofNat 0)]):=by rw[zC,if_pos rfl]
 generalize((nx+1,AObj.cells [.pointer none,.int .i64 (.ofNat 0),.int .i64 (.ofNat 0)])::(nx,.cells (ndN i))::tbl)=T0 at K0 c0 c1 ⊢
 refine WC.seq (WC.seq (WC.ops (WO.mv rfl (WO.lssS rfl rfl (fun h=>absurd h (by simp only[zO];omega)) (fun _=>?_)))))
 refine WO.mv rfl (WO.take rfl rfl (WO.mv rfl (WO.take rfl rfl (WO.geqS rfl rfl (fun h=>absurd h (by simp only[zO];omega)) (fun _=>?_)))))
 refine WO.pure (v:=.bool false) rfl (WO.nil (zN (WC.cond_false rfl (WC.skip (zN (WC.seq (WC.ops (WO.mv rfl (WO.nil (zN (WC.seq (WC.seq (WC.ops ?_)))))))))))))
 refine WO.fcall_ex (vs:=[]) rfl rfl (sizes_run (n:=n) hh) ?_
 rintro u ⟨t1,n1⟩ ⟨rfl,k1⟩
 dsimp only at k1
 have g1:nx+1+1≤n1:=k1.1
 refine WO.mv rfl (WO.nil (zN (WC.block ?_)))
 refine WC.loop (fun q e tb nb=>∃c,c+q=m∧e 1=some (vI m)∧e 2=some (.pointer (some ⟨nx,0,none⟩))∧e 4=some (.pointer (some ⟨nx+1,0,none⟩))∧e 5=some (vI (ptAt c))∧e 17=some (.agg ⟨[vI 192,vI 96,vI 128,vI 128,vI 128]⟩)∧e 18=some (vI c)∧Kq T0 (nx+1+1) tb nb) (k:=m) (by omega)
  ⟨0,by omega,rfl,rfl,rfl,rfl,rfl,rfl,k1⟩ ?_
 rintro q e tb nb ⟨c,hcq,e1,e2,e4,e5,e17,e18,K⟩
 dsimp only at e1 e2 e4 e5 e17 e18
 have hl2:look 2 tb=some (.ext x):=(K.2 2 (by omega)).trans ((K0.2 2 h2).trans hl)
 have hc0:=(K.2 nx (by omega)).trans c0
 have hc1:=(K.2 (nx+1) (by omega)).trans c1
 have gb:nx+1+1≤nb:=K.1
 have hc5:c<5:=by omega
 refine WC.seq (WC.ops (WO.lssS e18 rfl (fun _=>?_) (fun h=>absurd h (by simp only[zO];omega))))
 refine WO.nil (zN (WC.seq (WC.cond_true rfl (WC.skip (zN (WC.seq (WC.block (WC.seq (WC.ops ?_)))))))))
 refine WO.mv e18 (WO.pure (pt_get hc5 (by exact e17) (by exact e18)) (WO.mv rfl (WO.mv rfl (WO.nil (zN (WC.seq (WC.seq (WC.ops (WO.mv rfl (WO.mv (by exact e1) (WO.eqlS rfl rfl (fun h=>?_) (fun h=>?_))))))))))))
 ·have hcm:c=m:=Int.ofNat.inj h
  subst hcm
  refine WO.nil (zN (WC.cond_true rfl (WC.seq (WC.ops (WO.fadd (by exact e2) (WO.load (ob:=.cells (ndN i)) (v:=vW 2 (4096*(i+2)+32) 992) rfl hc0 rfl rfl rfl (WO.mv (by exact e5) (WO.mv rfl ?_))))))))
  refine WO.fcall (vs:=[vW 2 (4096*(i+2)+32) 992,vI (ptAt c),vI (ptSz c)]) rfl rfl ((run_hook (n:=n) hpart).trans (part_at hl2 hx (bytesE_in (off:=32) (k:=992) hp (by decide)) (by omega) (by decide) (pt_le c))) ?_
  refine WO.mv rfl (WO.pure (v:=vW 2 (4096*(i+2)+32+ptAt c) (ptSz c)) rfl (WO.pure (v:=errV 0) rfl (WO.nstW rfl (WO.mv rfl (WO.nil (zN ?_))))))
  rw[Nat.add_assoc]
  have d1:look nb ((nb,AObj.cells [.pointer (some ⟨2,0,none⟩),vI (4096*(i+2)+(32+ptAt c)),vI (ptSz c)])::tb)=some (.cells [.pointer (some ⟨2,0,none⟩),vI (4096*(i+2)+(32+ptAt c)),vI (ptSz c)]):=by rw[zC,if_pos rfl]
  have d2:look (nx+1) ((nb,AObj.cells [.pointer (some ⟨2,0,none⟩),vI (4096*(i+2)+(32+ptAt c)),vI (ptSz c)])::tb)=some (.cells [.pointer none,.int .i64 (.ofNat 0),.int .i64 (.ofNat 0)]):=by rw[zC,if_neg (by show¬nx+1=nb;omega)];exact hc1
  have KA:Kq tbl nx ((nb,AObj.cells [.pointer (some ⟨2,0,none⟩),vI (4096*(i+2)+(32+ptAt c)),vI (ptSz c)])::tb) (nb+1):=K0.trans (K.cons gb (Nat.le_succ _))
  generalize((nb,AObj.cells [.pointer (some ⟨2,0,none⟩),vI (4096*(i+2)+(32+ptAt c)),vI (ptSz c)])::tb)=T1 at d1 d2 KA ⊢
  have hm:=mem_store (nx:=nb+1) (vs:=[Value.pointer (some ⟨2,0,none⟩),vI (4096*(i+2)+(32+ptAt c)),vI (ptSz c)]) (o:=0) (ob':=.cells [.pointer (some ⟨2,0,none⟩),vI (4096*(i+2)+(32+ptAt c)),vI (ptSz c)]) d2 rfl (zL rfl) rfl
  refine WC.seq (WC.ops (WO.load (ob:=.cells [.pointer (some ⟨2,0,none⟩),vI (4096*(i+2)+(32+ptAt c)),vI (ptSz c)]) (v:=vW 2 (4096*(i+2)+(32+ptAt c)) (ptSz c)) rfl d1 rfl rfl rfl (WO.step (i:=.store 3 (.t 4) (.t 33)) (v:=undef) (m':=⟨[],upd (nx+1) (.cells [.pointer (some ⟨2,0,none⟩),vI (4096*(i+2)+(32+ptAt c)),vI (ptSz c)]) T1,nb+1⟩) (estep_store (by exact e4) rfl rfl rfl hm) (WO.nil (zN (WC.ret ?_))))))
  have hl3:(⟨[],upd (nx+1) (.cells [.pointer (some ⟨2,0,none⟩),vI (4096*(i+2)+(32+ptAt c)),vI (ptSz c)]) T1,nb+1⟩:Mem Ar).load ⟨nx+1,0,none⟩ 3=some [.pointer (some ⟨2,0,none⟩),vI (4096*(i+2)+(32+ptAt c)),vI (ptSz c)]:=mem_load (zS d2) rfl rfl
  exact⟨_,_,resV_cell (by exact e4) hl3 rfl rfl,rfl,rfl,by show nx≤nb+1;omega,fun q hq=>(zU (by omega)).trans (KA.2 q hq)⟩
 ·have hcm:c≠m:=fun e=>h (by rw[e])
  refine WO.nil (zN (WC.cond_false rfl (WC.skip (zN (WC.ops (WO.mv (by exact e5) (WO.mv rfl (WO.add rfl rfl (by simp only[zO];omega) (by have:=pt_le c;simp only[zO];omega) (WO.mv rfl (WO.nil ?_))))))))))
  refine zB (zN (WC.ops (WO.add (by exact e18) rfl (by simp only[zO];omega) (by simp only[zO];omega) (WO.mv rfl (WO.nil ?_)))))
  exact⟨q-1,by omega,rfl,c+1,by omega,by exact e1,by exact e2,by exact e4,congrArg (fun y=>some (vI y)) (pt_next (by omega)),by exact e17,rfl,K⟩
end Go.AI
/- Whom a node holds, and who holds it, walked. -/
namespace Go.AI
open Go.Proofs
variable {x:Ar}{tbl t' t'':List (Nat×AObj Ar)}{nx n' n'' j a s i k w z ty lo lo2 b P R off m:Nat}{L M Q:List (Nat×Nat)}
def tgP(P:Nat):List (Nat×Nat):=pgL P 640 8 0
def hdP(P:Nat):List (Nat×Nat):=pgL P 768 8 0
structure THk(hk:List (HookF Ar)):Prop extends NHk hk where
 tgt:hookL hk 14=none
 hld:hookL hk 16=none
 pts:hookL hk 36=none
theorem ceqs_nd:ceqs (ndN i) (ndN i)=true:=by
 simp[ceqs,ceq,ieqF_refl]
theorem lks_at(hp:pgAt x.pages (i+2)=some P)(ho:off+128≤4096):lks x (4096*(i+2)+off) (128 / 16) 0=pgL P off 8 0 :=
 lks_pg hp _ _ (by omega)
theorem targets_run{hk:List (HookF Ar)}(hh:THk hk){n:Nat}(hn:110≤n)(hi:i<12)(hl:look 2 tbl=some (.ext x))(h2:2<nx)(hx:x.refuse<9223372036854775808)(hp:pgAt x.pages (i+2)=some P) :
  ∃u h',RW hk (n+4) 14 [vN i] ⟨tbl,nx⟩=some (u,h')∧(RowK nx h'.tbl h'.next u (tgP P)∧Kq tbl nx h'.tbl h'.next):=by
 refine run_fn hh.tgt fQTargets (zL rfl) ?_
 dsimp only[iQTargets,argsE]
 have K0:Kq tbl nx ((nx,AObj.cells (ndN i))::tbl) (nx+1):=Kq.refl.cons (Nat.le_refl _) (Nat.le_succ _)
 refine WC.seq (WC.ops (WO.box (v:=vN i) (cs:=ndN i) rfl rfl (WO.mv rfl (WO.nil (zN ?_)))))
 refine WC.seq (WC.ops (WO.load (ob:=.cells (ndN i)) (v:=vN i) rfl (by rw[zC,if_pos rfl]) rfl rfl rfl ?_))
 refine WO.fcall_ex (vs:=[vN i,vI 3]) rfl rfl (part_run (nx:=nx+1) (m:=3) (n:=n+1) hh.toNHk (by omega) (by decide) hi ((K0.2 2 h2).trans hl) (by omega) hx hp) ?_
 rintro u ⟨t1,n1⟩ ⟨rfl,k1⟩
 dsimp only at k1
 have K1:=K0.trans k1
 refine WO.fcall_ex (vs:=[vW 2 (4096*(i+2)+(32+ptAt 3)) (ptSz 3)]) rfl rfl (open_run (n:=n+2) hh.opn) ?_
 rintro u ⟨t2,n2⟩ ⟨rfl,k2⟩
 dsimp only at k2
 have K2:=K1.trans k2
 refine WO.fcall_ex (vs:=[vW 2 (4096*(i+2)+640) 128]) rfl rfl (allk_run (nx:=n2) (n:=n) hh.toWHk (by omega) ((K2.2 2 h2).trans hl) (by have:=K2.1;omega) hx (bytesE_in (off:=640) (k:=128) hp (by decide)) (by omega) (by decide)) ?_
 rintro u ⟨t3,n3⟩ ⟨R3,k3⟩
 dsimp only at k3 R3
 rw[lks_at hp (by decide)] at R3
 refine WO.mv rfl (WO.nil (zN (WC.ret ⟨_,_,rfl,rfl,?_,K2.trans k3⟩)))
 rcases R3 with h|⟨h0,r,h1,h2,h3,h4⟩
 ·exact .inl h
 ·exact .inr ⟨h0,r,Nat.le_trans K2.1 h1,h2,h3,h4⟩
theorem holders_run{hk:List (HookF Ar)}(hh:THk hk){n:Nat}(hn:110≤n)(hi:i<12)(hl:look 2 tbl=some (.ext x))(h2:2<nx)(hx:x.refuse<9223372036854775808)(hp:pgAt x.pages (i+2)=some P) :
  ∃u h',RW hk (n+4) 16 [vN i] ⟨tbl,nx⟩=some (u,h')∧(RowK nx h'.tbl h'.next u (hdP P)∧Kq tbl nx h'.tbl h'.next):=by
 refine run_fn hh.hld fQHolders (zL rfl) ?_
 dsimp only[iQHolders,argsE]
 have K0:Kq tbl nx ((nx,AObj.cells (ndN i))::tbl) (nx+1):=Kq.refl.cons (Nat.le_refl _) (Nat.le_succ _)
 refine WC.seq (WC.ops (WO.box (v:=vN i) (cs:=ndN i) rfl rfl (WO.mv rfl (WO.nil (zN ?_)))))
 refine WC.seq (WC.ops (WO.load (ob:=.cells (ndN i)) (v:=vN i) rfl (by rw[zC,if_pos rfl]) rfl rfl rfl ?_))
 refine WO.fcall_ex (vs:=[vN i,vI 4]) rfl rfl (part_run (nx:=nx+1) (m:=4) (n:=n+1) hh.toNHk (by omega) (by decide) hi ((K0.2 2 h2).trans hl) (by omega) hx hp) ?_
 rintro u ⟨t1,n1⟩ ⟨rfl,k1⟩
 dsimp only at k1
 have K1:=K0.trans k1
 refine WO.fcall_ex (vs:=[vW 2 (4096*(i+2)+(32+ptAt 4)) (ptSz 4)]) rfl rfl (open_run (n:=n+2) hh.opn) ?_
 rintro u ⟨t2,n2⟩ ⟨rfl,k2⟩
 dsimp only at k2
 have K2:=K1.trans k2
 refine WO.fcall_ex (vs:=[vW 2 (4096*(i+2)+768) 128]) rfl rfl (allk_run (nx:=n2) (n:=n) hh.toWHk (by omega) ((K2.2 2 h2).trans hl) (by have:=K2.1;omega) hx (bytesE_in (off:=768) (k:=128) hp (by decide)) (by omega) (by decide)) ?_
 rintro u ⟨t3,n3⟩ ⟨R3,k3⟩
 dsimp only at k3 R3
 rw[lks_at hp (by decide)] at R3
 refine WO.mv rfl (WO.nil (zN (WC.ret ⟨_,_,rfl,rfl,?_,K2.trans k3⟩)))
 rcases R3 with h|⟨h0,r,h1,h2,h3,h4⟩
 ·exact .inl h
 ·exact .inr ⟨h0,r,Nat.le_trans K2.1 h1,h2,h3,h4⟩
theorem lookN{o:AObj Ar}{p q:Nat}(h:p≠q):look p ((q,o)::tbl)=look p tbl:=by rw[zC,if_neg h]
abbrev vZ3:List Value:=[.pointer none,.int .i64 (.ofNat 0),.int .i64 (.ofNat 0)]
abbrev cW(j a s:Nat):List Value:=[.pointer (some ⟨j,0,none⟩),vI a,vI s]
theorem parts_run{hk:List (HookF Ar)}(hh:THk hk){n:Nat}(hn:110≤n)(hi:i<12)(hk2:k<12)(hl:look 2 tbl=some (.ext x))(h2:2<nx)(hx:x.refuse<9223372036854775808)(hp:pgAt x.pages (i+2)=some P)(hr:pgAt x.pages (k+2)=some R) :
  ∃u h',RW hk (n+4) 36 [vN i,vN k] ⟨tbl,nx⟩=some (u,h')∧(u = .tuple ⟨[vW 2 (4096*(i+2)+640) 128,vW 2 (4096*(k+2)+768) 128]⟩∧Kq tbl nx h'.tbl h'.next):=by
 refine run_fn hh.pts fQparts (zL rfl) ?_
 dsimp only[iQparts,argsE]
 refine WC.seq (WC.ops (WO.box (v:=vN i) (cs:=ndN i) rfl rfl (WO.box (v:=vN k) (cs:=ndN k) rfl rfl (WO.new (WO.new (WO.nil (zN ?_)))))))
 have K0:Kq tbl nx ((nx+1+1+1,AObj.cells vZ3)::(nx+1+1,.cells vZ3)::(nx+1,.cells (ndN k))::(nx,.cells (ndN i))::tbl) (nx+4):=(((Kq.refl.cons (Nat.le_refl _) (Nat.le_succ _)).cons (by omega) (Nat.le_succ _)).cons (by omega) (Nat.le_succ _)).cons (by omega) (by omega)
 have c0:look nx ((nx+1+1+1,AObj.cells vZ3)::(nx+1+1,.cells vZ3)::(nx+1,.cells (ndN k))::(nx,.cells (ndN i))::tbl)=some (.cells (ndN i)):=by rw[lookN (by omega),lookN (by omega),lookN (by omega),zC,if_pos rfl]
 have c1:look (nx+1) ((nx+1+1+1,AObj.cells vZ3)::(nx+1+1,.cells vZ3)::(nx+1,.cells (ndN k))::(nx,.cells (ndN i))::tbl)=some (.cells (ndN k)):=by rw[lookN (by omega),lookN (by omega),zC,if_pos rfl]
 have c2:look (nx+1+1) ((nx+1+1+1,AObj.cells vZ3)::(nx+1+1,.cells vZ3)::(nx+1,.cells (ndN k))::(nx,.cells (ndN i))::tbl)=some (.cells vZ3):=by rw[lookN (by omega),zC,if_pos rfl]
 have c3:look (nx+1+1+1) ((nx+1+1+1,AObj.cells vZ3)::(nx+1+1,.cells vZ3)::(nx+1,.cells (ndN k))::(nx,.cells (ndN i))::tbl)=some (.cells vZ3):=by rw[zC,if_pos rfl]
 generalize((nx+1+1+1,AObj.cells vZ3)::(nx+1+1,.cells vZ3)::(nx+1,.cells (ndN k))::(nx,.cells (ndN i))::tbl)=T0 at K0 c0 c1 c2 c3 ⊢
 refine WC.seq (WC.drawnW ?_)
 have U0:Kq T0 (nx+4) T0 (nx+4+8):=Kq.refl.up (Nat.le_add_right _ _)
 have L2:∀{t n},Kq T0 (nx+4) t n→look 2 t=some (.ext x):=fun K=>((K0.trans K).2 2 h2).trans hl
 obtain⟨u1,⟨t1,n1⟩,d1,rfl,k1⟩:=part_run (nx:=nx+4+8) (m:=3) (n:=n+1) hh.toNHk (by omega) (by decide) hi (L2 U0) (by omega) hx hp
 dsimp only at k1
 have K1:=U0.trans k1
 obtain⟨u2,⟨t2,n2⟩,d2,rfl,k2⟩:=open_run (tbl:=t1) (nx:=n1) (j:=2) (a:=4096*(i+2)+640) (s:=128) (n:=n+2) hh.opn
 dsimp only at k2
 have K2:=K1.trans k2
 obtain⟨u3,⟨t3,n3⟩,d3,rfl,k3⟩:=part_run (nx:=n2) (m:=4) (n:=n+1) hh.toNHk (by omega) (by decide) hk2 (L2 K2) (by have:=K2.1;omega) hx hr
 dsimp only at k3
 have K3:=K2.trans k3
 obtain⟨u4,⟨t4,n4⟩,d4,rfl,k4⟩:=open_run (tbl:=t3) (nx:=n3) (j:=2) (a:=4096*(k+2)+768) (s:=128) (n:=n+2) hh.opn
 dsimp only at k4
 have K4:=K3.trans k4
 have x0:∀m,(⟨[],T0,m⟩:Mem Ar).load ⟨nx,0,none⟩ 12=some (ndN i):=fun m=>mem_load c0 rfl rfl
 have y0:∀m,(⟨[],T0,m⟩:Mem Ar).load ⟨nx+1,0,none⟩ 12=some (ndN k):=fun m=>mem_load c1 rfl rfl
 have y1:(⟨[],t1,n1⟩:Mem Ar).load ⟨nx+1,0,none⟩ 12=some (ndN k):=mem_load ((K1.2 (nx+1) (by omega)).trans c1) rfl rfl
 have y2:(⟨[],t2,n2⟩:Mem Ar).load ⟨nx+1,0,none⟩ 12=some (ndN k):=mem_load ((K2.2 (nx+1) (by omega)).trans c1) rfl rfl
 have e2:=(K4.2 (nx+1+1) (by omega)).trans c2
 have e3:=(K4.2 (nx+1+1+1) (by omega)).trans c3
 have s2:(⟨[],t4,n4⟩:Mem Ar).store ⟨nx+1+1,0,none⟩ (cW 2 (4096*(i+2)+640) 128)=some ⟨[],upd (nx+1+1) (.cells (cW 2 (4096*(i+2)+640) 128)) t4,n4⟩:=mem_store e2 rfl (zL rfl) rfl
 have s3:(⟨[],upd (nx+1+1) (.cells (cW 2 (4096*(i+2)+640) 128)) t4,n4⟩:Mem Ar).store ⟨nx+1+1+1,0,none⟩ (cW 2 (4096*(k+2)+768) 128)=some ⟨[],upd (nx+1+1+1) (.cells (cW 2 (4096*(k+2)+768) 128)) (upd (nx+1+1) (.cells (cW 2 (4096*(i+2)+640) 128)) t4),n4⟩:=mem_store ((zU (by omega)).trans e3) rfl (zL rfl) rfl
 refine WD.load (m:=⟨[],T0,nx+4+8⟩) (ms:=[]) (v:=vN i) (evOut rfl rfl rfl) (x0 _) rfl ?_
 refine WD.chn (m:=⟨[],T0,nx+4+8⟩) (m':=⟨[],t1,n1⟩) (v:=vW 2 (4096*(i+2)+640) 128) rfl rfl rfl (estep_call (m:=⟨[],T0,nx+4+8⟩) (h:=⟨t1,n1⟩) (vs:=[vN i,vI 3]) rfl rfl d1) ?_
 refine WD.chn (m:=⟨[],t1,n1⟩) (m':=⟨[],t2,n2⟩) (v:=vW 2 (4096*(i+2)+640) 128) rfl rfl rfl (estep_call (m:=⟨[],t1,n1⟩) (h:=⟨t2,n2⟩) (vs:=[vW 2 (4096*(i+2)+640) 128]) rfl rfl d2) ?_
 refine WD.load (m:=⟨[],t2,n2⟩) (v:=vN k) (evOut rfl rfl rfl) y2 rfl ?_
 refine WD.chn (m:=⟨[],t2,n2⟩) (m':=⟨[],t3,n3⟩) (v:=vW 2 (4096*(k+2)+768) 128) rfl rfl rfl (estep_call (m:=⟨[],t2,n2⟩) (h:=⟨t3,n3⟩) (vs:=[vN k,vI 4]) rfl rfl d3) ?_
 refine WD.chn (m:=⟨[],t3,n3⟩) (m':=⟨[],t4,n4⟩) (v:=vW 2 (4096*(k+2)+768) 128) rfl rfl rfl (estep_call (m:=⟨[],t3,n3⟩) (h:=⟨t4,n4⟩) (vs:=[vW 2 (4096*(k+2)+768) 128]) rfl rfl d4) ?_
 refine WD.chn (m:=⟨[],t4,n4⟩) (v:=undef) rfl rfl rfl (estep_store (m:=⟨[],t4,n4⟩) (evOut rfl rfl rfl) rfl rfl rfl s2) ?_
 refine WD.chn (m:=⟨[],upd (nx+1+1) (.cells (cW 2 (4096*(i+2)+640) 128)) t4,n4⟩) (v:=undef) rfl rfl rfl (estep_store (m:=⟨[],upd (nx+1+1) (.cells (cW 2 (4096*(i+2)+640) 128)) t4,n4⟩) (evOut rfl rfl rfl) rfl rfl rfl s3) (WD.nil ⟨?_,_,_,rfl,?_⟩)
 ·simp only[heldAll,loadsIn,x0,y0,y1,y2,ceqs_nd]
  rfl
 refine zN (WC.ret ?_)
 have f2:=(zU (i:=nx+1+1+1) (j:=nx+1+1) (o':=AObj.cells (cW 2 (4096*(k+2)+768) 128)) (by omega)).trans (zS (o':=AObj.cells (cW 2 (4096*(i+2)+640) 128)) e2)
 have f3:=zS (o':=AObj.cells (cW 2 (4096*(k+2)+768) 128)) ((zU (i:=nx+1+1) (j:=nx+1+1+1) (o':=AObj.cells (cW 2 (4096*(i+2)+640) 128)) (by omega)).trans e3)
 have K5:Kq tbl nx (upd (nx+1+1+1) (AObj.cells (cW 2 (4096*(k+2)+768) 128)) (upd (nx+1+1) (.cells (cW 2 (4096*(i+2)+640) 128)) t4)) n4 :=
  ⟨(K0.trans K4).1,fun q hq=>(zU (by omega)).trans ((zU (by omega)).trans ((K0.trans K4).2 q hq))⟩
 generalize(upd (nx+1+1+1) (AObj.cells (cW 2 (4096*(k+2)+768) 128)) (upd (nx+1+1) (.cells (cW 2 (4096*(i+2)+640) 128)) t4))=T5 at f2 f3 K5 ⊢
 have z2:(⟨[],T5,n4⟩:Mem Ar).load ⟨nx+1+1,0,none⟩ 3=some (cW 2 (4096*(i+2)+640) 128):=mem_load f2 rfl rfl
 have z3:(⟨[],T5,n4⟩:Mem Ar).load ⟨nx+1+1+1,0,none⟩ 3=some (cW 2 (4096*(k+2)+768) 128):=mem_load f3 rfl rfl
 exact⟨_,_,resV_cell rfl z2 rfl (resV_cell rfl z3 rfl rfl),rfl,rfl,K5⟩
end Go.AI
/- A tie is cut, walked. -/
namespace Go.AI
open Go.Proofs
variable {x:Ar}{tbl t' t'':List (Nat×AObj Ar)}{nx n' n'' j a s i k w z ty lo lo2 b P R off m:Nat}{L M Q:List (Nat×Nat)}
structure UHk(hk:List (HookF Ar)):Prop extends THk hk where
 unt:hookL hk 8=none
 tie:hookL hk 10=none
def hasW(L:List (Nat×Nat))(w:Nat):Bool:=L.any fun c=>decide (c.1=w)
theorem pX_ne{q Y:Nat}(h:q≠s):pgAt (pX x s Y).pages q=pgAt x.pages q:=pgAt_set_ne h
theorem pX_ref{Y:Nat}:(pX x s Y).refuse=x.refuse:=rfl
def cutX(x:Ar)(i k P R:Nat):Ar:=pX (pX x (i+2) (dropP P 640 128 (k+1))) (k+2) (dropP R 768 128 (i+1))
theorem untie_run{hk:List (HookF Ar)}(hh:UHk hk){n:Nat}(hn:110≤n)(hi:i<12)(hk2:k<12)(hl:look 2 tbl=some (.ext x))(h2:2<nx)(hx:x.refuse<9223372036854775808)(hp:pgAt x.pages (i+2)=some P)(hr:pgAt x.pages (k+2)=some R)
  (hwi:pgW P 32 8=i+1) (hwk:pgW R 32 8=k+1) (hu:Uni (tgP P)) (hne:hasW (tgP P) (k+1)=true→i≠k) (hsy:hasW (tgP P) (k+1)=true→hasW (hdP R) (i+1)=true) :
  ∃u h',RW hk (n+7) 8 [vN i,vN k] ⟨tbl,nx⟩=some (u,h')∧(u=errV (if hasW (tgP P) (k+1)=true then 0 else 8)∧Kx 2 tbl nx h'.tbl h'.next∧look 2 h'.tbl=some (.ext (if hasW (tgP P) (k+1)=true then cutX x i k P R else x))):=by
 refine run_fn hh.unt fQUntie (zL rfl) ?_
 dsimp only[iQUntie,argsE]
 refine WC.seq (WC.ops (WO.box (v:=vN i) (cs:=ndN i) rfl rfl (WO.box (v:=vN k) (cs:=ndN k) rfl rfl (WO.mv rfl (WO.nil (zN ?_))))))
 have K0:Kq tbl nx ((nx+1,AObj.cells (ndN k))::(nx,.cells (ndN i))::tbl) (nx+2):=(Kq.refl.cons (Nat.le_refl _) (Nat.le_succ _)).cons (by omega) (Nat.le_succ _)
 have c0:look nx ((nx+1,AObj.cells (ndN k))::(nx,.cells (ndN i))::tbl)=some (.cells (ndN i)):=by rw[lookN (by omega),zC,if_pos rfl]
 have c1:look (nx+1) ((nx+1,AObj.cells (ndN k))::(nx,.cells (ndN i))::tbl)=some (.cells (ndN k)):=by rw[zC,if_pos rfl]
 generalize((nx+1,AObj.cells (ndN k))::(nx,.cells (ndN i))::tbl)=T0 at K0 c0 c1 ⊢
 have l0:=(K0.2 2 h2).trans hl
 refine WC.seq (WC.ops (WO.load (ob:=.cells (ndN i)) (v:=vN i) rfl c0 rfl rfl rfl (WO.load (ob:=.cells (ndN k)) (v:=vN k) rfl c1 rfl rfl rfl ?_)))
 refine WO.fcall_ex (vs:=[vN i,vN k]) rfl rfl (parts_run (nx:=nx+2) (n:=n+2) hh.toTHk (by omega) hi hk2 l0 (by omega) hx hp hr) ?_
 rintro u ⟨t1,n1⟩ ⟨rfl,k1⟩
 dsimp only at k1
 have g1:nx+2≤n1:=k1.1
 refine WO.mv rfl (WO.pure (v:=vW 2 (4096*(i+2)+640) 128) rfl (WO.pure (v:=vW 2 (4096*(k+2)+768) 128) rfl (WO.new (WO.new ?_))))
 have b1:look n1 ((n1+1,AObj.cells vZ3)::(n1,.cells vZ3)::t1)=some (.cells vZ3):=by rw[lookN (by omega),zC,if_pos rfl]
 have b2:look (n1+1) ((n1+1,AObj.cells vZ3)::(n1,.cells vZ3)::t1)=some (.cells vZ3):=by rw[zC,if_pos rfl]
 have K1:Kq T0 (nx+2) ((n1+1,AObj.cells vZ3)::(n1,.cells vZ3)::t1) (n1+2):=(k1.cons g1 (Nat.le_succ _)).cons (by omega) (Nat.le_succ _)
 have s2:(⟨[],(n1+1,AObj.cells vZ3)::(n1,.cells vZ3)::t1,n1+2⟩:Mem Ar).store ⟨n1,0,none⟩ (cW 2 (4096*(i+2)+640) 128)=some ⟨[],upd n1 (.cells (cW 2 (4096*(i+2)+640) 128)) ((n1+1,AObj.cells vZ3)::(n1,.cells vZ3)::t1),n1+2⟩:=mem_store b1 rfl (zL rfl) rfl
 have s3:(⟨[],upd n1 (.cells (cW 2 (4096*(i+2)+640) 128)) ((n1+1,AObj.cells vZ3)::(n1,.cells vZ3)::t1),n1+2⟩:Mem Ar).store ⟨n1+1,0,none⟩ (cW 2 (4096*(k+2)+768) 128)=some ⟨[],upd (n1+1) (.cells (cW 2 (4096*(k+2)+768) 128)) (upd n1 (.cells (cW 2 (4096*(i+2)+640) 128)) ((n1+1,AObj.cells vZ3)::(n1,.cells vZ3)::t1)),n1+2⟩:=mem_store ((zU (by omega)).trans b2) rfl (zL rfl) rfl
 have f2:=(zU (i:=n1+1) (j:=n1) (o':=AObj.cells (cW 2 (4096*(k+2)+768) 128)) (by omega)).trans (zS (o':=AObj.cells (cW 2 (4096*(i+2)+640) 128)) b1)
 have f3:=zS (o':=AObj.cells (cW 2 (4096*(k+2)+768) 128)) ((zU (i:=n1) (j:=n1+1) (o':=AObj.cells (cW 2 (4096*(i+2)+640) 128)) (by omega)).trans b2)
 have K2:Kq T0 (nx+2) (upd (n1+1) (AObj.cells (cW 2 (4096*(k+2)+768) 128)) (upd n1 (.cells (cW 2 (4096*(i+2)+640) 128)) ((n1+1,AObj.cells vZ3)::(n1,.cells vZ3)::t1))) (n1+2) :=
  ⟨K1.1,fun q hq=>(zU (by omega)).trans ((zU (by omega)).trans (K1.2 q hq))⟩
 refine WO.step (i:=.store 3 (.t 5) (.t 12)) (v:=undef) (estep_store rfl rfl rfl rfl s2) (WO.step (i:=.store 3 (.t 6) (.t 13)) (v:=undef) (estep_store rfl rfl rfl rfl s3) (WO.nil (zN ?_)))
 generalize(upd (n1+1) (AObj.cells (cW 2 (4096*(k+2)+768) 128)) (upd n1 (.cells (cW 2 (4096*(i+2)+640) 128)) ((n1+1,AObj.cells vZ3)::(n1,.cells vZ3)::t1)))=T2 at f2 f3 K2 ⊢
 refine WC.seq (WC.seq (WC.ops (WO.fadd rfl (WO.fadd rfl (WO.load (ob:=.cells (cW 2 (4096*(i+2)+640) 128)) (v:=.pointer (some ⟨2,0,none⟩)) rfl f2 rfl rfl rfl (WO.pure (v:=.bool false) rfl (WO.mv rfl ?_)))))))
 refine WO.take rfl rfl (WO.fadd rfl (WO.take rfl rfl (WO.fadd rfl (WO.take rfl rfl (WO.load (ob:=.cells (cW 2 (4096*(k+2)+768) 128)) (v:=.pointer (some ⟨2,0,none⟩)) rfl f3 rfl rfl rfl (WO.take rfl rfl (WO.pure (v:=.bool false) rfl (WO.pure (v:=.bool false) rfl (WO.nil (zN (WC.cond_false rfl (WC.skip (zN ?_)))))))))))))
 have l2:=(K2.2 2 (by omega)).trans l0
 have a0:=(K2.2 nx (by omega)).trans c0
 have a1:=(K2.2 (nx+1) (by omega)).trans c1
 refine WC.seq (WC.seq (WC.drawnW ?_))
 have U0:Kq T2 (n1+2) T2 (n1+2+5):=Kq.refl.up (Nat.le_add_right _ _)
 obtain⟨u3,⟨t3,n3⟩,d3,rfl,k3⟩:=get_run (nx:=n1+2+5) (n:=n+4) hh.toNHk hk2 l2 (by omega) hx hr hwk
 dsimp only at k3
 have K3:=U0.trans k3
 obtain⟨u4,⟨t4,n4⟩,d4,rfl,k4,l4⟩:=drop_run (nx:=n3) (p:=i+2) (off:=640) (s:=128) (P:=P) (w:=k+1) (n:=n) hh.toWHk6 (by omega) ((k3.2 2 (by omega)).trans l2) (by have:=K3.1;omega) hx hp (by decide) (by omega) (by decide)
 dsimp only at k4 l4
 have K4:Kx 2 T2 (n1+2) t4 n4:=⟨Nat.le_trans K3.1 k4.1,fun q hq hq2=>(k4.2 q (Nat.lt_of_lt_of_le hq K3.1) hq2).trans (K3.2 q hq)⟩
 have x0:∀m,(⟨[],T2,m⟩:Mem Ar).load ⟨n1,0,none⟩ 3=some (cW 2 (4096*(i+2)+640) 128):=fun m=>mem_load f2 rfl rfl
 have x3:(⟨[],t3,n3⟩:Mem Ar).load ⟨n1,0,none⟩ 3=some (cW 2 (4096*(i+2)+640) 128):=mem_load ((K3.2 n1 (by omega)).trans f2) rfl rfl
 have y0:∀m,(⟨[],T2,m⟩:Mem Ar).load ⟨nx+1,0,none⟩ 12=some (ndN k):=fun m=>mem_load a1 rfl rfl
 refine WD.load (m:=⟨[],T2,n1+2+5⟩) (ms:=[]) (v:=vW 2 (4096*(i+2)+640) 128) (evOut rfl rfl rfl) (x0 _) rfl (WD.load (m:=⟨[],T2,n1+2+5⟩) (ms:=[]) (v:=vN k) (evOut rfl rfl rfl) (y0 _) rfl ?_)
 refine WD.chn (m:=⟨[],T2,n1+2+5⟩) (m':=⟨[],t3,n3⟩) (v:=.int .u64 (.ofNat (k+1))) rfl rfl rfl (estep_call (m:=⟨[],T2,n1+2+5⟩) (h:=⟨t3,n3⟩) (vs:=[vN k,vI 0]) rfl rfl d3) ?_
 refine WD.chn (m:=⟨[],t3,n3⟩) (m':=⟨[],t4,n4⟩) rfl rfl rfl (estep_call (m:=⟨[],t3,n3⟩) (h:=⟨t4,n4⟩) (vs:=[vW 2 (4096*(i+2)+640) 128,.int .u64 (.ofNat (k+1))]) rfl rfl d4) ?_
 refine WD.pure rfl (WD.nil ⟨?_,_,_,rfl,?_⟩)
 ·simp only[heldAll,loadsIn,x0,x3,y0,ceqs_nd,ceqs_vw]
  rfl
 refine zN ?_
 have e4:(pgL P 640 (128 / 16) 0).any (fun c=>decide (c.1=k+1))=hasW (tgP P) (k+1):=rfl
 have f3':look (n1+1) t4=_:=(K4.2 (n1+1) (by omega) (by omega)).trans f3
 have a0':look nx t4=_:=(K4.2 nx (by omega) (by omega)).trans a0
 have KT:Kx 2 tbl nx t4 n4:=⟨Nat.le_trans (K0.trans (⟨by omega,fun q hq=>rfl⟩:Kq T0 (nx+2) T0 (nx+2))).1 (Nat.le_trans K2.1 K4.1),fun q hq hq2=>(K4.2 q (by omega) hq2).trans ((K2.2 q (by omega)).trans (K0.2 q hq))⟩
 rw[e4] at l4 ⊢
 cases hb:hasW (tgP P) (k+1) with
 |false =>
  rw[hb,if_neg (by decide)] at l4
  rw[if_neg (by decide)]
  refine WC.seq (WC.ops (WO.mv (m:=⟨[],t4,n4⟩) rfl (WO.pure (v:=.bool true) rfl (WO.nil (zN (WC.cond_true rfl (WC.seq (WC.ops (WO.mv rfl (WO.mv rfl (WO.nil (zN (WC.ret ?_)))))))))))))
  exact⟨_,_,rfl,rfl,rfl,KT,l4⟩
 |true =>
  rw[hb,if_pos rfl] at l4
  rw[if_pos rfl]
  have hik:=hne hb
  refine WC.seq (WC.ops (WO.mv (m:=⟨[],t4,n4⟩) rfl (WO.pure (v:=.bool false) rfl (WO.nil (zN (WC.cond_false rfl (WC.skip (zN ?_))))))))
  refine WC.seq (WC.drawnW ?_)
  have hd:=drop_out (P:=P) (off:=640) (s:=128) (w:=k+1) (o:=32) (k:=8) hu hb (.inl (by decide))
  have hp1:pgAt (pX x (i+2) (dropP P 640 128 (k+1))).pages (i+2)=some (dropP P 640 128 (k+1)):=pX_at hp
  have hr1:pgAt (pX x (i+2) (dropP P 640 128 (k+1))).pages (k+2)=some R:=(pX_ne (by omega)).trans hr
  have U1:Kq t4 n4 t4 (n4+5):=Kq.refl.up (Nat.le_add_right _ _)
  have g4:=K4.1
  obtain⟨u5,⟨t5,n5⟩,d5,rfl,k5⟩:=get_run (nx:=n4+5) (n:=n+4) hh.toNHk hi l4 (by omega) (by rw[pX_ref];exact hx) hp1 (hd.trans hwi)
  dsimp only at k5
  have K5:=U1.trans k5
  obtain⟨u6,⟨t6,n6⟩,d6,rfl,k6,l6⟩:=drop_run (nx:=n5) (p:=k+2) (off:=768) (s:=128) (P:=R) (w:=i+1) (n:=n) hh.toWHk6 (by omega) ((K5.2 2 (by omega)).trans l4) (by have:=K5.1;omega) (by rw[pX_ref];exact hx) hr1 (by decide) (by omega) (by decide)
  dsimp only at k6 l6
  have e6:(pgL R 768 (128 / 16) 0).any (fun c=>decide (c.1=i+1))=true:=hsy hb
  rw[e6,if_pos rfl] at l6 d6
  have z0:∀m,(⟨[],t4,m⟩:Mem Ar).load ⟨n1+1,0,none⟩ 3=some (cW 2 (4096*(k+2)+768) 128):=fun m=>mem_load f3' rfl rfl
  have z5:(⟨[],t5,n5⟩:Mem Ar).load ⟨n1+1,0,none⟩ 3=some (cW 2 (4096*(k+2)+768) 128):=mem_load ((K5.2 (n1+1) (by omega)).trans f3') rfl rfl
  have w0:∀m,(⟨[],t4,m⟩:Mem Ar).load ⟨nx,0,none⟩ 12=some (ndN i):=fun m=>mem_load a0' rfl rfl
  refine WD.load (m:=⟨[],t4,n4+5⟩) (ms:=[]) (v:=vW 2 (4096*(k+2)+768) 128) (evOut rfl rfl rfl) (z0 _) rfl (WD.load (m:=⟨[],t4,n4+5⟩) (ms:=[]) (v:=vN i) (evOut rfl rfl rfl) (w0 _) rfl ?_)
  refine WD.chn (m:=⟨[],t4,n4+5⟩) (m':=⟨[],t5,n5⟩) (v:=.int .u64 (.ofNat (i+1))) rfl rfl rfl (estep_call (m:=⟨[],t4,n4+5⟩) (h:=⟨t5,n5⟩) (vs:=[vN i,vI 0]) rfl rfl d5) ?_
  refine WD.chn (m:=⟨[],t5,n5⟩) (m':=⟨[],t6,n6⟩) (v:=errV 0) rfl rfl rfl (estep_call (m:=⟨[],t5,n5⟩) (h:=⟨t6,n6⟩) (vs:=[vW 2 (4096*(k+2)+768) 128,.int .u64 (.ofNat (i+1))]) rfl rfl d6) ?_
  refine WD.pure (v:=errV 0) rfl (WD.nil ⟨?_,_,_,rfl,?_⟩)
  ·simp only[heldAll,loadsIn,z0,z5,w0,ceqs_nd,ceqs_vw]
   rfl
  refine zN (WC.ret ?_)
  exact⟨_,_,rfl,rfl,rfl,⟨Nat.le_trans KT.1 (Nat.le_trans K5.1 k6.1),fun q hq hq2=>(k6.2 q (by have:=KT.1;have:=K5.1;omega) hq2).trans ((K5.2 q (by have:=KT.1;omega)).trans (KT.2 q hq hq2))⟩,l6⟩
end Go.AI
/- A tie is made, walked. -/
namespace Go.AI
open Go.Proofs
variable {x:Ar}{tbl t' t'':List (Nat×AObj Ar)}{nx n' n'' j a s i k w z ty lo lo2 b P R off m:Nat}{L M Q:List (Nat×Nat)}
def tieX(x:Ar)(i k z P R:Nat):Ar:=pX (pX x (i+2) (addP P 640 128 (k+1) z)) (k+2) (addP R 768 128 (i+1) z)
def tieE(i k z:Nat)(T H:List (Nat×Nat)):Nat:=if z=0 then 2 else if i=k then 12 else if chkN T 8 (k+1) z≠0 then chkN T 8 (k+1) z else chkN H 8 (i+1) z
theorem pv_eqI{env:List (Nat×Value)}{x y:Opd}{a b:Int}{j:IntKind}(hx:evo env x=some (.int j a))(hy:evo env y=some (.int j b)):peval env (.bin .eql .no x y)=some (.bool (decide (a=b))):=by
 have e:intBin .eql j a j b=some (.bool (ieqF a b)):=by
  unfold intBin
  simp
 simp only[peval,hx,hy,binVal]
 rw[e,ieqF_eq]
 rfl
theorem Kq.toK{j:Nat}(h:Kq tbl nx t' n')(g:Kx j t' n' t'' n''):Kx j tbl nx t'' n'':=⟨Nat.le_trans h.1 g.1,fun q hq hq2=>(g.2 q (Nat.lt_of_lt_of_le hq h.1) hq2).trans (h.2 q hq)⟩
theorem Kx.tr{j:Nat}(h:Kx j tbl nx t' n')(g:Kx j t' n' t'' n''):Kx j tbl nx t'' n'':=⟨Nat.le_trans h.1 g.1,fun q hq hq2=>(g.2 q (Nat.lt_of_lt_of_le hq h.1) hq2).trans (h.2 q hq hq2)⟩
set_option maxHeartbeats 1600000 in
theorem tie_run{hk:List (HookF Ar)}(hh:UHk hk){n:Nat}(hn:110≤n)(hi:i<12)(hk2:k<12)(hl:look 2 tbl=some (.ext x))(h2:2<nx)(hx:x.refuse<9223372036854775808)(hp:pgAt x.pages (i+2)=some P)(hr:pgAt x.pages (k+2)=some R)
  (hwi:pgW P 32 8=i+1) (hwk:pgW R 32 8=k+1) (hz:z<18446744073709551616) :
  ∃u h',RW hk (n+7) 10 [vN i,vN k,.int .u64 (.ofNat z)] ⟨tbl,nx⟩=some (u,h')∧(u=errV (tieE i k z (tgP P) (hdP R))∧Kx 2 tbl nx h'.tbl h'.next∧look 2 h'.tbl=some (.ext (if tieE i k z (tgP P) (hdP R)=0 then tieX x i k z P R else x))):=by
 refine run_fn hh.tie fQTie (zL rfl) ?_
 dsimp only[iQTie,argsE]
 refine WC.seq (WC.ops (WO.box (v:=vN i) (cs:=ndN i) rfl rfl (WO.box (v:=vN k) (cs:=ndN k) rfl rfl (WO.mv rfl (WO.nil (zN ?_))))))
 have K0:Kq tbl nx ((nx+1,AObj.cells (ndN k))::(nx,.cells (ndN i))::tbl) (nx+2):=(Kq.refl.cons (Nat.le_refl _) (Nat.le_succ _)).cons (by omega) (Nat.le_succ _)
 have c0:look nx ((nx+1,AObj.cells (ndN k))::(nx,.cells (ndN i))::tbl)=some (.cells (ndN i)):=by rw[lookN (by omega),zC,if_pos rfl]
 have c1:look (nx+1) ((nx+1,AObj.cells (ndN k))::(nx,.cells (ndN i))::tbl)=some (.cells (ndN k)):=by rw[zC,if_pos rfl]
 generalize((nx+1,AObj.cells (ndN k))::(nx,.cells (ndN i))::tbl)=T0 at K0 c0 c1 ⊢
 have l0:=(K0.2 2 h2).trans hl
 refine WC.seq (WC.ops (WO.load (ob:=.cells (ndN i)) (v:=vN i) rfl c0 rfl rfl rfl (WO.load (ob:=.cells (ndN k)) (v:=vN k) rfl c1 rfl rfl rfl ?_)))
 refine WO.fcall_ex (vs:=[vN i,vN k]) rfl rfl (parts_run (nx:=nx+2) (n:=n+2) hh.toTHk (by omega) hi hk2 l0 (by omega) hx hp hr) ?_
 rintro u ⟨t1,n1⟩ ⟨rfl,k1⟩
 dsimp only at k1
 have g1:nx+2≤n1:=k1.1
 refine WO.mv rfl (WO.pure (v:=vW 2 (4096*(i+2)+640) 128) rfl (WO.pure (v:=vW 2 (4096*(k+2)+768) 128) rfl (WO.new (WO.new ?_))))
 have b1:look n1 ((n1+1,AObj.cells vZ3)::(n1,.cells vZ3)::t1)=some (.cells vZ3):=by rw[lookN (by omega),zC,if_pos rfl]
 have b2:look (n1+1) ((n1+1,AObj.cells vZ3)::(n1,.cells vZ3)::t1)=some (.cells vZ3):=by rw[zC,if_pos rfl]
 have K1:Kq T0 (nx+2) ((n1+1,AObj.cells vZ3)::(n1,.cells vZ3)::t1) (n1+2):=(k1.cons g1 (Nat.le_succ _)).cons (by omega) (Nat.le_succ _)
 have s2:(⟨[],(n1+1,AObj.cells vZ3)::(n1,.cells vZ3)::t1,n1+2⟩:Mem Ar).store ⟨n1,0,none⟩ (cW 2 (4096*(i+2)+640) 128)=some ⟨[],upd n1 (.cells (cW 2 (4096*(i+2)+640) 128)) ((n1+1,AObj.cells vZ3)::(n1,.cells vZ3)::t1),n1+2⟩:=mem_store b1 rfl (zL rfl) rfl
 have s3:(⟨[],upd n1 (.cells (cW 2 (4096*(i+2)+640) 128)) ((n1+1,AObj.cells vZ3)::(n1,.cells vZ3)::t1),n1+2⟩:Mem Ar).store ⟨n1+1,0,none⟩ (cW 2 (4096*(k+2)+768) 128)=some ⟨[],upd (n1+1) (.cells (cW 2 (4096*(k+2)+768) 128)) (upd n1 (.cells (cW 2 (4096*(i+2)+640) 128)) ((n1+1,AObj.cells vZ3)::(n1,.cells vZ3)::t1)),n1+2⟩:=mem_store ((zU (by omega)).trans b2) rfl (zL rfl) rfl
 have f2:=(zU (i:=n1+1) (j:=n1) (o':=AObj.cells (cW 2 (4096*(k+2)+768) 128)) (by omega)).trans (zS (o':=AObj.cells (cW 2 (4096*(i+2)+640) 128)) b1)
 have f3:=zS (o':=AObj.cells (cW 2 (4096*(k+2)+768) 128)) ((zU (i:=n1) (j:=n1+1) (o':=AObj.cells (cW 2 (4096*(i+2)+640) 128)) (by omega)).trans b2)
 have K2:Kq T0 (nx+2) (upd (n1+1) (AObj.cells (cW 2 (4096*(k+2)+768) 128)) (upd n1 (.cells (cW 2 (4096*(i+2)+640) 128)) ((n1+1,AObj.cells vZ3)::(n1,.cells vZ3)::t1))) (n1+2) :=
  ⟨K1.1,fun q hq=>(zU (by omega)).trans ((zU (by omega)).trans (K1.2 q hq))⟩
 refine WO.step (i:=.store 3 (.t 7) (.t 17)) (v:=undef) (estep_store rfl rfl rfl rfl s2) (WO.step (i:=.store 3 (.t 8) (.t 18)) (v:=undef) (estep_store rfl rfl rfl rfl s3) (WO.nil (zN ?_)))
 generalize(upd (n1+1) (AObj.cells (cW 2 (4096*(k+2)+768) 128)) (upd n1 (.cells (cW 2 (4096*(i+2)+640) 128)) ((n1+1,AObj.cells vZ3)::(n1,.cells vZ3)::t1)))=T2 at f2 f3 K2 ⊢
 have l2:=(K2.2 2 (by omega)).trans l0
 have a0:=(K2.2 nx (by omega)).trans c0
 have a1:=(K2.2 (nx+1) (by omega)).trans c1
 have KK2:=K0.trans K2
 refine WC.seq (WC.block (WC.seq (WC.ops (WO.fadd rfl (WO.fadd rfl (WO.load (ob:=.cells (cW 2 (4096*(i+2)+640) 128)) (v:=.pointer (some ⟨2,0,none⟩)) rfl f2 rfl rfl rfl (WO.pure (v:=.bool false) rfl (WO.mv rfl ?_))))))))
 refine WO.take rfl rfl (WO.fadd rfl (WO.take rfl rfl (WO.fadd rfl (WO.take rfl rfl (WO.load (ob:=.cells (cW 2 (4096*(k+2)+768) 128)) (v:=.pointer (some ⟨2,0,none⟩)) rfl f3 rfl rfl rfl (WO.take rfl rfl (WO.pure (v:=.bool false) rfl (WO.pure (v:=.bool false) rfl (WO.mv rfl (WO.nil (zN (WC.cond_false rfl ?_))))))))))))
 refine WC.seq (WC.ops (WO.mv rfl (WO.eqlS rfl rfl (fun h=>?_) (fun h=>?_))))
 ·have hz0:z=0:=Int.ofNat.inj h
  have he:tieE i k z (tgP P) (hdP R)=2:=if_pos hz0
  refine WO.mv rfl (WO.nil (zN (WC.cond_true rfl (WC.seq (WC.ops (WO.mv rfl (WO.nil (zN (WC.ret ?_)))))))))
  rw[he]
  exact⟨_,_,rfl,rfl,rfl,KK2.toX,l2⟩
 have hz0:z≠0:=fun e=>h (by rw[e])
 refine WO.mv rfl (WO.nil (zN (WC.cond_false rfl (WC.seq (WC.drawnW ?_)))))
 have U0:Kq T2 (n1+2) T2 (n1+2+6):=Kq.refl.up (Nat.le_add_right _ _)
 obtain⟨u3,⟨t3,n3⟩,d3,rfl,k3⟩:=where_run (tbl:=T2) (nx:=n1+2+6) (n:=n+4) hh.toNHk hi
 dsimp only at k3
 have K3:=U0.trans k3
 obtain⟨u4,⟨t4,n4⟩,d4,rfl,k4⟩:=where_run (tbl:=t3) (nx:=n3) (n:=n+4) hh.toNHk hk2
 dsimp only at k4
 have K4:=K3.trans k4
 have x0:∀m,(⟨[],T2,m⟩:Mem Ar).load ⟨nx,0,none⟩ 12=some (ndN i):=fun m=>mem_load a0 rfl rfl
 have y0:∀m,(⟨[],T2,m⟩:Mem Ar).load ⟨nx+1,0,none⟩ 12=some (ndN k):=fun m=>mem_load a1 rfl rfl
 have y3:(⟨[],t3,n3⟩:Mem Ar).load ⟨nx+1,0,none⟩ 12=some (ndN k):=mem_load ((K3.2 (nx+1) (by omega)).trans a1) rfl rfl
 refine WD.load (m:=⟨[],T2,n1+2+6⟩) (ms:=[]) (v:=vN i) (evOut rfl rfl rfl) (x0 _) rfl ?_
 refine WD.chn (m:=⟨[],T2,n1+2+6⟩) (m':=⟨[],t3,n3⟩) (v:=vI (4096*(i+2))) rfl rfl rfl (estep_call (m:=⟨[],T2,n1+2+6⟩) (h:=⟨t3,n3⟩) (vs:=[vN i]) rfl rfl d3) ?_
 refine WD.load (m:=⟨[],t3,n3⟩) (v:=vN k) (evOut rfl rfl rfl) y3 rfl ?_
 refine WD.chn (m:=⟨[],t3,n3⟩) (m':=⟨[],t4,n4⟩) (v:=vI (4096*(k+2))) rfl rfl rfl (estep_call (m:=⟨[],t3,n3⟩) (h:=⟨t4,n4⟩) (vs:=[vN k]) rfl rfl d4) ?_
 refine WD.pure (pv_eqI rfl rfl) (WD.pure rfl (WD.nil ⟨?_,_,_,rfl,?_⟩))
 ·simp only[heldAll,loadsIn,x0,y0,y3,ceqs_nd]
  rfl
 refine zN ?_
 have hdec:decide (Int.ofNat (4096*(i+2))=Int.ofNat (4096*(k+2)))=decide (i=k):=decide_eq_decide.2 ⟨fun h=>by have:=Int.ofNat.inj h;omega,fun h=>by rw[h]⟩
 rw[hdec]
 have l4:=(K4.2 2 (by omega)).trans l2
 have f2':=(K4.2 n1 (by omega)).trans f2
 have f3':=(K4.2 (n1+1) (by omega)).trans f3
 have a0':=(K4.2 nx (by omega)).trans a0
 have a1':=(K4.2 (nx+1) (by omega)).trans a1
 have KK4:=KK2.trans K4
 by_cases hik:i=k
 ·rw[decide_eq_true hik]
  have he:tieE i k z (tgP P) (hdP R)=12:=(if_neg hz0).trans (if_pos hik)
  refine WC.cond_true (m:=⟨[],t4,n4⟩) rfl (WC.seq (WC.ops (WO.mv rfl (WO.nil (zN (WC.ret ?_))))))
  rw[he]
  exact⟨_,_,rfl,rfl,rfl,KK4.toX,l4⟩
 rw[decide_eq_false hik]
 have hE:tieE i k z (tgP P) (hdP R)=if chkN (tgP P) 8 (k+1) z≠0 then chkN (tgP P) 8 (k+1) z else chkN (hdP R) 8 (i+1) z:=(if_neg hz0).trans (if_neg hik)
 refine WC.cond_false (m:=⟨[],t4,n4⟩) rfl (WC.skip (zB (zN ?_)))
 refine WC.seq (WC.drawnW ?_)
 have g4:=K4.1
 have U1:Kq t4 n4 t4 (n4+12):=Kq.refl.up (Nat.le_add_right _ _)
 obtain⟨u5,⟨t5,n5⟩,d5,rfl,k5⟩:=get_run (nx:=n4+12) (n:=n+4) hh.toNHk hk2 l4 (by omega) hx hr hwk
 dsimp only at k5
 have K5:=U1.trans k5
 obtain⟨u6,⟨t6,n6⟩,d6,rfl,k6⟩:=get_run (nx:=n5) (n:=n+4) hh.toNHk hi ((K5.2 2 (by omega)).trans l4) (by have:=K5.1;omega) hx hp hwi
 dsimp only at k6
 have K6:=K5.trans k6
 have g6:n4+12≤n6:=Nat.le_trans k5.1 k6.1
 have x4:∀m,(⟨[],t4,m⟩:Mem Ar).load ⟨nx,0,none⟩ 12=some (ndN i):=fun m=>mem_load a0' rfl rfl
 have x5:(⟨[],t5,n5⟩:Mem Ar).load ⟨nx,0,none⟩ 12=some (ndN i):=mem_load ((K5.2 nx (by omega)).trans a0') rfl rfl
 have y4:∀m,(⟨[],t4,m⟩:Mem Ar).load ⟨nx+1,0,none⟩ 12=some (ndN k):=fun m=>mem_load a1' rfl rfl
 have r8:look (n4+8) ((n4+8,AObj.cells [.int .u64 (.ofNat 0),.int .u64 (.ofNat 0)])::(n4+9,.cells [.int .u64 (.ofNat 0),.int .u64 (.ofNat 0)])::t6)=some (.cells [.int .u64 (.ofNat 0),.int .u64 (.ofNat 0)]):=by rw[zC,if_pos rfl]
 have r9:look (n4+9) ((n4+8,AObj.cells [.int .u64 (.ofNat 0),.int .u64 (.ofNat 0)])::(n4+9,.cells [.int .u64 (.ofNat 0),.int .u64 (.ofNat 0)])::t6)=some (.cells [.int .u64 (.ofNat 0),.int .u64 (.ofNat 0)]):=by rw[lookN (by omega),zC,if_pos rfl]
 have s8:(⟨[],(n4+8,AObj.cells [.int .u64 (.ofNat 0),.int .u64 (.ofNat 0)])::(n4+9,.cells [.int .u64 (.ofNat 0),.int .u64 (.ofNat 0)])::t6,n6⟩:Mem Ar).store ⟨n4+8,0,none⟩ [.int .u64 (.ofNat (k+1)),.int .u64 (.ofNat z)]=some ⟨[],upd (n4+8) (.cells [.int .u64 (.ofNat (k+1)),.int .u64 (.ofNat z)]) ((n4+8,AObj.cells [.int .u64 (.ofNat 0),.int .u64 (.ofNat 0)])::(n4+9,.cells [.int .u64 (.ofNat 0),.int .u64 (.ofNat 0)])::t6),n6⟩:=mem_store r8 rfl (zL rfl) rfl
 have s9:(⟨[],upd (n4+8) (.cells [.int .u64 (.ofNat (k+1)),.int .u64 (.ofNat z)]) ((n4+8,AObj.cells [.int .u64 (.ofNat 0),.int .u64 (.ofNat 0)])::(n4+9,.cells [.int .u64 (.ofNat 0),.int .u64 (.ofNat 0)])::t6),n6⟩:Mem Ar).store ⟨n4+9,0,none⟩ [.int .u64 (.ofNat (i+1)),.int .u64 (.ofNat z)]=some ⟨[],upd (n4+9) (.cells [.int .u64 (.ofNat (i+1)),.int .u64 (.ofNat z)]) (upd (n4+8) (.cells [.int .u64 (.ofNat (k+1)),.int .u64 (.ofNat z)]) ((n4+8,AObj.cells [.int .u64 (.ofNat 0),.int .u64 (.ofNat 0)])::(n4+9,.cells [.int .u64 (.ofNat 0),.int .u64 (.ofNat 0)])::t6)),n6⟩:=mem_store ((zU (by omega)).trans r9) rfl (zL rfl) rfl
 refine WD.load (m:=⟨[],t4,n4+12⟩) (ms:=[]) (v:=vN k) (evOut rfl rfl rfl) (y4 _) rfl ?_
 refine WD.chn (m:=⟨[],t4,n4+12⟩) (m':=⟨[],t5,n5⟩) (v:=.int .u64 (.ofNat (k+1))) rfl rfl rfl (estep_call (m:=⟨[],t4,n4+12⟩) (h:=⟨t5,n5⟩) (vs:=[vN k,vI 0]) rfl rfl d5) ?_
 refine WD.pure (v:=.int .u64 (.ofNat z)) (evOut rfl rfl rfl) (WD.pure (v:=vLk (k+1) z) rfl ?_)
 refine WD.load (m:=⟨[],t5,n5⟩) (v:=vN i) (evOut rfl rfl rfl) x5 rfl ?_
 refine WD.chn (m:=⟨[],t5,n5⟩) (m':=⟨[],t6,n6⟩) (v:=.int .u64 (.ofNat (i+1))) rfl rfl rfl (estep_call (m:=⟨[],t5,n5⟩) (h:=⟨t6,n6⟩) (vs:=[vN i,vI 0]) rfl rfl d6) ?_
 refine WD.pure (v:=.int .u64 (.ofNat z)) (evOut rfl rfl rfl) (WD.pure (v:=vLk (i+1) z) rfl ?_)
 refine WD.alloc rfl rfl (WD.alloc rfl rfl ?_)
 refine WD.chn (m:=⟨[],t6,n6⟩) (v:=undef) rfl rfl rfl (estep_store rfl rfl rfl rfl s8) ?_
 refine WD.chn (v:=undef) rfl rfl rfl (estep_store rfl rfl rfl rfl s9) (WD.nil ⟨?_,_,_,rfl,?_⟩)
 ·simp only[heldAll,loadsIn,x4,x5,y4,ceqs_nd]
  rfl
 have q8:=(zU (i:=n4+9) (j:=n4+8) (o':=AObj.cells [.int .u64 (.ofNat (i+1)),.int .u64 (.ofNat z)]) (by omega)).trans (zS (o':=AObj.cells [.int .u64 (.ofNat (k+1)),.int .u64 (.ofNat z)]) r8)
 have q9:=zS (o':=AObj.cells [.int .u64 (.ofNat (i+1)),.int .u64 (.ofNat z)]) ((zU (i:=n4+8) (j:=n4+9) (o':=AObj.cells [.int .u64 (.ofNat (k+1)),.int .u64 (.ofNat z)]) (by omega)).trans r9)
 have K7:Kq t4 n4 (upd (n4+9) (AObj.cells [.int .u64 (.ofNat (i+1)),.int .u64 (.ofNat z)]) (upd (n4+8) (.cells [.int .u64 (.ofNat (k+1)),.int .u64 (.ofNat z)]) ((n4+8,AObj.cells [.int .u64 (.ofNat 0),.int .u64 (.ofNat 0)])::(n4+9,.cells [.int .u64 (.ofNat 0),.int .u64 (.ofNat 0)])::t6))) n6 :=
  ⟨K6.1,fun q hq=>(zU (by omega)).trans ((zU (by omega)).trans ((lookN (by omega)).trans ((lookN (by omega)).trans (K6.2 q hq))))⟩
 refine zN ?_
 refine WC.seq (WC.seq (WC.ops ?_))
 generalize(upd (n4+9) (AObj.cells [.int .u64 (.ofNat (i+1)),.int .u64 (.ofNat z)]) (upd (n4+8) (.cells [.int .u64 (.ofNat (k+1)),.int .u64 (.ofNat z)]) ((n4+8,AObj.cells [.int .u64 (.ofNat 0),.int .u64 (.ofNat 0)])::(n4+9,.cells [.int .u64 (.ofNat 0),.int .u64 (.ofNat 0)])::t6)))=T7 at q8 q9 K7 ⊢
 have l7:=(K7.2 2 (by omega)).trans l4
 have f27:=(K7.2 n1 (by omega)).trans f2'
 have f37:=(K7.2 (n1+1) (by omega)).trans f3'
 have KK7:=KK4.trans K7
 have hc1:chkN (lks x (4096*(i+2)+640) (128 / 16) 0) (128 / 16) (k+1) z=chkN (tgP P) 8 (k+1) z:=by rw[lks_at hp (by decide)];rfl
 have hc2:chkN (lks x (4096*(k+2)+768) (128 / 16) 0) (128 / 16) (i+1) z=chkN (hdP R) 8 (i+1) z:=by rw[lks_at hr (by decide)];rfl
 refine WO.load (ob:=.cells (cW 2 (4096*(i+2)+640) 128)) (v:=vW 2 (4096*(i+2)+640) 128) rfl f27 rfl rfl rfl (WO.load (ob:=.cells [.int .u64 (.ofNat (k+1)),.int .u64 (.ofNat z)]) (v:=vLk (k+1) z) rfl q8 rfl rfl rfl ?_)
 refine WO.fcall_ex (vs:=[vW 2 (4096*(i+2)+640) 128,vLk (k+1) z]) rfl rfl (chk_run (nx:=n6) (n:=n+1) hh.toWHk4 (by omega) l7 (by omega) hx (bytesE_in (off:=640) (k:=128) hp (by decide)) (by omega) (by decide)) ?_
 rw[hc1]
 rintro u ⟨t8,n8⟩ ⟨rfl,k8⟩
 dsimp only at k8
 have g8:n6≤n8:=k8.1
 have l8:=(k8.2 2 (by omega)).trans l7
 have f28:=(k8.2 n1 (by omega)).trans f27
 have f38:=(k8.2 (n1+1) (by omega)).trans f37
 have q88:=(k8.2 (n4+8) (by omega)).trans q8
 have q98:=(k8.2 (n4+9) (by omega)).trans q9
 have KK8:=KK7.trans k8
 refine WO.mv rfl (WO.nil (zN (WC.seq (WC.ops (WO.mv rfl (WO.neqS rfl rfl (fun h=>?_) (fun h=>?_)))))))
 ·have h1:chkN (tgP P) 8 (k+1) z≠0:=fun e=>h (by rw[e])
  have he:tieE i k z (tgP P) (hdP R)=chkN (tgP P) 8 (k+1) z:=hE.trans (if_pos h1)
  refine WO.nil (zN (WC.cond_true rfl (WC.seq (WC.ops (WO.mv rfl (WO.mv rfl (WO.nil (zN (WC.ret ?_)))))))))
  rw[he,if_neg h1]
  exact⟨_,_,rfl,rfl,rfl,KK8.toX,l8⟩
 have h1:chkN (tgP P) 8 (k+1) z=0:=Int.ofNat.inj h
 have hE2:tieE i k z (tgP P) (hdP R)=chkN (hdP R) 8 (i+1) z:=hE.trans (if_neg (fun h=>h h1))
 refine WO.nil (zN (WC.cond_false rfl (WC.skip (zN ?_))))
 refine WC.seq (WC.seq (WC.ops (WO.load (ob:=.cells (cW 2 (4096*(k+2)+768) 128)) (v:=vW 2 (4096*(k+2)+768) 128) rfl f38 rfl rfl rfl (WO.load (ob:=.cells [.int .u64 (.ofNat (i+1)),.int .u64 (.ofNat z)]) (v:=vLk (i+1) z) rfl q98 rfl rfl rfl ?_))))
 refine WO.fcall_ex (vs:=[vW 2 (4096*(k+2)+768) 128,vLk (i+1) z]) rfl rfl (chk_run (nx:=n8) (n:=n+1) hh.toWHk4 (by omega) l8 (by omega) hx (bytesE_in (off:=768) (k:=128) hr (by decide)) (by omega) (by decide)) ?_
 rw[hc2]
 rintro u ⟨t9,n9⟩ ⟨rfl,k9⟩
 dsimp only at k9
 have g9:n8≤n9:=k9.1
 have l9:=(k9.2 2 (by omega)).trans l8
 have f29:=(k9.2 n1 (by omega)).trans f28
 have f39:=(k9.2 (n1+1) (by omega)).trans f38
 have q89:=(k9.2 (n4+8) (by omega)).trans q88
 have q99:=(k9.2 (n4+9) (by omega)).trans q98
 have KK9:=KK8.trans k9
 refine WO.mv rfl (WO.nil (zN (WC.seq (WC.ops (WO.mv rfl (WO.neqS rfl rfl (fun h=>?_) (fun h=>?_)))))))
 ·have h2':chkN (hdP R) 8 (i+1) z≠0:=fun e=>h (by rw[e])
  refine WO.nil (zN (WC.cond_true rfl (WC.seq (WC.ops (WO.mv rfl (WO.mv rfl (WO.nil (zN (WC.ret ?_)))))))))
  rw[hE2,if_neg h2']
  exact⟨_,_,rfl,rfl,rfl,KK9.toX,l9⟩
 have h2':chkN (hdP R) 8 (i+1) z=0:=Int.ofNat.inj h
 refine WO.nil (zN (WC.cond_false rfl (WC.skip (zN ?_))))
 refine WC.seq (WC.ops (WO.load (ob:=.cells (cW 2 (4096*(i+2)+640) 128)) (v:=vW 2 (4096*(i+2)+640) 128) rfl f29 rfl rfl rfl (WO.load (ob:=.cells [.int .u64 (.ofNat (k+1)),.int .u64 (.ofNat z)]) (v:=vLk (k+1) z) rfl q89 rfl rfl rfl ?_)))
 refine WO.fcall_ex (vs:=[vW 2 (4096*(i+2)+640) 128,vLk (k+1) z]) rfl rfl (add_run (nx:=n9) (p:=i+2) (off:=640) (s:=128) (P:=P) (w:=k+1) (z:=z) (n:=n) hh.toWHk5 (by omega) l9 (by omega) hx hp (by decide) (by omega) (by decide) (by omega) hz) ?_
 have e1:chkN (pgL P 640 (128 / 16) 0) (128 / 16) (k+1) z=0:=h1
 rw[e1,if_pos rfl]
 rintro u ⟨tA,nA⟩ ⟨rfl,kA,lA⟩
 dsimp only at kA lA
 have gA:n9≤nA:=kA.1
 have hr1:pgAt (pX x (i+2) (addP P 640 128 (k+1) z)).pages (k+2)=some R:=(pX_ne (by omega)).trans hr
 have f3A:=(kA.2 (n1+1) (by omega) (by omega)).trans f39
 have q9A:=(kA.2 (n4+9) (by omega) (by omega)).trans q99
 have KKA:Kx 2 tbl nx tA nA:=KK9.toK kA
 refine WO.nil (zN (WC.seq (WC.ops (WO.load (ob:=.cells (cW 2 (4096*(k+2)+768) 128)) (v:=vW 2 (4096*(k+2)+768) 128) rfl f3A rfl rfl rfl (WO.load (ob:=.cells [.int .u64 (.ofNat (i+1)),.int .u64 (.ofNat z)]) (v:=vLk (i+1) z) rfl q9A rfl rfl rfl ?_)))))
 refine WO.fcall_ex (vs:=[vW 2 (4096*(k+2)+768) 128,vLk (i+1) z]) rfl rfl (add_run (nx:=nA) (p:=k+2) (off:=768) (s:=128) (P:=R) (w:=i+1) (z:=z) (n:=n) hh.toWHk5 (by omega) lA (by omega) (by rw[pX_ref];exact hx) hr1 (by decide) (by omega) (by decide) (by omega) hz) ?_
 have e2:chkN (pgL R 768 (128 / 16) 0) (128 / 16) (i+1) z=0:=h2'
 rw[e2,if_pos rfl]
 rintro u ⟨tB,nB⟩ ⟨rfl,kB,lB⟩
 dsimp only at kB lB
 refine WO.mv rfl (WO.nil (zN (WC.ret ?_)))
 rw[hE2,h2',if_pos rfl]
 exact⟨_,_,rfl,rfl,rfl,KKA.tr kB,lB⟩
end Go.AI
