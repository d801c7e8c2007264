/- Functions in the evaluator's form: printed by a program, held against the program by the kernel. -/
import Derived.Test.YthoiknijhfnadaaGreatDoorIfn
import Derived.Test.YthoiknijhfnadaaGreatDoorKV
import Derived.Test.YthoiknijhfnadaaGreatDoorKIo
import Derived.Test.YthoiknijhfnadaaGreatDoorKWp
set_option maxRecDepth 4000
namespace Go.AI
def iKSize:IFn:=(.mk (sO [(none,(.box 1 true (.t 0))),mI 2 0] (sO [fD 3 2 1,lD 4 1 false 3,mV 2 4] .ret)) 5 [(.tmp 2)])
theorem fKSize:FA 78=some iKSize:=by kernel_rfl
def iKslots:IFn:=(.mk (sO [(none,(.box 1 true (.t 0))),mI 2 0] (sO [fD 3 0 1,lD 4 3 true 3,cL 5 78 [(.t 4)],pU 6 (.bin .quo .no (.t 5) (cI 16)),mV 2 6] .ret)) 7 [(.tmp 2)])
theorem fKslots:FA 50=some iKslots:=by kernel_rfl
def iKAll:IFn:=(.mk (sO [(none,(.box 1 true (.t 0))),pU 2 (.mv (.c (.slice none 0 0)))] (sO [pU 3 (.mv (.c (.slice none 0 0)))] (.seq (sO [lD 9 3 true 1,cL 10 50 [(.t 9)],mI 11 0] (.block 0 (.loop (sO [pU 12 (.bin .lss .no (.t 11) (.t 10))] (.seq (.cond (.t 12) .skip (.exit 0)) (.seq (.block 1 (sO [mV 13 11,mV 4 13] (sO [fD 15 0 1,lD 16 3 true 15,mV 17 4,pU 18 (.bin .mul .no (.t 17) (cI 16)),cL 19 51 [(.t 16),(.t 18),(cI 16)],mV 14 19,eX 20 0 14,eX 21 1 14,(none,(.new 5 true [p0,(i0 0),(i0 0)])),sT 3 5 20,mV 6 21] (.seq (.drawn [cL 23 52 [],lD 24 3 true 5,cL 25 53 [(.t 23),(.t 24)],mV 22 25,eX 26 0 22,eX 27 1 22,mV 7 26,mV 8 27] [[],[],[0,1],[2,0,1],[3,2,0,1],[3,2,0,1],[4,2,0,1,3],[5,6,0,1,2,3,4]]) (.seq (sO [mV 28 8,pU 29 (.bin .neq .no (.t 28) (cI 0)),mV 30 29,((some (30,false)),(.pure 31 (.mv (.t 7)))),((some (30,false)),(.pure 32 (.idxL 1 (.t 31) (cI 0)))),((some (30,false)),(.load 33 1 false (.t 32))),((some (30,false)),(.pure 34 (.bin .eql .no (.t 33) (.c (u0 0))))),pU 35 (.pick (.t 30) (.c (.bool true)) (.t 34))] (.cond (.t 35) (.exit 0) .skip)) (.drawn [mV 36 3,mV 37 7,pU 38 (.idxL 1 (.t 37) (cI 0)),lD 39 1 false 38,mV 40 7,pU 41 (.idxL 1 (.t 40) (cI 1)),lD 42 1 false 41,pU 43 (.build [(u0 0),(u0 0)] [(0,(1,(.t 39))),(1,(1,(.t 42)))]),(none,(.bslice 44 1 2 [(u0 0),(u0 0)] [(0,(.t 43))])),(none,(.append 45 2 16 67 (.t 36) (.t 44))),mV 3 45] [[],[],[1],[2,1],[],[4],[5,4],[3,6,2,1,5,4],[7,3,6,2,1,5,4],[0,8,7,3,6,2,1,5,4],[9,0,1,2,3,4,5,6,7,8]])))))) (.ops [pU 46 (.bin .add .no (.t 11) (cI 1)),mV 11 46]))))))) (sO [mV 47 3,mV 2 47] .ret)))) 48 [(.tmp 2)])
theorem fKAll:FA 26=some iKAll:=by kernel_rfl
def iKlay:IFn:=(.mk (sO [(none,(.box 2 true (.t 0)))] (.seq (.drawn [fD 8 0 2,lD 9 3 true 8,lD 10 3 true 2,cL 11 50 [(.t 10)],pU 12 (.bin .mul .no (.t 11) (cI 16)),cL 13 74 [(.t 9),(cI 0),(.t 12),(.c (.int .u8 (.ofNat 0)))]] [[],[0],[],[2],[3,2],[1,4,3,0,2]]) (sO [mV 14 1,pU 15 (.len (.t 14)),mI 16 0] (.block 0 (.loop (sO [pU 17 (.bin .lss .no (.t 16) (.t 15))] (.seq (.cond (.t 17) .skip (.exit 0)) (.seq (.block 1 (sO [mV 18 16,pU 19 (.idxL 2 (.t 14) (.t 16)),lD 20 2 true 19,(none,(.new 5 true [(u0 0),(u0 0)])),mV 4 18,sT 2 5 20] (sO [fD 22 0 2,lD 23 3 true 22,mV 24 4,pU 25 (.bin .mul .no (.t 24) (cI 16)),cL 26 51 [(.t 23),(.t 25),(cI 16)],mV 21 26,eX 27 0 21,eX 28 1 21,(none,(.new 6 true [p0,(i0 0),(i0 0)])),sT 3 6 27,mV 7 28] (.drawn [cL 29 52 [],lD 30 3 true 6,fD 31 0 5,lD 32 1 false 31,fD 33 1 5,lD 34 1 false 33,(none,(.bslice 35 2 1 [(u0 0)] [(0,(.t 32)),(1,(.t 34))])),cL 36 75 [(.t 29),(.t 30),(.t 35)]] [[],[],[],[2],[],[4],[3,5,2,4],[0,1,6,3,5,2,4]])))) (.ops [pU 37 (.bin .add .no (.t 16) (cI 1)),mV 16 37]))))))))) 38 [])
theorem fKlay:FA 47=some iKlay:=by kernel_rfl
def iKof:IFn:=(.mk (sO [(none,(.box 3 true (.t 1))),mI 4 0] (sO [mV 5 0,pU 6 (.mkfn 73 [(.t 3)]),cL 7 72 [(.t 5),(.t 6)],mV 4 7] .ret)) 8 [(.tmp 4)])
theorem fKof:FA 46=some iKof:=by kernel_rfl
def iKof1:IFn:=(.mk (sO [(none,(.box 2 true (.t 0))),mB 3 false] (sO [fD 4 0 2,lD 5 1 false 4,lD 6 1 false 1,pU 7 (.bin .eql .no (.t 5) (.t 6)),mV 3 7] .ret)) 8 [(.tmp 3)])
theorem fKof1:FA 73=some iKof1:=by kernel_rfl
def iKIdx:IFn:=(.mk (sO [mI 4 0] (.seq (sO [mV 6 0,pU 7 (.len (.t 6)),mI 8 0] (.block 0 (.loop (sO [pU 9 (.bin .lss .no (.t 8) (.t 7))] (.seq (.cond (.t 9) .skip (.exit 0)) (.seq (.block 1 (sO [mV 10 8,mV 5 10] (sO [mV 11 1,mV 12 0,mV 13 5,pU 14 (.idxL 2 (.t 12) (.t 13)),lD 15 2 true 14,(none,(.call (some 16) (.t 11) [(.t 15)]))] (.cond (.t 16) (sO [mV 17 5,mV 4 17] .ret) .skip)))) (.ops [pU 18 (.bin .add .no (.t 8) (cI 1)),mV 8 18]))))))) (sO [pU 4 (.mv (.c (.int .i64 (.negSucc 0))))] .ret))) 19 [(.tmp 4)])
theorem fKIdx:FA 72=some iKIdx:=by kernel_rfl
def iKHas:IFn:=(.mk (sO [(none,(.box 2 true (.t 0))),mB 4 false] (sO [lD 5 3 true 2,cL 6 26 [(.t 5)],mV 7 1,cL 8 46 [(.t 6),(.t 7)],pU 9 (.bin .geq .no (.t 8) (cI 0)),mV 4 9] .ret)) 10 [(.tmp 4)])
theorem fKHas:FA 27=some iKHas:=by kernel_rfl
def iKcheck:IFn:=(.mk (sO [(none,(.box 2 true (.t 0))),(none,(.box 3 true (.t 1))),mI 4 0] (.seq (.block 0 (sO [fD 6 0 2,fD 7 0 6,lD 8 1 false 7,pU 9 (.bin .eql .ptr (.t 8) (.c p0)),mV 5 9] (.cond (.t 5) (sO [mI 4 1] .ret) (sO [fD 11 0 3,lD 12 1 false 11,pU 13 (.bin .eql .no (.t 12) (.c (u0 0))),mV 14 13,((some (14,false)),(.pure 15 (.fadd 1 (.t 3)))),((some (14,false)),(.load 16 1 false (.t 15))),((some (14,false)),(.pure 17 (.bin .eql .no (.t 16) (.c (u0 0))))),pU 18 (.pick (.t 14) (.c (.bool true)) (.t 17)),mV 10 18] (.cond (.t 10) (sO [mI 4 2] .ret) (sO [lD 20 3 true 2,fD 21 0 3,lD 22 1 false 21,cL 23 27 [(.t 20),(.t 22)],mV 19 23] (.cond (.t 19) (sO [mI 4 9] .ret) (.seq (.drawn [lD 25 3 true 2,cL 26 26 [(.t 25)],pU 27 (.len (.t 26)),lD 28 3 true 2,cL 29 50 [(.t 28)],pU 30 (.bin .geq .no (.t 27) (.t 29)),mV 24 30] [[],[0],[1,0],[],[3,1,0],[2,4,1,0,3],[5,4,2,1,0,3]]) (.cond (.t 24) (sO [mI 4 10] .ret) .skip))))))))) (sO [mI 4 0] .ret))) 31 [(.tmp 4)])
theorem fKcheck:FA 39=some iKcheck:=by kernel_rfl
def iKAdd:IFn:=(.mk (sO [(none,(.box 2 true (.t 0))),(none,(.box 3 true (.t 1))),mI 4 0] (.seq (sO [lD 8 3 true 2,lD 9 2 true 3,cL 10 39 [(.t 8),(.t 9)],mV 5 10] (sO [mV 11 5,pU 12 (.bin .neq .no (.t 11) (cI 0))] (.cond (.t 12) (sO [mV 13 5,mV 4 13] .ret) .skip))) (sO [lD 14 3 true 2,cL 15 26 [(.t 14)],mV 6 15] (sO [mI 7 0] (.seq (.block 0 (.loop (.seq (.seq (.drawn [mV 16 7,mV 17 6,pU 18 (.len (.t 17)),pU 19 (.bin .lss .no (.t 16) (.t 18)),mV 20 19,jV 20 21 6,jV 20 22 7,jP 20 23 (.idxL 2 (.t 21) (.t 22)),jP 20 24 (.fadd 1 (.t 23)),((some (20,true)),(.load 25 1 false (.t 24))),jP 20 26 (.fadd 1 (.t 3)),((some (20,true)),(.load 27 1 false (.t 26))),jP 20 28 (.bin .leq .no (.t 25) (.t 27)),pU 29 (.pick (.t 20) (.t 28) (.c (.bool false)))] [[],[],[1],[0,2,1],[3,0,2,1],[4,3,0,2,1],[4,3,0,2,1],[5,6,4,3,0,2,1],[7,4,5,6,3,0,2,1],[8,4,7,5,6,3,0,2,1],[4,3,0,2,1],[10,4,3,0,2,1],[9,11,4,8,7,5,6,3,0,2,1,10],[4,12,3,0,2,1,9,11,8,7,5,6,10]]) (.cond (.t 29) .skip (.exit 0))) (.block 1 (.ops [mV 30 7,pU 31 (.bin .add .no (.t 30) (cI 1)),mV 7 31]))))) (.seq (.drawn [lD 32 3 true 2,mV 33 6,mV 34 7,lD 35 2 true 3,(none,(.bslice 36 1 2 [(u0 0),(u0 0)] [(0,(.t 35))])),cL 37 49 [(.t 33),(.t 34),(.t 36)],cL 38 47 [(.t 32),(.t 37)]] [[],[],[],[],[3],[1,2,4,3],[0,5,1,2,4,3]]) (sO [mI 4 0] .ret))))))) 39 [(.tmp 4)])
theorem fKAdd:FA 24=some iKAdd:=by kernel_rfl
def iKDrop:IFn:=(.mk (sO [(none,(.box 2 true (.t 0))),mI 4 0] (.seq (sO [fD 7 0 2,fD 8 0 7,lD 9 1 false 8,pU 10 (.bin .eql .ptr (.t 9) (.c p0))] (.cond (.t 10) (sO [mI 4 1] .ret) .skip)) (sO [lD 11 3 true 2,cL 12 26 [(.t 11)],mV 5 12] (sO [mV 13 5,mV 14 1,cL 15 46 [(.t 13),(.t 14)],mV 6 15] (.seq (sO [mV 16 6,pU 17 (.bin .lss .no (.t 16) (cI 0))] (.cond (.t 17) (sO [mI 4 8] .ret) .skip)) (.seq (.drawn [lD 18 3 true 2,mV 19 5,mV 20 6,mV 21 6,pU 22 (.bin .add .no (.t 21) (cI 1)),cL 23 48 [(.t 19),(.t 20),(.t 22)],cL 24 47 [(.t 18),(.t 23)]] [[],[],[],[],[3],[1,2,4,3],[0,5,1,2,4,3]]) (sO [mI 4 0] .ret))))))) 25 [(.tmp 4)])
theorem fKDrop:FA 22=some iKDrop:=by kernel_rfl
def iKOpen:IFn:=(.mk (sO [(none,(.box 1 true (.t 0))),(none,(.new 2 true [p0,(i0 0),(i0 0)]))] (sO [lD 3 3 true 1,pU 4 (.build [p0,(i0 0),(i0 0)] [(0,(3,(.t 3)))]),sT 3 2 4] .ret)) 5 [(.cell 2 3 true)])
theorem fKOpen:FA 21=some iKOpen:=by kernel_rfl
end Go.AI
/- A view's links, as they lie: what is read. -/
namespace Go.AI
open Go.Proofs
variable {x:Ar}{tbl t' t'':List (Nat×AObj Ar)}{nx n' n'' j a s i:Nat}
def Kq(t:List (Nat×AObj Ar))(n:Nat)(t':List (Nat×AObj Ar))(n':Nat):Prop:=n≤n'∧∀j,j<n→look j t'=look j t
theorem Kq.refl:Kq tbl nx tbl nx:=⟨Nat.le_refl _,fun _ _=>rfl⟩
theorem Kq.trans(a:Kq tbl nx t' n')(b:Kq t' n' t'' n''):Kq tbl nx t'' n'':=⟨Nat.le_trans a.1 b.1,fun j hj=>(b.2 j (Nat.lt_of_lt_of_le hj a.1)).trans (a.2 j hj)⟩
theorem Kq.cons(a:Kq tbl nx t' n'){k m:Nat}{o:AObj Ar}(hk:nx≤k)(hm:n'≤m):Kq tbl nx ((k,o)::t') m:=⟨Nat.le_trans a.1 hm,fun j hj=>by rw[zC,if_neg (by show¬j=k;omega)];exact a.2 j hj⟩
theorem Kq.up(a:Kq tbl nx t' n'){m:Nat}(hm:n'≤m):Kq tbl nx t' m:=⟨Nat.le_trans a.1 hm,a.2⟩
theorem Kq.del(a:Kq tbl nx t' n'){k:Nat}(hk:nx≤k):Kq tbl nx (AI.del k t') n':=⟨a.1,fun j hj=>by rw[look_del,if_neg (by omega)];exact a.2 j hj⟩
noncomputable abbrev RW(hk:List (HookF Ar))(n:Nat):CallFn Ar:=run FA (fun _=>false) (hookL hk) n
abbrev vW(j a s:Nat):Value:=.agg ⟨[.pointer (some ⟨j,0,none⟩),vI a,vI s]⟩
structure WHk(hk:List (HookF Ar)):Prop where
 part:∃g,hookL hk 51=some (liftH spVPart g)
 recd:hookL hk 52=some recH
 all:hookL hk 53=some allW
 slots:hookL hk 50=none
 size:hookL hk 78=none
 alls:hookL hk 26=none
def whoA(x:Ar)(a i:Nat):Nat:=loadV x (.ofNat (a+i*16+0)) (.ofNat 8)
def serA(x:Ar)(a i:Nat):Nat:=loadV x (.ofNat (a+i*16+8)) (.ofNat 8)
def lks(x:Ar)(a:Nat):Nat→Nat→List (Nat×Nat)
 |0,_=>[]
 |n+1,i=>if whoA x a i=0 then[] else(whoA x a i,serA x a i)::lks x a n (i+1)
def preL(x:Ar)(a:Nat)(n i:Nat):List (Nat×Nat):=(List.range' i n).map fun k=>(whoA x a k,serA x a k)
theorem lks_stop{x:Ar}{a:Nat}:∀(n m i:Nat),n≤m→(∀k,i≤k→k<i+n→whoA x a k≠0)→(n=m∨whoA x a (i+n)=0)→lks x a m i=preL x a n i
 |0,0,i,_,_,_=>rfl
 |0,m+1,i,_,_,h=>by
  have h0:whoA x a i=0:=by
   rcases h with h|h
   ·omega
   ·exact h
  show(if whoA x a i=0 then _ else _)=_
  rw[if_pos h0];rfl
 |n+1,0,i,h,_,_=>by omega
 |n+1,m+1,i,h,h1,h2=>by
  have h0:whoA x a i≠0:=h1 i (Nat.le_refl _) (by omega)
  show(if whoA x a i=0 then _ else _)=_
  rw[if_neg h0,lks_stop n m (i+1) (by omega) (fun k k1 k2=>h1 k (by omega) (by omega)) (by
   rcases h2 with h|h
   ·exact .inl (by omega)
   ·exact .inr (by rw[show i+1+n=i+(n+1) by omega];exact h))]
  rfl
theorem preL_succ{n:Nat}:preL x a (n+1) 0=preL x a n 0++[(whoA x a n,serA x a n)]:=by
 unfold preL
 rw[List.range'_concat,List.map_append]
 simp
theorem preL_len{n:Nat}:(preL x a n i).length=n:=by
 unfold preL
 simp
def lkC:List (Nat×Nat)→List Value
 |[]=>[]
 |p::r=>.int .u64 (.ofNat p.1)::.int .u64 (.ofNat p.2)::lkC r
theorem lkC_app:∀(l m:List (Nat×Nat)),lkC (l++m)=lkC l++lkC m
 |[],_=>rfl
 |p::r,m=>by
  show _::_::lkC (r++m)=_::_::(lkC r++lkC m)
  rw[lkC_app r m]
theorem lkC_len:∀(l:List (Nat×Nat)),(lkC l).length=l.length*2
 |[]=>rfl
 |p::r=>by
  show(lkC r).length+1+1=(r.length+1)*2
  rw[lkC_len r];omega
def RowK(lo:Nat)(t:List (Nat×AObj Ar))(n:Nat)(v:Value)(l:List (Nat×Nat)):Prop:=(l=[]∧v = .slice none 0 0)∨(l≠[]∧∃r,lo≤r∧r<n∧v = .slice (some ⟨r,0,none⟩) l.length l.length∧look r t=some (.grown 2 67 (lkC l)))
theorem size_run{hk:List (HookF Ar)}(hh:WHk hk){n:Nat}:∃u h',RW hk (n+1) 78 [vW j a s] ⟨tbl,nx⟩=some (u,h')∧(u=vI s∧Kq tbl nx h'.tbl h'.next):=by
 refine run_fn hh.size fKSize (zL rfl) ?_
 dsimp only[iKSize,argsE]
 refine WC.seq (WC.ops (WO.box (v:=vW j a s) (cs:=[.pointer (some ⟨j,0,none⟩),vI a,vI s]) rfl rfl (WO.mv rfl (WO.nil (zN ?_)))))
 refine WC.seq (WC.ops (WO.fadd rfl (WO.load (ob:=.cells [.pointer (some ⟨j,0,none⟩),vI a,vI s]) (v:=vI s) rfl (by rw[zC,if_pos rfl]) rfl rfl rfl (WO.mv rfl (WO.nil (zN (WC.ret ?_)))))))
 exact⟨_,_,rfl,rfl,rfl,Kq.refl.cons (Nat.le_refl _) (Nat.le_succ _)⟩
theorem slots_run{hk:List (HookF Ar)}(hh:WHk hk){n:Nat}(hs:s<9223372036854775808):∃u h',RW hk (n+2) 50 [vW j a s] ⟨tbl,nx⟩=some (u,h')∧(u=vI (s / 16)∧Kq tbl nx h'.tbl h'.next):=by
 refine run_fn hh.slots fKslots (zL rfl) ?_
 dsimp only[iKslots,argsE]
 refine WC.seq (WC.ops (WO.box (v:=vW j a s) (cs:=[.pointer (some ⟨j,0,none⟩),vI a,vI s]) rfl rfl (WO.mv rfl (WO.nil (zN ?_)))))
 refine WC.seq (WC.ops (WO.fadd rfl (WO.load (ob:=.cells [.pointer (some ⟨j,0,none⟩),vI a,vI s]) (v:=vW j a s) rfl (by rw[zC,if_pos rfl]) rfl rfl rfl ?_)))
 refine WO.fcall_ex (vs:=[vW j a s]) rfl rfl (size_run (n:=n) hh) ?_
 rintro u ⟨t1,n1⟩ ⟨rfl,k1⟩
 refine WO.quo rfl rfl hs (WO.mv rfl (WO.nil (zN (WC.ret ?_))))
 exact⟨_,_,rfl,rfl,rfl,(Kq.refl.cons (Nat.le_refl _) (Nat.le_succ _)).trans k1⟩
end Go.AI
/- A view's links: All, walked. -/
namespace Go.AI
open Go.Proofs
variable {x:Ar}{tbl t' t'':List (Nat×AObj Ar)}{nx n' n'' j a s i:Nat}
theorem upd_sameW{α:Type}{s:Nat}{y:α}:∀{l:List (Nat×α)},look s l=some y→upd s y l=l
 |[],h=>by cases h
 |x::r,h=>by
  rw[zC] at h
  unfold upd
  by_cases e:s=x.1
  ·rw[if_pos e] at h
   injection h with h
   have:Nat.beq s x.1=true:=by rw[Nat.beq_eq];exact e
   rw[this,cond_true,← h]
  ·rw[if_neg e] at h
   have:Nat.beq s x.1=false:=beq_not e
   rw[this,cond_false,upd_sameW h]
theorem vckW{s b m:Nat}(h:b+m≤s)(hs:s<4294967296):vckN (.ofNat s) (.ofNat b) (.ofNat m)=0:=by
 have h1:iltF (.ofNat b) (.ofNat 0)=false:=by rw[iltF_eq];exact decide_eq_false (by simp only[zO];omega)
 have h2:iltF (.ofNat m) (.ofNat 0)=false:=by rw[iltF_eq];exact decide_eq_false (by simp only[zO];omega)
 have h3:iltF (.ofNat s) (.ofNat m)=false:=by rw[iltF_eq];exact decide_eq_false (by simp only[zO];omega)
 have h4:wrapF .i64 (Int.ofNat s-Int.ofNat m)=Int.ofNat (s-m):=by
  rw[wrap64 (by simp only[zO];omega) (by simp only[zO];omega)]
  simp only[zO];omega
 have h5:iltF (.ofNat (s-m)) (.ofNat b)=false:=by rw[iltF_eq];exact decide_eq_false (by simp only[zO];omega)
 unfold vckN
 rw[h1,h2,h3,h4,h5]
 rfl
theorem part_at{g:List Value→Option Value}{b m:Nat}(hl:look j tbl=some (.ext x))(hx:x.refuse<9223372036854775808)(hv:bytesE x (.ofNat a) (.ofNat s)=0)(ha:a<4611686018427387904)(hs:s<4294967296)(h:b+m≤s):liftH spVPart g [vW j a s,vI b,vI m] ⟨tbl,nx⟩=some (.tuple ⟨[vW j (a+b) m,errV 0]⟩,⟨tbl,nx⟩):=by
 have e:Nat.blt x.refuse 9223372036854775808=true:=by rw[blt_iff];exact decide_eq_true hx
 have hu:upd j (AObj.ext x) tbl=tbl:=upd_sameW hl
 have h1:firstV [vW j a s,vI b,vI m]=some j:=rfl
 have hb:Nat.beq j j=true:=Nat.beq_refl j
 have h2:canL j [vW j a s,vI b,vI m]=some [vwC (.ofNat a) (.ofNat s),vI b,vI m]:=by
  simp only[canL,canV,canFs,canF,hb,cond_true]
 have h3:spVPart x [vwC (.ofNat a) (.ofNat s),vI b,vI m]=some (.tuple ⟨[vwC (.ofNat (a+b)) (.ofNat m),errV 0]⟩,x):=by
  simp only[spVPart,vckW h hs,spVOf,wrap_add ha (by omega:b<4294967296),bytesE_sub hv h]
 have h4:backV j (.tuple ⟨[vwC (.ofNat (a+b)) (.ofNat m),errV 0]⟩)=some (.tuple ⟨[vW j (a+b) m,errV 0]⟩):=rfl
 simp only[liftH,h1,hl,e,cond_true,h2,h3,h4,hu]
theorem pv_mulN{env:List (Nat×Value)}{e:EqK}{x y:Opd}{a b:Nat}(hx:evo env x=some (jI a))(hy:evo env y=some (jI b))(h:a*b<9223372036854775808):peval env (.bin .mul e x y)=some (jI (a*b)):=by
 simp only[peval,hx,hy,binVal,intBin,if_true]
 have h2:(Int.ofNat a*Int.ofNat b:Int)=Int.ofNat (a*b):=rfl
 rw[h2,wrap64 (by simp only[zO];omega) (by simp only[zO];omega)]
theorem ceqs_vw:ceqs [.pointer (some ⟨j,0,none⟩),vI a,vI s] [.pointer (some ⟨j,0,none⟩),vI a,vI s]=true:=by
 simp[ceqs,ceq,ieqF_refl]
theorem okW_of(hx:x.refuse<9223372036854775808)(hv:bytesE x (.ofNat a) (.ofNat 16)=0)(ha:a<4611686018427387904):okW x a=true:=by
 have h1:Nat.beq (bytesE x (.ofNat a) (.ofNat 16)) 0=true:=by rw[Nat.beq_eq];exact hv
 have h2:Nat.blt a 4611686018427387904=true:=by rw[Nat.blt_eq];exact ha
 have h3:Nat.blt x.refuse 9223372036854775808=true:=by rw[Nat.blt_eq];exact hx
 unfold okW
 rw[h1,h2,h3]
 rfl
abbrev recV(r:Nat):Value:=.agg ⟨[.slice (some ⟨r,0,none⟩) 2 2]⟩
theorem all_at{r:Nat}(hr:look r tbl=some wid)(hl:look j tbl=some (.ext x))(hx:x.refuse<9223372036854775808)(hv:bytesE x (.ofNat a) (.ofNat 16)=0)(ha:a<4611686018427387904) :
  allW [recV r,vW j a 16] ⟨tbl,nx⟩=some (.tuple ⟨[.slice (some ⟨nx,0,none⟩) 2 2,errV 0]⟩,⟨(nx,.grown 1 28 [.int .u64 (.ofNat (loadV x (.ofNat (a+0)) (.ofNat 8))),.int .u64 (.ofNat (loadV x (.ofNat (a+8)) (.ofNat 8)))])::tbl,nx+1⟩):=by
 simp only[allW,hr,hl,okW_of hx hv ha,cond_true]
theorem estep_appM{call:CallFn Ar}{env:List (Nat×Value)}{m m':Mem Ar}{d e b t:Nat}{x y:Opd}{u v w:Value}(hx:evo env x=some u)(hy:evo env y=some v)(h:appendM m e b t u v=some (w,m')):estep call env m (.append d e b t x y)=some (w,m'):=by
 simp only[estep,mstep,hx,hy,h]
theorem RowK.lo{lo lo':Nat}{v:Value}{l:List (Nat×Nat)}(h:RowK lo tbl nx v l)(hl:lo'≤lo):RowK lo' tbl nx v l:=by
 rcases h with h|⟨h0,r,h1,h2,h3,h4⟩
 ·exact .inl h
 ·exact .inr ⟨h0,r,Nat.le_trans hl h1,h2,h3,h4⟩
theorem RowK.kq{lo:Nat}{v:Value}{l:List (Nat×Nat)}(h:RowK lo tbl nx v l)(K:Kq tbl nx t' n'):RowK lo t' n' v l:=by
 rcases h with h|⟨h0,r,h1,h2,h3,h4⟩
 ·exact .inl h
 ·exact .inr ⟨h0,r,h1,Nat.lt_of_lt_of_le h2 K.1,h3,(K.2 r h2).trans h4⟩
theorem allk_run{hk:List (HookF Ar)}(hh:WHk hk){n:Nat}(hn:101≤n)(hl:look j tbl=some (.ext x))(hj:j<nx)(hx:x.refuse<9223372036854775808)(hv:bytesE x (.ofNat a) (.ofNat s)=0)(ha:a+s<4611686018427387904)(hs:s≤1600) :
  ∃u h',RW hk (n+3) 26 [vW j a s] ⟨tbl,nx⟩=some (u,h')∧(RowK nx h'.tbl h'.next u (lks x a (s / 16) 0)∧Kq tbl nx h'.tbl h'.next):=by
 obtain⟨gp,hpart⟩:=hh.part
 refine run_fn hh.alls fKAll (zL rfl) ?_
 dsimp only[iKAll,argsE]
 refine WC.seq (WC.ops (WO.box (v:=vW j a s) (cs:=[.pointer (some ⟨j,0,none⟩),vI a,vI s]) rfl rfl (WO.mv rfl (WO.nil (zN ?_)))))
 refine WC.seq (WC.ops (WO.mv rfl (WO.nil (zN ?_))))
 refine WC.seq (WC.seq (WC.ops (WO.load (ob:=.cells [.pointer (some ⟨j,0,none⟩),vI a,vI s]) (v:=vW j a s) rfl (by rw[zC,if_pos rfl]) rfl rfl rfl ?_)))
 refine WO.fcall_ex (vs:=[vW j a s]) rfl rfl (slots_run (n:=n) hh (by omega)) ?_
 rintro u ⟨t1,n1⟩ ⟨rfl,k1⟩
 have K1:Kq tbl nx t1 n1:=(Kq.refl.cons (Nat.le_refl _) (Nat.le_succ _)).trans k1
 have hb1:look nx t1=some (.cells [.pointer (some ⟨j,0,none⟩),vI a,vI s]):=(k1.2 nx (Nat.lt_succ_self _)).trans (by rw[zC,if_pos rfl])
 have g1:nx+1≤n1:=k1.1
 refine WO.mv rfl (WO.nil (zN ?_))
 refine WC.block ?_
 refine WC.loop (fun q e tb nb=>∃i v,i+q=s / 16∧e 1=some (.pointer (some ⟨nx,0,none⟩))∧e 3=some v∧e 10=some (vI (s / 16))∧e 11=some (vI i)∧(∀p,p<i→whoA x a p≠0)∧Kq tbl nx tb nb∧look nx tb=some (.cells [.pointer (some ⟨j,0,none⟩),vI a,vI s])∧nx+1≤nb∧RowK (nx+1) tb nb v (preL x a i 0)) (k:=s / 16) (by omega)
  ⟨0,.slice none 0 0,by omega,rfl,rfl,rfl,rfl,fun p hp=>absurd hp (Nat.not_lt_zero _),K1,hb1,g1,.inl ⟨rfl,rfl⟩⟩ ?_
 rintro q e tb nb ⟨i,v,hiq,e1,e3,e10,e11,hw,K,hb,g,hR⟩
 dsimp only at e1 e3 e10 e11
 refine WC.seq (WC.ops (WO.lssS e11 e10 (fun hz=>?_) (fun hz=>?_)))
 ·have hi:i<s / 16:=by simp only[zO] at hz;omega
  refine WO.nil (zN (WC.seq (WC.cond_true rfl (WC.skip (zN (WC.seq (WC.block (WC.seq (WC.ops ?_)))))))))
  have hjb:look j tb=some (.ext x):=(K.2 j hj).trans hl
  have h16:i*16+16≤s:=by omega
  have hgb:=g
  refine WO.mv e11 (WO.mv rfl (WO.nil (zN (WC.seq (WC.ops (WO.fadd e1 (WO.load (ob:=.cells [.pointer (some ⟨j,0,none⟩),vI a,vI s]) (v:=vW j a s) rfl hb rfl rfl rfl (WO.mv rfl (WO.pure (v:=vI (i*16)) (pv_mulN rfl rfl (by omega)) ?_)))))))))
  refine WO.fcall (vs:=[vW j a s,vI (i*16),vI 16]) rfl rfl ((run_hook (n:=n+1) hpart).trans (part_at hjb hx hv (by omega) (by omega) h16)) ?_
  refine WO.mv rfl (WO.pure (v:=vW j (a+i*16) 16) rfl (WO.pure (v:=errV 0) rfl (WO.new (WO.step (i:=.store 3 (.t 5) (.t 20)) (v:=undef) (m':=⟨[],(nb,.cells [.pointer (some ⟨j,0,none⟩),vI (a+i*16),vI 16])::tb,nb+1⟩) ?_ (WO.mv rfl (WO.nil (zN ?_)))))))
  ·have hm:=mem_store (nx:=nb+1) (vs:=[Value.pointer (some ⟨j,0,none⟩),vI (a+i*16),vI 16]) (o:=0) (ob':=.cells [.pointer (some ⟨j,0,none⟩),vI (a+i*16),vI 16]) (tbl:=(nb,AObj.cells [.pointer none,.int .i64 (.ofNat 0),.int .i64 (.ofNat 0)])::tb) (i:=nb) (by rw[zC,if_pos rfl]) rfl (zL rfl) rfl
   rw[updH] at hm
   exact estep_store rfl rfl rfl rfl hm
  -- the record,and what it reads
  have hv16:bytesE x (.ofNat (a+i*16)) (.ofNat 16)=0:=bytesE_sub hv h16
  have hT1:look nb ((nb,AObj.cells [.pointer (some ⟨j,0,none⟩),vI (a+i*16),vI 16])::tb)=some (.cells [.pointer (some ⟨j,0,none⟩),vI (a+i*16),vI 16]):=by rw[zC,if_pos rfl]
  have hK1:Kq tb nb ((nb,AObj.cells [.pointer (some ⟨j,0,none⟩),vI (a+i*16),vI 16])::tb) (nb+1):=Kq.refl.cons (Nat.le_refl _) (Nat.le_succ _)
  generalize hT1d:((nb,AObj.cells [.pointer (some ⟨j,0,none⟩),vI (a+i*16),vI 16])::tb)=T1 at hT1 hK1 ⊢
  refine WC.seq (WC.drawnW ?_)
  have hj2:look j ((nb+9,wid)::T1)=some (.ext x):=by
   rw[zC,if_neg (by show¬j=nb+9;omega)]
   exact(hK1.2 j (by have:=K.1;omega)).trans hjb
  have hld:∀m,(⟨[],T1,m⟩:Mem Ar).load ⟨nb,0,none⟩ 3=some [.pointer (some ⟨j,0,none⟩),vI (a+i*16),vI 16]:=fun m=>mem_load hT1 rfl rfl
  have hld2:∀m,(⟨[],(nb+9,wid)::T1,m⟩:Mem Ar).load ⟨nb,0,none⟩ 3=some [.pointer (some ⟨j,0,none⟩),vI (a+i*16),vI 16]:=fun m=>mem_load (by rw[zC,if_neg (by show¬nb=nb+9;omega)];exact hT1) rfl rfl
  refine WD.chn (m:=⟨[],T1,nb+1+8⟩) (m':=⟨[],(nb+9,wid)::T1,nb+9+1⟩) (ms:=[]) (v:=recV (nb+9)) rfl rfl rfl (estep_call (m:=⟨[],T1,nb+1+8⟩) (h:=⟨(nb+9,wid)::T1,nb+9+1⟩) (vs:=[]) rfl rfl ((run_hook (n:=n+1) hh.recd).trans rfl)) ?_
  refine WD.load (m:=⟨[],(nb+9,wid)::T1,nb+9+1⟩) (v:=vW j (a+i*16) 16) (evOut rfl rfl rfl) (hld2 _) rfl ?_
  have hK2:Kq tb nb ((nb+10,AObj.grown 1 28 [.int .u64 (.ofNat (whoA x a i)),.int .u64 (.ofNat (serA x a i))])::(nb+9,wid)::T1) (nb+10+1):=(hK1.cons (by omega) (show nb+1≤nb+10 by omega)).cons (by omega) (by omega)
  have hld3:∀m,(⟨[],(nb+10,AObj.grown 1 28 [.int .u64 (.ofNat (whoA x a i)),.int .u64 (.ofNat (serA x a i))])::(nb+9,wid)::T1,m⟩:Mem Ar).load ⟨nb,0,none⟩ 3=some [.pointer (some ⟨j,0,none⟩),vI (a+i*16),vI 16]:=fun m=>mem_load (by rw[zC,if_neg (by show¬nb=nb+10;omega),zC,if_neg (by show¬nb=nb+9;omega)];exact hT1) rfl rfl
  refine WD.chn (m:=⟨[],(nb+9,wid)::T1,nb+9+1⟩) (m':=⟨[],(nb+10,.grown 1 28 [.int .u64 (.ofNat (whoA x a i)),.int .u64 (.ofNat (serA x a i))])::(nb+9,wid)::T1,nb+10+1⟩) (v:=.tuple ⟨[.slice (some ⟨nb+10,0,none⟩) 2 2,errV 0]⟩) rfl rfl rfl (estep_call (m:=⟨[],(nb+9,wid)::T1,nb+9+1⟩) (h:=⟨(nb+10,.grown 1 28 [.int .u64 (.ofNat (whoA x a i)),.int .u64 (.ofNat (serA x a i))])::(nb+9,wid)::T1,nb+10+1⟩) (vs:=[recV (nb+9),vW j (a+i*16) 16]) rfl rfl ((run_hook (n:=n+1) hh.all).trans (all_at (by rw[zC,if_pos rfl]) hj2 hx hv16 (by omega)))) ?_
  refine WD.pure (v:=.tuple ⟨[.slice (some ⟨nb+10,0,none⟩) 2 2,errV 0]⟩) rfl (WD.pure (v:=.slice (some ⟨nb+10,0,none⟩) 2 2) rfl (WD.pure (v:=errV 0) rfl (WD.pure (v:=.slice (some ⟨nb+10,0,none⟩) 2 2) rfl (WD.pure (v:=errV 0) rfl (WD.nil ⟨?_,_,_,rfl,?_⟩)))))
  ·simp only[heldAll,loadsIn,hld,hld2,hld3,ceqs_vw]
   rfl
  have hrow:look (nb+10) ((nb+10,AObj.grown 1 28 [.int .u64 (.ofNat (whoA x a i)),.int .u64 (.ofNat (serA x a i))])::(nb+9,wid)::T1)=some (.grown 1 28 [.int .u64 (.ofNat (whoA x a i)),.int .u64 (.ofNat (serA x a i))]):=by rw[zC,if_pos rfl]
  have KT:=K.trans hK2
  have hRT:=hR.kq hK2
  have hbT:look nx ((nb+10,AObj.grown 1 28 [.int .u64 (.ofNat (whoA x a i)),.int .u64 (.ofNat (serA x a i))])::(nb+9,wid)::T1)=some (.cells [.pointer (some ⟨j,0,none⟩),vI a,vI s]):=(hK2.2 nx (by omega)).trans hb
  generalize hT2d:((nb+10,AObj.grown 1 28 [.int .u64 (.ofNat (whoA x a i)),.int .u64 (.ofNat (serA x a i))])::(nb+9,wid)::T1)=T2 at hrow KT hRT hbT hK2 ⊢
  clear hld hld2 hld3
  refine zN (WC.seq (WC.seq (WC.ops (WO.mv (m:=⟨[],T2,nb+10+1⟩) rfl (WO.pure (v:=.bool false) rfl (WO.mv rfl (WO.take rfl rfl (WO.mv rfl (WO.take rfl rfl ?_)))))))))
  refine WO.idxL (b:=nb+10) (o:=0) (len:=2) (c:=2) (sp:=none) (j:=.i64) (z:=0) (n:=0) rfl rfl rfl (by decide) (WO.take rfl rfl (WO.load (v:=.int .u64 (.ofNat (whoA x a i))) rfl hrow rfl rfl rfl (WO.take rfl rfl ?_)))
  refine WO.eqlS rfl rfl (fun h0=>?_) (fun h0=>?_)
  ·-- no link here: the last one
   have h0:whoA x a i=0:=Int.ofNat.inj h0
   refine WO.pure (v:=.bool true) rfl (WO.nil (zN (WC.cond_true rfl (WC.exit (thenC_exit (blockC_ne (by decide) (thenC_exit (blockC_exit ?_))))))))
   refine zN (WC.seq (WC.ops (WO.mv (m:=⟨[],T2,nb+10+1⟩) e3 (WO.mv rfl (WO.nil (zN (WC.ret ?_)))))))
   refine⟨_,_,rfl,rfl,?_,KT⟩
   rw[lks_stop i (s / 16) 0 (by omega) (fun p _ hp=>hw p (by omega)) (.inr (by rw[Nat.zero_add];exact h0))]
   exact hRT.lo (Nat.le_succ _)
  ·have h0:whoA x a i≠0:=fun e=>h0 (by rw[e])
   refine WO.pure (v:=.bool false) rfl (WO.nil (zN (WC.cond_false rfl (WC.skip (zN (WC.drawnW ?_))))))
   have hM:∀m (t:List (Nat×AObj Ar)),look (nb+10) t=some (.grown 1 28 [.int .u64 (.ofNat (whoA x a i)),.int .u64 (.ofNat (serA x a i))])→(⟨[],t,m⟩:Mem Ar).load ⟨nb+10,0,none⟩ 1=some [.int .u64 (.ofNat (whoA x a i))]∧(⟨[],t,m⟩:Mem Ar).load ⟨nb+10,1,none⟩ 1=some [.int .u64 (.ofNat (serA x a i))]:=fun m t h=>⟨mem_load h rfl rfl,mem_load h rfl rfl⟩
   have hsr:source (⟨[],(nb+19,.cells [.int .u64 (.ofNat (whoA x a i)),.int .u64 (.ofNat (serA x a i))])::T2,nb+22⟩:Mem Ar) 2 (.slice (some ⟨nb+19,0,none⟩) 1 1)=some (1,[.int .u64 (.ofNat (whoA x a i)),.int .u64 (.ofNat (serA x a i))]):=by
    have:(⟨[],(nb+19,.cells [.int .u64 (.ofNat (whoA x a i)),.int .u64 (.ofNat (serA x a i))])::T2,nb+22⟩:Mem Ar).loads (some ⟨nb+19,0,none⟩) (1*2)=some [.int .u64 (.ofNat (whoA x a i)),.int .u64 (.ofNat (serA x a i))]:=mem_lds (by rw[zC,if_pos rfl]) rfl (by decide) rfl
    show(Mem.loads _ _ (1*2)).map _=_
    rw[this];rfl
   have hlk:lkC (preL x a (i+1) 0)=lkC (preL x a i 0)++[.int .u64 (.ofNat (whoA x a i)),.int .u64 (.ofNat (serA x a i))]:=by
    rw[preL_succ,lkC_app];rfl
   have hM0:∀q,q<nb+11→look q ((nb+19,AObj.cells [.int .u64 (.ofNat (whoA x a i)),.int .u64 (.ofNat (serA x a i))])::T2)=look q T2:=fun q hq=>by rw[zC,if_neg (by show¬q=nb+19;omega)]
   obtain⟨t3,happ,hn1,hn2,hn3,hn4⟩:∃t3,appendM (⟨[],(nb+19,.cells [.int .u64 (.ofNat (whoA x a i)),.int .u64 (.ofNat (serA x a i))])::T2,nb+22⟩:Mem Ar) 2 16 67 v (.slice (some ⟨nb+19,0,none⟩) 1 1)=some (.slice (some ⟨nb+22,0,none⟩) (i+1) (i+1),⟨[],t3,nb+23⟩)∧look (nb+22) t3=some (.grown 2 67 (lkC (preL x a (i+1) 0)))∧Kq tbl nx t3 (nb+23)∧look nx t3=some (.cells [.pointer (some ⟨j,0,none⟩),vI a,vI s])∧look (nb+10) t3=some (.grown 1 28 [.int .u64 (.ofNat (whoA x a i)),.int .u64 (.ofNat (serA x a i))]):=by
    rcases hR with⟨hl0,rfl⟩|⟨hl0,r,hr1,hr2,rfl,hr4⟩
    ·have hi0:i=0:=by
      have:=congrArg List.length hl0
      rw[preL_len] at this
      exact this
     subst hi0
     refine⟨_,appendM_new hsr (by decide) (by omega),by rw[hlk,hl0];show look _ (_::_)=_;rw[zC,if_pos rfl];rfl,(KT.cons (k:=nb+19) (m:=nb+20) (by have:=KT.1;omega) (by omega)).cons (k:=nb+22) (m:=nb+23) (by have:=KT.1;omega) (by omega),?_,?_⟩
     ·show look _ (_::_)=_
      rw[zC,if_neg (by show¬nx=nb+22;omega),hM0 _ (by omega)]
      exact hbT
     ·show look _ (_::_)=_
      rw[zC,if_neg (by show¬nb+10=nb+22;omega),hM0 _ (by omega)]
      exact hrow
    ·have hll:(preL x a i 0).length=i:=preL_len
     have hr5:look r T2=some (.grown 2 67 (lkC (preL x a i 0))):=(hK2.2 r hr2).trans hr4
     have hol:(lkC (preL x a i 0)).length=i*2:=by rw[lkC_len,hll]
     have hi0:i≠0:=fun e=>by rw[e] at hl0;exact hl0 rfl
     have hgr:look r ((nb+19,AObj.cells [.int .u64 (.ofNat (whoA x a i)),.int .u64 (.ofNat (serA x a i))])::T2)=some (.grown 2 67 (lkC (preL x a i 0))):=(hM0 r (by omega)).trans hr5
     rw[hll]
     refine⟨_,appendM_more hsr rfl (by decide) hgr hol (mem_lds hgr rfl (by omega) (by rw[takeN_mid (by omega),List.drop_zero,← hol,List.take_length])) (by omega),by rw[hlk];exact(zC _ _ _).trans (if_pos rfl),((KT.cons (k:=nb+19) (m:=nb+20) (by omega) (by omega)).del (k:=r) (by omega)).cons (k:=nb+22) (m:=nb+23) (by omega) (by omega),?_,?_⟩
     ·show look _ (_::del r _)=_
      rw[zC,if_neg (by show¬nx=nb+22;omega),look_del_ne (by omega),hM0 _ (by omega)]
      exact hbT
     ·show look _ (_::del r _)=_
      rw[zC,if_neg (by show¬nb+10=nb+22;omega),look_del_ne (by omega),hM0 _ (by omega)]
      exact hrow
   refine WD.pure (v:=v) (evOut e3 rfl rfl) (WD.pure (v:=.slice (some ⟨nb+10,0,none⟩) 2 2) (evOut rfl rfl rfl) (WD.pure (v:=.pointer (some ⟨nb+10,0,none⟩)) rfl (WD.load (m:=⟨[],T2,nb+10+1+11⟩) (ms:=[]) (v:=.int .u64 (.ofNat (whoA x a i))) rfl (hM _ T2 hrow).1 rfl ?_)))
   refine WD.pure (v:=.slice (some ⟨nb+10,0,none⟩) 2 2) (evOut rfl rfl rfl) (WD.pure (v:=.pointer (some ⟨nb+10,1,none⟩)) rfl (WD.load (m:=⟨[],T2,nb+10+1+11⟩) (ms:=[]) (v:=.int .u64 (.ofNat (serA x a i))) rfl (hM _ T2 hrow).2 rfl ?_))
   refine WD.pure (v:=.agg ⟨[.int .u64 (.ofNat (whoA x a i)),.int .u64 (.ofNat (serA x a i))]⟩) rfl (WD.alloc (hp:=true) (cs:=[.int .u64 (.ofNat (whoA x a i)),.int .u64 (.ofNat (serA x a i))]) (nn:=some 1) rfl rfl ?_)
   refine WD.chn (m:=⟨[],T2,nb+10+1+11⟩) (m':=⟨[],t3,nb+23⟩) (v:=.slice (some ⟨nb+22,0,none⟩) (i+1) (i+1)) rfl rfl rfl (estep_appM (u:=v) (v:=.slice (some ⟨nb+19,0,none⟩) 1 1) rfl rfl happ) (WD.pure (v:=.slice (some ⟨nb+22,0,none⟩) (i+1) (i+1)) rfl (WD.nil ⟨?_,_,_,rfl,?_⟩))
   ·have c1:∀z:Nat,ceqs [Value.int .u64 (.ofNat z)] [Value.int .u64 (.ofNat z)]=true:=fun z=>by simp[ceqs,ceq,ieqF_refl]
    simp only[heldAll,loadsIn,(hM _ T2 hrow).1,(hM _ T2 hrow).2,(hM _ t3 hn4).1,(hM _ t3 hn4).2,c1]
    rfl
   refine zB (zN (WC.ops ?_))
   refine WO.add (m:=⟨[],t3,nb+23⟩) e11 rfl (by simp only[zO];omega) (by simp only[zO];omega) (WO.mv rfl (WO.nil ?_))
   exact⟨q-1,by omega,rfl,i+1,.slice (some ⟨nb+22,0,none⟩) (i+1) (i+1),by omega,e1,rfl,e10,rfl,fun p hp=>by
    rcases Nat.lt_or_ge p i with h|h
    ·exact hw p h
    ·rw[show p=i by omega];exact h0,hn2,hn3,by show nx+1≤nb+23;omega,.inr ⟨fun e=>by have:=congrArg List.length e;rw[preL_len] at this;simp at this,nb+22,by omega,by show nb+22<nb+23;omega,by rw[preL_len],hn1⟩⟩
 ·have hi:i=s / 16:=by simp only[zO] at hz;omega
  refine WO.nil (zN (WC.seq (WC.cond_false rfl (WC.exit (thenC_exit (blockC_exit ?_))))))
  refine zN (WC.seq (WC.ops (WO.mv (m:=⟨[],tb,nb⟩) e3 (WO.mv rfl (WO.nil (zN (WC.ret ?_)))))))
  refine⟨_,_,rfl,rfl,?_,K⟩
  rw[lks_stop i (s / 16) 0 (by omega) (fun p _ hp=>hw p (by omega)) (.inl hi)]
  exact hR.lo (Nat.le_succ _)
end Go.AI
/- Who is linked: of, and Has, walked. -/
namespace Go.AI
open Go.Proofs
variable {x:Ar}{tbl t' t'':List (Nat×AObj Ar)}{nx n' n'' j a s i w lo:Nat}{L:List (Nat×Nat)}
def idxF(w:Nat):List (Nat×Nat)→Nat→Int
 |[],_=>.negSucc 0
 |p::r,i=>if p.1=w then .ofNat i else idxF w r (i+1)
theorem idxF_no:∀(L:List (Nat×Nat)) (i:Nat),(∀p,p∈L→p.1≠w)→idxF w L i = .negSucc 0
 |[],_,_=>rfl
 |p::r,i,h=>by
  show(if p.1=w then _ else _)=_
  rw[if_neg (h p (by simp)),idxF_no r (i+1) fun q hq=>h q (by simp[hq])]
theorem idxF_at:∀(L:List (Nat×Nat)) (i k:Nat) (p:Nat×Nat),L[k]? = some p→p.1=w→(∀q,q∈L.take k→q.1≠w)→idxF w L i = .ofNat (i+k)
 |[],_,_,_,h,_,_=>by simp at h
 |c::r,i,0,p,h,hp,_=>by
  simp only[List.getElem?_cons_zero,zI] at h
  subst h
  show(if c.1=w then _ else _)=_
  rw[if_pos hp];rfl
 |c::r,i,k+1,p,h,hp,hq=>by
  have h1:c.1≠w:=hq c (by simp)
  show(if c.1=w then _ else _)=_
  rw[if_neg h1,idxF_at r (i+1) k p (by simpa using h) hp (fun q h=>hq q (by simp[h]))]
  rw[show i+1+k=i+(k+1) by omega]
theorem RowK.get{v:Value}(h:RowK lo tbl nx v L):∃ad,v = .slice ad L.length L.length∧(L≠[]→∃r,lo≤r∧r<nx∧ad=some ⟨r,0,none⟩∧look r tbl=some (.grown 2 67 (lkC L))):=by
 rcases h with⟨rfl,rfl⟩|⟨h0,r,h1,h2,rfl,h4⟩
 ·exact⟨none,rfl,fun h=>absurd rfl h⟩
 ·exact⟨_,rfl,fun _=>⟨r,h1,h2,rfl,h4⟩⟩
theorem lkC_get:∀{L:List (Nat×Nat)} {i:Nat} {p:Nat×Nat},L[i]? = some p→takeN (lkC L) (i*2) 2=some [.int .u64 (.ofNat p.1),.int .u64 (.ofNat p.2)]
 |[],_,_,h=>by simp at h
 |c::r,0,p,h=>by
  simp only[List.getElem?_cons_zero,zI] at h
  subst h
  rfl
 |c::r,i+1,p,h=>by
  have ih:=lkC_get (L:=r) (i:=i) (p:=p) (by simpa using h)
  have e:(i+1)*2=i*2+1+1:=by omega
  rw[e]
  exact ih
theorem of1_run{hk:List (HookF Ar)}(h73:hookL hk 73=none){n bx p1 p2:Nat}(hb:look bx tbl=some (.cells [.int .u64 (.ofNat w)]))(hbx:bx<nx):∃u h',RW hk (n+1) 73 [.agg ⟨[.int .u64 (.ofNat p1),.int .u64 (.ofNat p2)]⟩,.pointer (some ⟨bx,0,none⟩)] ⟨tbl,nx⟩=some (u,h')∧(u = .bool (decide (p1=w))∧Kq tbl nx h'.tbl h'.next):=by
 refine run_fn h73 fKof1 (zL rfl) ?_
 dsimp only[iKof1,argsE]
 refine WC.seq (WC.ops (WO.box (v:=.agg ⟨[.int .u64 (.ofNat p1),.int .u64 (.ofNat p2)]⟩) (cs:=[.int .u64 (.ofNat p1),.int .u64 (.ofNat p2)]) rfl rfl (WO.mv rfl (WO.nil (zN ?_)))))
 refine WC.seq (WC.ops (WO.fadd rfl (WO.load (ob:=.cells [.int .u64 (.ofNat p1),.int .u64 (.ofNat p2)]) (v:=.int .u64 (.ofNat p1)) rfl (by rw[zC,if_pos rfl]) rfl rfl rfl ?_)))
 refine WO.load (ob:=.cells [.int .u64 (.ofNat w)]) (v:=.int .u64 (.ofNat w)) rfl (by rw[zC,if_neg (by show¬bx=nx;omega)];exact hb) rfl rfl rfl ?_
 refine WO.eqlS rfl rfl (fun h=>?_) (fun h=>?_)
 ·refine WO.mv rfl (WO.nil (zN (WC.ret ?_)))
  have h:p1=w:=Int.ofNat.inj h
  exact⟨_,_,rfl,rfl,by rw[decide_eq_true h],Kq.refl.cons (Nat.le_refl _) (Nat.le_succ _)⟩
 ·refine WO.mv rfl (WO.nil (zN (WC.ret ?_)))
  have h:p1≠w:=fun e=>h (by rw[e])
  exact⟨_,_,rfl,rfl,by rw[decide_eq_false h],Kq.refl.cons (Nat.le_refl _) (Nat.le_succ _)⟩
theorem idx_run{hk:List (HookF Ar)}(h72:hookL hk 72=none)(h73:hookL hk 73=none){n bx:Nat}{v:Value}(hn:101≤n)(hL:L.length≤100)(hb:look bx tbl=some (.cells [.int .u64 (.ofNat w)]))(hbx:bx<nx)(hR:RowK lo tbl nx v L) :
  ∃u h',RW hk (n+2) 72 [v,.func (.func 73) (.mk []) (.mk [.pointer (some ⟨bx,0,none⟩)])] ⟨tbl,nx⟩=some (u,h')∧(u = .int .i64 (idxF w L 0)∧Kq tbl nx h'.tbl h'.next):=by
 obtain⟨ad,rfl,hrow⟩:=hR.get
 refine run_fn h72 fKIdx (zL rfl) ?_
 dsimp only[iKIdx,argsE]
 refine WC.seq (WC.ops (WO.mv rfl (WO.nil (zN ?_))))
 refine WC.seq (WC.seq (WC.ops (WO.mv rfl (WO.len rfl (WO.mv rfl (WO.nil (zN ?_)))))))
 refine WC.block ?_
 refine WC.loop (fun q e tb nb=>∃i,i+q=L.length∧e 0=some (.slice ad L.length L.length)∧e 1=some (.func (.func 73) (.mk []) (.mk [.pointer (some ⟨bx,0,none⟩)]))∧e 7=some (vI L.length)∧e 8=some (vI i)∧(∀p,p∈L.take i→p.1≠w)∧Kq tbl nx tb nb) (k:=L.length) (by omega)
  ⟨0,by omega,rfl,rfl,rfl,rfl,fun p hp=>by simp at hp,Kq.refl⟩ ?_
 rintro q e tb nb ⟨i,hiq,e0,e1,e7,e8,hw,K⟩
 dsimp only at e0 e1 e7 e8
 refine WC.seq (WC.ops (WO.lssS e8 e7 (fun hz=>?_) (fun hz=>?_)))
 ·have hi:i<L.length:=by simp only[zO] at hz;omega
  obtain⟨p,hp⟩:∃p,L[i]? = some p:=⟨L[i],List.getElem?_eq_getElem hi⟩
  obtain⟨r,hr1,hr2,rfl,hr4⟩:=hrow (fun e=>by rw[e] at hi;simp at hi)
  have hrb:=(K.2 r hr2).trans hr4
  refine WO.nil (zN (WC.seq (WC.cond_true rfl (WC.skip (zN (WC.seq (WC.block (WC.seq (WC.ops ?_)))))))))
  refine WO.mv e8 (WO.mv rfl (WO.nil (zN (WC.seq (WC.ops (WO.mv e1 (WO.mv e0 (WO.mv rfl (WO.idxL (b:=r) (o:=0) (len:=L.length) (c:=L.length) (sp:=none) (j:=.i64) (z:=Int.ofNat i) (n:=i) rfl rfl rfl hi ?_)))))))))
  refine WO.load (ob:=.grown 2 67 (lkC L)) (v:=.agg ⟨[.int .u64 (.ofNat p.1),.int .u64 (.ofNat p.2)]⟩) rfl hrb rfl (by rw[Nat.zero_add];exact lkC_get hp) rfl ?_
  refine WO.fcall_ex (vs:=[.agg ⟨[.int .u64 (.ofNat p.1),.int .u64 (.ofNat p.2)]⟩]) rfl rfl (of1_run (n:=n) h73 (p1:=p.1) (p2:=p.2) ((K.2 bx hbx).trans hb) (Nat.lt_of_lt_of_le hbx K.1)) ?_
  rintro u ⟨t2,n2⟩ ⟨rfl,k2⟩
  by_cases hpw:p.1=w
  ·rw[decide_eq_true hpw]
   refine WO.nil (zN (WC.cond_true rfl (WC.seq (WC.ops (WO.mv rfl (WO.mv rfl (WO.nil (zN (WC.ret ?_)))))))))
   refine blockC_ret (thenC_ret (blockC_ret ?_))
   refine⟨_,_,rfl,rfl,?_,K.trans k2⟩
   rw[idxF_at L 0 i p hp hpw hw,Nat.zero_add]
  ·rw[decide_eq_false hpw]
   refine WO.nil (zN (WC.cond_false rfl (WC.skip (zB (zN (WC.ops ?_))))))
   refine WO.add e8 rfl (by simp only[zO];omega) (by simp only[zO];omega) (WO.mv rfl (WO.nil ?_))
   refine⟨q-1,by omega,rfl,i+1,by omega,e0,e1,e7,rfl,fun c hc=>?_,K.trans k2⟩
   rw[List.take_add_one,hp] at hc
   rcases List.mem_append.1 hc with hc|hc
   ·exact hw c hc
   ·rw[show c=p by simpa using hc];exact hpw
 ·have hi:i=L.length:=by simp only[zO] at hz;omega
  refine WO.nil (zN (WC.seq (WC.cond_false rfl (WC.exit (thenC_exit (blockC_exit ?_))))))
  refine zN (WC.seq (WC.ops (WO.mv (m:=⟨[],tb,nb⟩) rfl (WO.nil (zN (WC.ret ?_))))))
  refine⟨_,_,rfl,rfl,?_,K⟩
  rw[idxF_no L 0 (fun p hp=>hw p (by rw[hi,List.take_length];exact hp))]
structure WHk2(hk:List (HookF Ar)):Prop extends WHk hk where
 idx:hookL hk 72=none
 of1:hookL hk 73=none
 of_:hookL hk 46=none
 has:hookL hk 27=none
theorem of_run{hk:List (HookF Ar)}(hh:WHk2 hk){n:Nat}{v:Value}(hn:101≤n)(hL:L.length≤100)(hR:RowK lo tbl nx v L) :
  ∃u h',RW hk (n+3) 46 [v,.int .u64 (.ofNat w)] ⟨tbl,nx⟩=some (u,h')∧(u = .int .i64 (idxF w L 0)∧Kq tbl nx h'.tbl h'.next):=by
 refine run_fn hh.of_ fKof (zL rfl) ?_
 dsimp only[iKof,argsE]
 have K0:Kq tbl nx ((nx,AObj.cells [.int .u64 (.ofNat w)])::tbl) (nx+1):=Kq.refl.cons (Nat.le_refl _) (Nat.le_succ _)
 refine WC.seq (WC.ops (WO.box (v:=.int .u64 (.ofNat w)) (cs:=[.int .u64 (.ofNat w)]) rfl rfl (WO.mv rfl (WO.nil (zN ?_)))))
 refine WC.seq (WC.ops (WO.mv rfl (WO.pure (v:=.func (.func 73) (.mk []) (.mk [.pointer (some ⟨nx,0,none⟩)])) rfl ?_)))
 refine WO.fcall_ex (vs:=[v,.func (.func 73) (.mk []) (.mk [.pointer (some ⟨nx,0,none⟩)])]) rfl rfl (idx_run (n:=n) (lo:=lo) hh.idx hh.of1 hn hL (by rw[zC,if_pos rfl]) (Nat.lt_succ_self _) (hR.kq K0)) ?_
 rintro u ⟨t2,n2⟩ ⟨rfl,k2⟩
 refine WO.mv rfl (WO.nil (zN (WC.ret ?_)))
 exact⟨_,_,rfl,rfl,rfl,K0.trans k2⟩
theorem idxF_ge:∀(L:List (Nat×Nat)) (i:Nat),decide ((0:Int)≤idxF w L i)=L.any fun p=>decide (p.1=w)
 |[],_=>rfl
 |p::r,i=>by
  show decide (0≤(if p.1=w then Int.ofNat i else idxF w r (i+1)))=_
  by_cases h:p.1=w
  ·rw[if_pos h]
   simp[h]
  ·rw[if_neg h,idxF_ge r (i+1)]
   simp[h]
theorem lks_len{x:Ar}{a:Nat}:∀(n i:Nat),(lks x a n i).length≤n
 |0,_=>Nat.le_refl _
 |n+1,i=>by
  show(if whoA x a i=0 then[] else(whoA x a i,serA x a i)::lks x a n (i+1)).length≤_
  split
  ·exact Nat.zero_le _
  ·exact Nat.succ_le_succ (lks_len n (i+1))
theorem has_run{hk:List (HookF Ar)}(hh:WHk2 hk){n:Nat}(hn:104≤n)(hl:look j tbl=some (.ext x))(hj:j<nx)(hx:x.refuse<9223372036854775808)(hv:bytesE x (.ofNat a) (.ofNat s)=0)(ha:a+s<4611686018427387904)(hs:s≤1600) :
  ∃u h',RW hk (n+4) 27 [vW j a s,.int .u64 (.ofNat w)] ⟨tbl,nx⟩=some (u,h')∧(u = .bool ((lks x a (s / 16) 0).any fun p=>decide (p.1=w))∧Kq tbl nx h'.tbl h'.next):=by
 refine run_fn hh.has fKHas (zL rfl) ?_
 dsimp only[iKHas,argsE]
 have K0:Kq tbl nx ((nx,AObj.cells [.pointer (some ⟨j,0,none⟩),vI a,vI s])::tbl) (nx+1):=Kq.refl.cons (Nat.le_refl _) (Nat.le_succ _)
 refine WC.seq (WC.ops (WO.box (v:=vW j a s) (cs:=[.pointer (some ⟨j,0,none⟩),vI a,vI s]) rfl rfl (WO.mv rfl (WO.nil (zN ?_)))))
 refine WC.seq (WC.ops (WO.load (ob:=.cells [.pointer (some ⟨j,0,none⟩),vI a,vI s]) (v:=vW j a s) rfl (by rw[zC,if_pos rfl]) rfl rfl rfl ?_))
 refine WO.fcall_ex (vs:=[vW j a s]) rfl rfl (allk_run (n:=n) hh.toWHk (by omega) ((K0.2 j hj).trans hl) (Nat.lt_succ_of_lt hj) hx hv ha hs) ?_
 rintro u ⟨t2,n2⟩ ⟨hR,k2⟩
 have hlen:(lks x a (s / 16) 0).length≤100:=Nat.le_trans (lks_len _ _) (by omega)
 refine WO.mv rfl ?_
 refine WO.fcall_ex (vs:=[u,.int .u64 (.ofNat w)]) rfl rfl (of_run (n:=n) hh (by omega) hlen hR) ?_
 rintro u3 ⟨t3,n3⟩ ⟨rfl,k3⟩
 refine WO.geq rfl rfl (WO.mv rfl (WO.nil (zN (WC.ret ?_))))
 exact⟨_,_,rfl,rfl,by rw[← idxF_ge];rfl,(K0.trans k2).trans k3⟩
end Go.AI
/- Words of an arena: what is loaded behind a store;plain numbers. No program is named here. -/
namespace Go.AI
theorem pgAt_set_same{l:List (Option Nat)}{q P Q:Nat}(h:pgAt l q=some P):pgAt (setPg l q (some Q)) q=some Q:=by
 induction l generalizing q with
 |nil=>cases h
 |cons p r ih =>
  cases q with
  |zero=>rfl
  |succ q=>exact ih h
theorem pgAt_set_ne{l:List (Option Nat)}{q i:Nat}{Q:Option Nat}(h:i≠q):pgAt (setPg l q Q) i=pgAt l i:=by
 induction l generalizing q i with
 |nil=>rfl
 |cons p r ih =>
  cases q with
  |zero =>
   cases i with
   |zero=>exact absurd rfl h
   |succ i=>rfl
  |succ q =>
   cases i with
   |zero=>rfl
   |succ i=>exact ih fun e=>h (by rw[e])
def pgW(P off k:Nat):Nat:=Nat.mod (Nat.shiftRight P (Nat.mul 8 off)) (Nat.pow 256 k)
theorem pgW_bit(P off k j:Nat):(pgW P off k).testBit j=(decide (j<8*k)&&P.testBit (8*off+j)):=by
 have h:pgW P off k=(P >>> (8*off)) % 2 ^ (8*k):=by
  show(P >>> (8*off)) % 256 ^ k=_
  rw[show(256:Nat) ^ k=2 ^ (8*k) by rw[Nat.pow_mul]]
 rw[h,Nat.testBit_mod_two_pow,Nat.testBit_shiftRight]
theorem pgW_lt(P off k:Nat):pgW P off k<256 ^ k:=Nat.mod_lt _ (Nat.pow_pos (by decide))
theorem pgW_ne{P off k v o m:Nat}(hv:v<256 ^ k)(hd:o+m≤off∨off+k≤o):pgW (setBytes P off k v) o m=pgW P o m:=by
 have hv':v<2 ^ (8*k):=by rw[Nat.pow_mul];exact hv
 apply Nat.eq_of_testBit_eq
 intro j
 rw[pgW_bit,pgW_bit,set_bit hv']
 by_cases hj:j<8*m
 ·rw[if_neg (by omega)]
 ·simp only[decide_eq_false hj,Bool.false_and]
theorem pgW_eq{P off k v:Nat}(hv:v<256 ^ k):pgW (setBytes P off k v) off k=v:=by
 have hv':v<2 ^ (8*k):=by rw[Nat.pow_mul];exact hv
 apply Nat.eq_of_testBit_eq
 intro j
 rw[pgW_bit,set_bit hv']
 by_cases hj:j<8*k
 ·rw[if_pos (by omega),decide_eq_true hj,Bool.true_and,show 8*off+j-8*off=j by omega]
 ·rw[decide_eq_false hj,Bool.false_and]
  exact(Nat.testBit_lt_two_pow (Nat.lt_of_lt_of_le hv' (Nat.pow_le_pow_right (by decide) (by omega)))).symm
theorem check_in{l:List (Option Nat)}{p P off k:Nat}(h:pgAt l p=some P)(hl:p<l.length)(h1:off+k≤4096):checkN l (4096*p+off) k=0:=by
 refine check_of ⟨?_,fun hk q q1 q2=>?_⟩
 ·have:(p+1)*4096≤l.length*4096:=Nat.mul_le_mul_right _ hl
  omega
 ·have e:q=p:=by omega
  exact⟨P,e▸h⟩
theorem bytesE_in{x:Ar}{p P off k:Nat}(h:pgAt x.pages p=some P)(h1:off+k≤4096):bytesE x (.ofNat (4096*p+off)) (.ofNat k)=0 :=
 bytesE_zero.2 (check_in h (pgAt_lt h) h1)
theorem loadV_in{x:Ar}{p P off k:Nat}(h:pgAt x.pages p=some P)(h1:off+k≤4096)(hk:wholeN k=true)(hk0:0<k):loadV x (.ofNat (4096*p+off)) (.ofNat k)=pgW P off k:=by
 have h2:(4096*p+off) / 4096=p:=by
  by_cases e:off=4096
  ·exfalso;omega
  ·omega
 have h3:(4096*p+off) % 4096=off:=by omega
 have hb:Nat.ble (Nat.add (Nat.mod (4096*p+off) 4096) k) 4096=true:=by
  rw[Nat.ble_eq];show(4096*p+off) % 4096+k≤4096;rw[h3];exact h1
 simp only[loadV,hk,cond_true,check_in h (pgAt_lt h) h1,loadA,hb]
 have e1:Nat.div (4096*p+off) 4096=p:=h2
 have e2:Nat.mod (4096*p+off) 4096=off:=h3
 rw[e1,e2,h]
 rfl
theorem storeX_in{x:Ar}{p P off k v:Nat}(h:pgAt x.pages p=some P)(h1:off+k≤4096)(hk:wholeN k=true)(hk0:0<k):storeX x (.ofNat (4096*p+off)) (.ofNat k) v=⟨setPg x.pages p (some (setBytes P off k (v % 256 ^ k))),x.armed,x.refuse⟩:=by
 have h2:(4096*p+off) / 4096=p:=by omega
 have h3:(4096*p+off) % 4096=off:=by omega
 have hb:Nat.ble (Nat.add (Nat.mod (4096*p+off) 4096) k) 4096=true:=by
  rw[Nat.ble_eq];show(4096*p+off) % 4096+k≤4096;rw[h3];exact h1
 simp only[storeX,hk,cond_true,check_in h (pgAt_lt h) h1,storeA,hb]
 have e1:Nat.div (4096*p+off) 4096=p:=h2
 have e2:Nat.mod (4096*p+off) 4096=off:=h3
 rw[e1,e2,h]
 rfl
end Go.AI
/- Links laid into a page: its words. -/
namespace Go.AI
open Go.Proofs
variable {x:Ar}{p P off n o m:Nat}
theorem fillV0(k:Nat):fillV 0 k=0:=by
 unfold fillV
 exact Nat.zero_mul _
theorem fillX_in(h:pgAt x.pages p=some P)(h1:off+n≤4096)(h0:0<n)(ho:off<4096):fillX x (.ofNat (4096*p+off)) (.ofNat n) 0=⟨setPg x.pages p (some (setBytes P off n 0)),x.armed,x.refuse⟩:=by
 have h2:(4096*p+off) / 4096=p:=by omega
 have h3:(4096*p+off) % 4096=off:=by omega
 have e1:Nat.div (4096*p+off) 4096=p:=h2
 have e2:Nat.mod (4096*p+off) 4096=off:=h3
 have e3:Nat.min n (Nat.sub 4096 off)=n:=Nat.min_eq_left (by show n≤4096-off;omega)
 have e4:Nat.beq n 0=false:=beq_not (by omega)
 simp only[fillX,check_in h (pgAt_lt h) h1]
 obtain⟨f,hf⟩:∃f,fuelA n=f+1+1:=⟨Nat.div n 4096,rfl⟩
 rw[hf]
 have hs:Nat.sub n n=0:=Nat.sub_self n
 simp only[fillA,e4,cond_false,e1,e2,e3,h,fillV0,hs,Nat.beq_refl,cond_true]
theorem pgW_zero(h:off≤o)(h2:o+m≤off+n):pgW (setBytes P off n 0) o m=0:=by
 apply Nat.eq_of_testBit_eq
 intro j
 rw[pgW_bit,set_bit (Nat.pow_pos (by decide)),Nat.zero_testBit]
 by_cases hj:j<8*m
 ·rw[if_pos (by omega),Nat.zero_testBit,Bool.and_false]
 ·rw[decide_eq_false hj,Bool.false_and]
  exact(Nat.zero_testBit j).symm
def pgL(P off:Nat):Nat→Nat→List (Nat×Nat)
 |0,_=>[]
 |n+1,i=>if pgW P (off+i*16) 8=0 then[] else(pgW P (off+i*16) 8,pgW P (off+i*16+8) 8)::pgL P off n (i+1)
theorem lks_pg(h:pgAt x.pages p=some P):∀(n i:Nat),off+(i+n)*16≤4096→lks x (4096*p+off) n i=pgL P off n i
 |0,_,_=>rfl
 |n+1,i,hb=>by
  have h1:whoA x (4096*p+off) i=pgW P (off+i*16) 8:=by
   unfold whoA
   rw[show 4096*p+off+i*16+0=4096*p+(off+i*16) by omega]
   exact loadV_in h (by omega) rfl (by decide)
  have h2:serA x (4096*p+off) i=pgW P (off+i*16+8) 8:=by
   unfold serA
   rw[show 4096*p+off+i*16+8=4096*p+(off+i*16+8) by omega]
   exact loadV_in h (by omega) rfl (by decide)
  show(if whoA x (4096*p+off) i=0 then _ else _)=(if _ then _ else _)
  rw[h1,h2,lks_pg h n (i+1) (by omega)]
def layP(off:Nat):Nat→Nat→List (Nat×Nat)→Nat
 |P,_,[]=>P
 |P,i,c::r=>layP off (setBytes (setBytes P (off+i*16) 8 c.1) (off+i*16+8) 8 c.2) (i+1) r
theorem layP_out:∀{L:List (Nat×Nat)} {P i:Nat},(∀c,c∈L→c.1<18446744073709551616∧c.2<18446744073709551616)→(o+m≤off+i*16∨off+(i+L.length)*16≤o)→pgW (layP off P i L) o m=pgW P o m
 |[],_,_,_,_=>rfl
 |c::r,P,i,hc,hd=>by
  have h1:=hc c (by simp)
  simp only[List.length_cons] at hd
  show pgW (layP off _ (i+1) r) o m=_
  rw[layP_out (fun d hd=>hc d (by simp[hd])) (by omega),pgW_ne (by exact h1.2) (by omega),pgW_ne (by exact h1.1) (by omega)]
theorem layP_read:∀{L:List (Nat×Nat)} {P i n:Nat},(∀c,c∈L→c.1≠0∧c.1<18446744073709551616∧c.2<18446744073709551616)→L.length≤n→(L.length<n→pgW P (off+(i+L.length)*16) 8=0)→pgL (layP off P i L) off n i=L
 |[],P,i,0,_,_,_=>rfl
 |[],P,i,n+1,_,_,h=>by
  show(if pgW P (off+i*16) 8=0 then _ else _)=_
  rw[if_pos (by simpa using h (by simp))]
 |c::r,P,i,0,_,h,_=>by simp at h
 |c::r,P,i,n+1,hc,hl,h=>by
  obtain⟨h0,h1,h2⟩:=hc c (by simp)
  simp only[List.length_cons] at hl h
  have hr:∀d,d∈r→d.1≠0∧d.1<18446744073709551616∧d.2<18446744073709551616:=fun d hd=>hc d (by simp[hd])
  have w1:pgW (layP off P i (c::r)) (off+i*16) 8=c.1:=by
   show pgW (layP off _ (i+1) r) _ _=_
   rw[layP_out (fun d hd=>(hr d hd).2) (by omega),pgW_ne (by exact h2) (by omega),pgW_eq (by exact h1)]
  have w2:pgW (layP off P i (c::r)) (off+i*16+8) 8=c.2:=by
   show pgW (layP off _ (i+1) r) _ _=_
   rw[layP_out (fun d hd=>(hr d hd).2) (by omega),pgW_eq (by exact h2)]
  show(if pgW (layP off P i (c::r)) (off+i*16) 8=0 then _ else _)=_
  rw[w1,w2,if_neg h0]
  show _::pgL (layP off _ (i+1) r) off n (i+1)=_
  rw[layP_read hr (by omega) (fun hlt=>by
   rw[pgW_ne (by exact h2) (by omega),pgW_ne (by exact h1) (by omega),show i+1+r.length=i+(r.length+1) by omega]
   exact h (by omega))]
end Go.AI
/- Links laid: lay, walked. -/
namespace Go.AI
open Go.Proofs
variable {x:Ar}{tbl t' t'':List (Nat×AObj Ar)}{nx n' n'' j s i p P off lo:Nat}{L:List (Nat×Nat)}
def pX(x:Ar)(p Q:Nat):Ar:=⟨setPg x.pages p (some Q),x.armed,x.refuse⟩
theorem setPg_set:∀{l:List (Option Nat)} {p:Nat} {a b:Option Nat},setPg (setPg l p a) p b=setPg l p b
 |[],_,_,_=>rfl
 |_::_,0,_,_=>rfl
 |c::r,p+1,a,b=>by
  show c::setPg (setPg r p a) p b=c::setPg r p b
  rw[setPg_set]
theorem setPg_id:∀{l:List (Option Nat)} {p P:Nat},pgAt l p=some P→setPg l p (some P)=l
 |[],_,_,h=>by cases h
 |c::r,0,P,h=>by
  have h:c=some P:=h
  rw[h];rfl
 |c::r,p+1,P,h=>by
  show c::setPg r p (some P)=c::r
  rw[setPg_id (l:=r) h]
theorem pX_pX{Q R:Nat}:pX (pX x p Q) p R=pX x p R:=by
 unfold pX
 simp only[setPg_set]
theorem pX_id(h:pgAt x.pages p=some P):pX x p P=x:=by
 unfold pX
 rw[setPg_id h]
theorem pX_at{Q:Nat}(h:pgAt x.pages p=some P):pgAt (pX x p Q).pages p=some Q:=pgAt_set_same h
def zP(P off n:Nat):Nat:=if n=0 then P else setBytes P off n 0
theorem fillX_pg{n:Nat}(h:pgAt x.pages p=some P)(h1:off+n≤4096):fillX x (.ofNat (4096*p+off)) (.ofNat n) 0=pX x p (zP P off n):=by
 by_cases h0:n=0
 ·subst h0
  show _=pX x p P
  rw[pX_id h]
  simp only[fillX,check_in h (pgAt_lt h) h1]
  obtain⟨f,hf⟩:∃f,fuelA 0=f+1:=⟨1,rfl⟩
  rw[hf]
  simp only[fillA,Nat.beq_refl,cond_true]
 ·unfold zP
  rw[if_neg h0]
  exact fillX_in h h1 (by omega) (by omega)
theorem fill_at{g:List Value→Option Value}{m:Nat}(hl:look j tbl=some (.ext x))(hx:x.refuse<9223372036854775808)(hp:pgAt x.pages p=some P)(ho:off+s≤4096)(h:m≤s)(ha:4096*p+off<4611686018427387904) :
  liftH spVFill g [vW j (4096*p+off) s,vI 0,vI m,.int .u8 (.ofNat 0)] ⟨tbl,nx⟩=some (errV 0,⟨upd j (.ext (pX x p (zP P off m))) tbl,nx⟩):=by
 have e:Nat.blt x.refuse 9223372036854775808=true:=by rw[blt_iff];exact decide_eq_true hx
 have h1:firstV [vW j (4096*p+off) s,vI 0,vI m,.int .u8 (.ofNat 0)]=some j:=rfl
 have hb:Nat.beq j j=true:=Nat.beq_refl j
 have h2:canL j [vW j (4096*p+off) s,vI 0,vI m,.int .u8 (.ofNat 0)]=some [vwC (.ofNat (4096*p+off)) (.ofNat s),vI 0,vI m,.int .u8 (.ofNat 0)]:=by
  simp only[canL,canV,canFs,canF,hb,cond_true]
 have hc:Nat.blt 0 256=true:=rfl
 have h3:spVFill x [vwC (.ofNat (4096*p+off)) (.ofNat s),vI 0,vI m,.int .u8 (.ofNat 0)]=some (errV 0,pX x p (zP P off m)):=by
  simp only[spVFill,hc,cond_true,vckW (s:=s) (b:=0) (m:=m) (by omega) (by omega),wrap_add ha (by decide:0<4294967296),Nat.add_zero,bytesE_in hp (by omega:off+m≤4096),fillX_pg hp (by omega:off+m≤4096)]
 have h4:backV j (errV 0)=some (errV 0):=rfl
 simp only[liftH,h1,hl,e,cond_true,h2,h3,h4]
theorem put_at{r k a v1 v2:Nat}(hr:look r tbl=some wid)(hk:look k tbl=some (.cells [.int .u64 (.ofNat v1),.int .u64 (.ofNat v2)]))(hl:look j tbl=some (.ext x))(hx:x.refuse<9223372036854775808)(hp:pgAt x.pages p=some P)(ho:off+16≤4096)(ha:4096*p+off<4611686018427387904)(h1:v1<18446744073709551616)(h2:v2<18446744073709551616)(hj:a=4096*p+off) :
  putW [recV r,vW j a 16,.slice (some ⟨k,0,none⟩) 2 2] ⟨tbl,nx⟩=some (errV 0,⟨del k (upd j (.ext (pX x p (setBytes (setBytes P off 8 v1) (off+8) 8 v2))) tbl),nx⟩):=by
 subst hj
 have m1:v1 % 256 ^ 8=v1:=Nat.mod_eq_of_lt h1
 have m2:v2 % 256 ^ 8=v2:=Nat.mod_eq_of_lt h2
 have s1:storeX x (.ofNat (4096*p+off+0)) (.ofNat 8) v1=pX x p (setBytes P off 8 v1):=by
  rw[Nat.add_zero,storeX_in hp (by omega) rfl (by decide),m1];rfl
 have hp1:pgAt (pX x p (setBytes P off 8 v1)).pages p=some (setBytes P off 8 v1):=pX_at hp
 have s2:putX2 x (4096*p+off) v1 v2=pX x p (setBytes (setBytes P off 8 v1) (off+8) 8 v2):=by
  unfold putX2
  rw[s1,Nat.add_assoc,storeX_in hp1 (by omega) rfl (by decide),m2]
  exact pX_pX
 have o1:okW x (4096*p+off)=true:=okW_of hx (bytesE_in hp ho) ha
 have o2:okW (pX x p (setBytes P off 8 v1)) (4096*p+off)=true:=okW_of hx (bytesE_in hp1 ho) ha
 have b1:Nat.blt v1 18446744073709551616=true:=by rw[Nat.blt_eq];exact h1
 have b2:Nat.blt v2 18446744073709551616=true:=by rw[Nat.blt_eq];exact h2
 simp only[putW,hr,hl,hk,s1,o1,o2,b1,b2,Bool.and_self,cond_true,s2]
theorem layP_snoc:∀{L:List (Nat×Nat)} {P i:Nat} {c:Nat×Nat},layP off P i (L++[c])=setBytes (setBytes (layP off P i L) (off+(i+L.length)*16) 8 c.1) (off+(i+L.length)*16+8) 8 c.2
 |[],P,i,c=>rfl
 |d::r,P,i,c=>by
  show layP off _ (i+1) (r++[c])=_
  rw[layP_snoc,show i+1+r.length=i+(d::r).length by simp only[List.length_cons];omega]
  rfl
def Kx(j:Nat)(t:List (Nat×AObj Ar))(n:Nat)(t':List (Nat×AObj Ar))(n':Nat):Prop:=n≤n'∧∀i,i<n→i≠j→look i t'=look i t
theorem Kx.refl:Kx j tbl nx tbl nx:=⟨Nat.le_refl _,fun _ _ _=>rfl⟩
theorem Kq.toX(h:Kq tbl nx t' n'):Kx j tbl nx t' n':=⟨h.1,fun i hi _=>h.2 i hi⟩
theorem Kx.trans(a:Kx j tbl nx t' n')(b:Kx j t' n' t'' n''):Kx j tbl nx t'' n'':=⟨Nat.le_trans a.1 b.1,fun i hi hj=>(b.2 i (Nat.lt_of_lt_of_le hi a.1) hj).trans (a.2 i hi hj)⟩
theorem Kx.cons(a:Kx j tbl nx t' n'){k m:Nat}{o:AObj Ar}(hk:nx≤k)(hm:n'≤m):Kx j tbl nx ((k,o)::t') m:=⟨Nat.le_trans a.1 hm,fun i hi hj=>by rw[zC,if_neg (by show¬i=k;omega)];exact a.2 i hi hj⟩
theorem Kx.up(a:Kx j tbl nx t' n'){m:Nat}(hm:n'≤m):Kx j tbl nx t' m:=⟨Nat.le_trans a.1 hm,a.2⟩
theorem Kx.del(a:Kx j tbl nx t' n'){k:Nat}(hk:nx≤k):Kx j tbl nx (AI.del k t') n':=⟨a.1,fun i hi hj=>by rw[look_del,if_neg (by omega)];exact a.2 i hi hj⟩
theorem Kx.upd(a:Kx j tbl nx t' n'){o:AObj Ar}:Kx j tbl nx (AI.upd j o t') n':=⟨a.1,fun i hi hj=>by rw[zU hj];exact a.2 i hi hj⟩
def RowG(tbl:List (Nat×AObj Ar))(nx:Nat)(v:Value)(L:List (Nat×Nat)):Prop:=∃ad c,v = .slice ad L.length c∧(L≠[]→∃r e,r<nx∧ad=some ⟨r,0,none⟩∧look r tbl=some (.grown 2 67 (lkC L++e)))
structure WHk3(hk:List (HookF Ar)):Prop extends WHk2 hk where
 fill:∃g,hookL hk 74=some (liftH spVFill g)
 put:hookL hk 75=some putW
 lay:hookL hk 47=none
theorem takeN_app{l e r:List Value}{o n:Nat}(h:takeN l o n=some r):takeN (l++e) o n=some r:=by
 rcases takeN_le h with h1|h1
 ·rw[takeN_mid h1] at h
  rw[takeN_mid (by rw[List.length_append];omega),← h,List.drop_append_of_le_length (by omega),List.take_append_of_le_length (by rw[List.length_drop];omega)]
 ·subst h1
  have e:∀q:List Value,takeN q o 0=some []:=fun q=>by
   unfold takeN
   rw[List.take_zero];rfl
  rw[e] at h ⊢
  exact h
theorem lay_run{hk:List (HookF Ar)}(hh:WHk3 hk){n:Nat}{v:Value}(hn:101≤n)(hl:look j tbl=some (.ext x))(hj:j<nx)(hx:x.refuse<9223372036854775808)(hp:pgAt x.pages p=some P)(ho:off+s≤4096)(ha:4096*p+4096<4611686018427387904)(hs:s≤1600)(hL:L.length≤s / 16)(hc:∀c,c∈L→c.1<18446744073709551616∧c.2<18446744073709551616)(hR:RowG tbl nx v L) :
  ∃u h',RW hk (n+3) 47 [vW j (4096*p+off) s,v] ⟨tbl,nx⟩=some (u,h')∧(Kx j tbl nx h'.tbl h'.next∧look j h'.tbl=some (.ext (pX x p (layP off (zP P off (s / 16*16)) 0 L)))):=by
 obtain⟨gp,hpart⟩:=hh.part
 obtain⟨gf,hfill⟩:=hh.fill
 obtain⟨ad,c,rfl,hrow⟩:=hR
 have hjr:∀r e,look r tbl=some (.grown 2 67 (lkC L++e))→r≠j:=fun r e h1 h2=>by rw[h2,hl] at h1;cases h1
 refine run_fn hh.lay fKlay (zL rfl) ?_
 dsimp only[iKlay,argsE]
 refine WC.seq (WC.ops (WO.box (v:=vW j (4096*p+off) s) (cs:=[.pointer (some ⟨j,0,none⟩),vI (4096*p+off),vI s]) rfl rfl (WO.nil (zN ?_))))
 have K0:Kq tbl nx ((nx,AObj.cells [.pointer (some ⟨j,0,none⟩),vI (4096*p+off),vI s])::tbl) (nx+1):=Kq.refl.cons (Nat.le_refl _) (Nat.le_succ _)
 have hb0:look nx ((nx,AObj.cells [.pointer (some ⟨j,0,none⟩),vI (4096*p+off),vI s])::tbl)=some (.cells [.pointer (some ⟨j,0,none⟩),vI (4096*p+off),vI s]):=by rw[zC,if_pos rfl]
 generalize((nx,AObj.cells [.pointer (some ⟨j,0,none⟩),vI (4096*p+off),vI s])::tbl)=T0 at K0 hb0 ⊢
 refine WC.seq (WC.drawnW ?_)
 obtain⟨u1,⟨T1,n1⟩,hr1,rfl,k1⟩:=slots_run (n:=n) (tbl:=T0) (nx:=nx+1+6) (j:=j) (a:=4096*p+off) (s:=s) hh.toWHk (by omega)
 dsimp only at hr1 k1
 have hb1:look nx T1=some (.cells [.pointer (some ⟨j,0,none⟩),vI (4096*p+off),vI s]):=(k1.2 nx (by omega)).trans hb0
 have hl1:look j T1=some (.ext x):=(k1.2 j (by omega)).trans ((K0.2 j hj).trans hl)
 have hjn:nx≠j:=by omega
 have hld:∀m t,look nx t=some (.cells [.pointer (some ⟨j,0,none⟩),vI (4096*p+off),vI s])→(⟨[],t,m⟩:Mem Ar).load ⟨nx,0,none⟩ 3=some [.pointer (some ⟨j,0,none⟩),vI (4096*p+off),vI s]:=fun m t h=>mem_load h rfl rfl
 refine WD.pure (v:=.pointer (some ⟨nx,0,none⟩)) rfl (WD.load (m:=⟨[],T0,nx+1+6⟩) (ms:=[]) (v:=vW j (4096*p+off) s) rfl (hld _ _ hb0) rfl ?_)
 refine WD.load (m:=⟨[],T0,nx+1+6⟩) (v:=vW j (4096*p+off) s) rfl (hld _ _ hb0) rfl ?_
 refine WD.chn (m:=⟨[],T0,nx+1+6⟩) (m':=⟨[],T1,n1⟩) (v:=vI (s / 16)) rfl rfl rfl (estep_call (m:=⟨[],T0,nx+1+6⟩) (h:=⟨T1,n1⟩) (vs:=[vW j (4096*p+off) s]) rfl rfl hr1) ?_
 refine WD.pure (v:=vI (s / 16*16)) (pv_mulN rfl rfl (by omega)) ?_
 refine WD.chn (m:=⟨[],T1,n1⟩) (m':=⟨[],upd j (.ext (pX x p (zP P off (s / 16*16)))) T1,n1⟩) (v:=errV 0) rfl rfl rfl (estep_call (m:=⟨[],T1,n1⟩) (h:=⟨upd j (.ext (pX x p (zP P off (s / 16*16)))) T1,n1⟩) (vs:=[vW j (4096*p+off) s,vI 0,vI (s / 16*16),.int .u8 (.ofNat 0)]) rfl rfl ((run_hook (n:=n+1) hfill).trans (fill_at hl1 hx hp ho (by omega) (by omega)))) (WD.nil ⟨?_,_,_,rfl,?_⟩)
 ·have hb2:look nx (upd j (AObj.ext (pX x p (zP P off (s / 16*16)))) T1)=some (.cells [.pointer (some ⟨j,0,none⟩),vI (4096*p+off),vI s]):=by rw[zU hjn];exact hb1
  simp only[heldAll,loadsIn,hld _ _ hb0,hld _ _ hb1,hld _ _ hb2,ceqs_vw]
  rfl
 have KA:Kx j tbl nx (upd j (AObj.ext (pX x p (zP P off (s / 16*16)))) T1) n1:=((K0.up (m:=nx+1+6) (by omega)).trans k1).toX.upd
 have hbA:look nx (upd j (AObj.ext (pX x p (zP P off (s / 16*16)))) T1)=some (.cells [.pointer (some ⟨j,0,none⟩),vI (4096*p+off),vI s]):=by rw[zU hjn];exact hb1
 have hlA:look j (upd j (AObj.ext (pX x p (zP P off (s / 16*16)))) T1)=some (.ext (pX x p (layP off (zP P off (s / 16*16)) 0 (L.take 0)))):=zS hl1
 have gA:nx+1≤n1:=by have:=k1.1;omega
 refine zN ?_
 show WC _ _ _ _ ⟨[],upd j (AObj.ext (pX x p (zP P off (s / 16*16)))) T1,n1⟩ _
 generalize(upd j (AObj.ext (pX x p (zP P off (s / 16*16)))) T1)=TA at KA hbA hlA ⊢
 refine WC.seq (WC.ops (WO.mv rfl (WO.len rfl (WO.mv rfl (WO.nil (zN ?_))))))
 refine WC.block ?_
 refine WC.loop (fun q e tb nb=>∃i,i+q=L.length∧e 2=some (.pointer (some ⟨nx,0,none⟩))∧e 14=some (.slice ad L.length c)∧e 15=some (vI L.length)∧e 16=some (vI i)∧Kx j tbl nx tb nb∧look nx tb=some (.cells [.pointer (some ⟨j,0,none⟩),vI (4096*p+off),vI s])∧nx+1≤nb∧look j tb=some (.ext (pX x p (layP off (zP P off (s / 16*16)) 0 (L.take i))))) (k:=L.length) (by omega)
  ⟨0,by omega,rfl,rfl,rfl,rfl,KA,hbA,gA,hlA⟩ ?_
 rintro q e tb nb ⟨i,hiq,e2,e14,e15,e16,K,hb,g,hlj⟩
 dsimp only at e2 e14 e15 e16
 refine WC.seq (WC.ops (WO.lssS e16 e15 (fun hz=>?_) (fun hz=>?_)))
 ·have hi:i<L.length:=by simp only[zO] at hz;omega
  obtain⟨w,hw⟩:∃w,L[i]? = some w:=⟨L[i],List.getElem?_eq_getElem hi⟩
  obtain⟨r,ex,hr1,rfl,hr4⟩:=hrow (fun e=>by rw[e] at hi;simp at hi)
  have hrb:=(K.2 r hr1 (hjr r ex hr4)).trans hr4
  have hwm:w∈L:=List.mem_of_getElem? hw
  obtain⟨hw1,hw2⟩:=hc w hwm
  refine WO.nil (zN (WC.seq (WC.cond_true rfl (WC.skip (zN (WC.seq (WC.block (WC.seq (WC.ops ?_)))))))))
  refine WO.mv e16 (WO.idxL (b:=r) (o:=0) (len:=L.length) (c:=c) (sp:=none) (j:=.i64) (z:=Int.ofNat i) (n:=i) e14 e16 rfl hi ?_)
  refine WO.load (ob:=.grown 2 67 (lkC L++ex)) (v:=.agg ⟨[.int .u64 (.ofNat w.1),.int .u64 (.ofNat w.2)]⟩) rfl hrb rfl (by rw[Nat.zero_add];exact takeN_app (lkC_get hw)) rfl ?_
  refine WO.new (WO.mv rfl (WO.step (i:=.store 2 (.t 5) (.t 20)) (v:=undef) (m':=⟨[],(nb,.cells [.int .u64 (.ofNat w.1),.int .u64 (.ofNat w.2)])::tb,nb+1⟩) ?_ (WO.nil (zN ?_))))
  ·have hm:=mem_store (nx:=nb+1) (vs:=[Value.int .u64 (.ofNat w.1),.int .u64 (.ofNat w.2)]) (o:=0) (ob':=.cells [.int .u64 (.ofNat w.1),.int .u64 (.ofNat w.2)]) (tbl:=(nb,AObj.cells [.int .u64 (.ofNat 0),.int .u64 (.ofNat 0)])::tb) (i:=nb) (by rw[zC,if_pos rfl]) rfl (zL rfl) rfl
   rw[updH] at hm
   exact estep_store rfl rfl rfl rfl hm
  have hp1:pgAt (pX x p (layP off (zP P off (s / 16*16)) 0 (L.take i))).pages p=some (layP off (zP P off (s / 16*16)) 0 (L.take i)):=pX_at hp
  have h16:i*16+16≤s:=by omega
  refine WC.seq (WC.ops (WO.fadd e2 (WO.load (ob:=.cells [.pointer (some ⟨j,0,none⟩),vI (4096*p+off),vI s]) (v:=vW j (4096*p+off) s) rfl (by rw[zC,if_neg (by show¬nx=nb;omega)];exact hb) rfl rfl rfl (WO.mv rfl (WO.pure (v:=vI (i*16)) (pv_mulN rfl rfl (by omega)) ?_)))))
  refine WO.fcall (vs:=[vW j (4096*p+off) s,vI (i*16),vI 16]) rfl rfl ((run_hook (n:=n+1) hpart).trans (part_at (x:=pX x p (layP off (zP P off (s / 16*16)) 0 (L.take i))) (by rw[zC,if_neg (by show¬j=nb;have:=K.1;omega)];exact hlj) hx (bytesE_in hp1 (by omega)) (by omega) (by omega) h16)) ?_
  refine WO.mv rfl (WO.pure (v:=vW j (4096*p+off+i*16) 16) rfl (WO.pure (v:=errV 0) rfl (WO.new (WO.step (i:=.store 3 (.t 6) (.t 27)) (v:=undef) (m':=⟨[],(nb+1,.cells [.pointer (some ⟨j,0,none⟩),vI (4096*p+off+i*16),vI 16])::(nb,.cells [.int .u64 (.ofNat w.1),.int .u64 (.ofNat w.2)])::tb,nb+1+1⟩) ?_ (WO.mv rfl (WO.nil (zN ?_)))))))
  ·have hm:=mem_store (nx:=nb+1+1) (vs:=[Value.pointer (some ⟨j,0,none⟩),vI (4096*p+off+i*16),vI 16]) (o:=0) (ob':=.cells [.pointer (some ⟨j,0,none⟩),vI (4096*p+off+i*16),vI 16]) (tbl:=(nb+1,AObj.cells [.pointer none,.int .i64 (.ofNat 0),.int .i64 (.ofNat 0)])::(nb,.cells [.int .u64 (.ofNat w.1),.int .u64 (.ofNat w.2)])::tb) (i:=nb+1) (by rw[zC,if_pos rfl]) rfl (zL rfl) rfl
   rw[updH] at hm
   exact estep_store rfl rfl rfl rfl hm
  have K1:Kx j tb nb ((nb+1,AObj.cells [.pointer (some ⟨j,0,none⟩),vI (4096*p+off+i*16),vI 16])::(nb,.cells [.int .u64 (.ofNat w.1),.int .u64 (.ofNat w.2)])::tb) (nb+1+1):=(Kx.refl.cons (Nat.le_refl _) (Nat.le_succ _)).cons (by omega) (by omega)
  have c5:look nb ((nb+1,AObj.cells [.pointer (some ⟨j,0,none⟩),vI (4096*p+off+i*16),vI 16])::(nb,.cells [.int .u64 (.ofNat w.1),.int .u64 (.ofNat w.2)])::tb)=some (.cells [.int .u64 (.ofNat w.1),.int .u64 (.ofNat w.2)]):=by rw[zC,if_neg (by show¬nb=nb+1;omega),zC,if_pos rfl]
  have c6:look (nb+1) ((nb+1,AObj.cells [.pointer (some ⟨j,0,none⟩),vI (4096*p+off+i*16),vI 16])::(nb,.cells [.int .u64 (.ofNat w.1),.int .u64 (.ofNat w.2)])::tb)=some (.cells [.pointer (some ⟨j,0,none⟩),vI (4096*p+off+i*16),vI 16]):=by rw[zC,if_pos rfl]
  have cj:look j ((nb+1,AObj.cells [.pointer (some ⟨j,0,none⟩),vI (4096*p+off+i*16),vI 16])::(nb,.cells [.int .u64 (.ofNat w.1),.int .u64 (.ofNat w.2)])::tb)=some (.ext (pX x p (layP off (zP P off (s / 16*16)) 0 (L.take i)))):=by
   have:=K.1
   rw[zC,if_neg (by show¬j=nb+1;omega),zC,if_neg (by show¬j=nb;omega)]
   exact hlj
  have gj:j<nb:=Nat.lt_of_lt_of_le hj K.1
  generalize((nb+1,AObj.cells [.pointer (some ⟨j,0,none⟩),vI (4096*p+off+i*16),vI 16])::(nb,.cells [.int .u64 (.ofNat w.1),.int .u64 (.ofNat w.2)])::tb)=T2 at K1 c5 c6 cj ⊢
  refine WC.drawnW ?_
  have l6:∀m t,look (nb+1) t=some (.cells [.pointer (some ⟨j,0,none⟩),vI (4096*p+off+i*16),vI 16])→(⟨[],t,m⟩:Mem Ar).load ⟨nb+1,0,none⟩ 3=some [.pointer (some ⟨j,0,none⟩),vI (4096*p+off+i*16),vI 16]:=fun m t h=>mem_load h rfl rfl
  have l5:∀m t,look nb t=some (.cells [.int .u64 (.ofNat w.1),.int .u64 (.ofNat w.2)])→(⟨[],t,m⟩:Mem Ar).load ⟨nb,0,none⟩ 1=some [.int .u64 (.ofNat w.1)]∧(⟨[],t,m⟩:Mem Ar).load ⟨nb,0+1,none⟩ 1=some [.int .u64 (.ofNat w.2)]:=fun m t h=>⟨mem_load h rfl rfl,mem_load h rfl rfl⟩
  have d5:look nb ((nb+10,wid)::T2)=some (.cells [.int .u64 (.ofNat w.1),.int .u64 (.ofNat w.2)]):=by rw[zC,if_neg (by show¬nb=nb+10;omega)];exact c5
  have d6:look (nb+1) ((nb+10,wid)::T2)=some (.cells [.pointer (some ⟨j,0,none⟩),vI (4096*p+off+i*16),vI 16]):=by rw[zC,if_neg (by show¬nb+1=nb+10;omega)];exact c6
  refine WD.chn (m:=⟨[],T2,nb+2+8⟩) (m':=⟨[],(nb+10,wid)::T2,nb+10+1⟩) (ms:=[]) (v:=recV (nb+10)) rfl rfl rfl (estep_call (m:=⟨[],T2,nb+2+8⟩) (h:=⟨(nb+10,wid)::T2,nb+10+1⟩) (vs:=[]) rfl rfl ((run_hook (n:=n+1) hh.recd).trans rfl)) ?_
  refine WD.load (m:=⟨[],(nb+10,wid)::T2,nb+10+1⟩) (v:=vW j (4096*p+off+i*16) 16) (evOut rfl rfl rfl) (l6 _ _ d6) rfl ?_
  refine WD.pure (v:=.pointer (some ⟨nb,0,none⟩)) rfl (WD.load (m:=⟨[],(nb+10,wid)::T2,nb+10+1⟩) (v:=.int .u64 (.ofNat w.1)) rfl (l5 _ _ d5).1 rfl ?_)
  refine WD.pure (v:=.pointer (some ⟨nb,0+1,none⟩)) rfl (WD.load (m:=⟨[],(nb+10,wid)::T2,nb+10+1⟩) (v:=.int .u64 (.ofNat w.2)) rfl (l5 _ _ d5).2 rfl ?_)
  refine WD.alloc (hp:=true) (cs:=[.int .u64 (.ofNat w.1),.int .u64 (.ofNat w.2)]) (nn:=some 2) rfl rfl ?_
  have f8:look (nb+8) ((nb+8,AObj.cells [.int .u64 (.ofNat w.1),.int .u64 (.ofNat w.2)])::(nb+10,wid)::T2)=some (.cells [.int .u64 (.ofNat w.1),.int .u64 (.ofNat w.2)]):=by rw[zC,if_pos rfl]
  have f10:look (nb+10) ((nb+8,AObj.cells [.int .u64 (.ofNat w.1),.int .u64 (.ofNat w.2)])::(nb+10,wid)::T2)=some wid:=by rw[zC,if_neg (by show¬nb+10=nb+8;omega),zC,if_pos rfl]
  have fo:∀q,q<nb+2→look q ((nb+8,AObj.cells [.int .u64 (.ofNat w.1),.int .u64 (.ofNat w.2)])::(nb+10,wid)::T2)=look q T2:=fun q hq=>by rw[zC,if_neg (by show¬q=nb+8;omega),zC,if_neg (by show¬q=nb+10;omega)]
  have KB:Kx j tb nb ((nb+8,AObj.cells [.int .u64 (.ofNat w.1),.int .u64 (.ofNat w.2)])::(nb+10,wid)::T2) (nb+11):=(K1.cons (k:=nb+10) (m:=nb+10) (by omega) (by omega)).cons (by omega) (by omega)
  have cj2:=(fo j (by omega)).trans cj
  have c52:=(fo nb (by omega)).trans c5
  have c62:=(fo (nb+1) (by omega)).trans c6
  generalize hTB:((nb+8,AObj.cells [.int .u64 (.ofNat w.1),.int .u64 (.ofNat w.2)])::(nb+10,wid)::T2)=TB at f8 f10 fo KB cj2 c52 c62
  have hQ:pX (pX x p (layP off (zP P off (s / 16*16)) 0 (L.take i))) p (setBytes (setBytes (layP off (zP P off (s / 16*16)) 0 (L.take i)) (off+i*16) 8 w.1) (off+i*16+8) 8 w.2)=pX x p (layP off (zP P off (s / 16*16)) 0 (L.take (i+1))):=by
   have ht:(L.take i).length=i:=by rw[List.length_take];omega
   rw[pX_pX,List.take_add_one,hw]
   show _=pX x p (layP off _ 0 (L.take i++[w]))
   rw[layP_snoc,ht,Nat.zero_add]
  have hput:=put_at (nx:=nb+11) f10 f8 cj2 hx hp1 (off:=off+i*16) (by omega) (by omega) hw1 hw2 (a:=4096*p+off+i*16) (Nat.add_assoc _ _ _)
  rw[hQ] at hput
  have e6:look (nb+1) (del (nb+8) (upd j (AObj.ext (pX x p (layP off (zP P off (s / 16*16)) 0 (L.take (i+1))))) TB))=some (.cells [.pointer (some ⟨j,0,none⟩),vI (4096*p+off+i*16),vI 16]):=by rw[look_del_ne (by omega),zU (by omega)];exact c62
  have e5:look nb (del (nb+8) (upd j (AObj.ext (pX x p (layP off (zP P off (s / 16*16)) 0 (L.take (i+1))))) TB))=some (.cells [.int .u64 (.ofNat w.1),.int .u64 (.ofNat w.2)]):=by rw[look_del_ne (by omega),zU (by omega)];exact c52
  have ej:look j (del (nb+8) (upd j (AObj.ext (pX x p (layP off (zP P off (s / 16*16)) 0 (L.take (i+1))))) TB))=some (.ext (pX x p (layP off (zP P off (s / 16*16)) 0 (L.take (i+1))))):=by rw[look_del_ne (by omega),zS cj2]
  have KC:Kx j tb nb (del (nb+8) (upd j (AObj.ext (pX x p (layP off (zP P off (s / 16*16)) 0 (L.take (i+1))))) TB)) (nb+11):=KB.upd.del (by omega)
  refine WD.chn (m:=⟨[],(nb+10,wid)::T2,nb+10+1⟩) (m':=⟨[],del (nb+8) (upd j (.ext (pX x p (layP off (zP P off (s / 16*16)) 0 (L.take (i+1))))) TB),nb+11⟩) (v:=errV 0) rfl rfl rfl (estep_call (m:=⟨[],(nb+8,.cells [.int .u64 (.ofNat w.1),.int .u64 (.ofNat w.2)])::(nb+10,wid)::T2,nb+11⟩) (h:=⟨del (nb+8) (upd j (.ext (pX x p (layP off (zP P off (s / 16*16)) 0 (L.take (i+1))))) TB),nb+11⟩) (vs:=[recV (nb+10),vW j (4096*p+off+i*16) 16,.slice (some ⟨nb+8,0,none⟩) 2 2]) rfl rfl ((run_hook (n:=n+1) hh.put).trans (by rw[hTB];exact hput))) (WD.nil ⟨?_,_,_,rfl,?_⟩)
  ·have c1:∀z:Nat,ceqs [Value.int .u64 (.ofNat z)] [Value.int .u64 (.ofNat z)]=true:=fun z=>by simp[ceqs,ceq,ieqF_refl]
   simp only[heldAll,loadsIn,l6 _ _ d6,l6 _ _ c6,l6 _ _ e6,(l5 _ _ d5).1,(l5 _ _ d5).2,(l5 _ _ c5).1,(l5 _ _ c5).2,(l5 _ _ e5).1,(l5 _ _ e5).2,ceqs_vw,c1]
   rfl
  refine zB (zN ?_)
  show WC _ _ _ _ ⟨[],del (nb+8) (upd j (.ext (pX x p (layP off (zP P off (s / 16*16)) 0 (L.take (i+1))))) TB),nb+11⟩ _
  refine WC.ops (WO.add e16 rfl (by simp only[zO];omega) (by simp only[zO];omega) (WO.mv rfl (WO.nil ?_)))
  exact⟨q-1,by omega,rfl,i+1,by omega,e2,e14,e15,rfl,K.trans KC,(KC.2 nx (by omega) hjn).trans hb,by show nx+1≤nb+11;omega,ej⟩
 ·have hi:i=L.length:=by simp only[zO] at hz;omega
  refine WO.nil (zN (WC.seq (WC.cond_false rfl (WC.exit (thenC_exit (blockC_exit ?_))))))
  refine⟨_,_,rfl,rfl,K,?_⟩
  show look j tb=_
  rw[hlj,hi,List.take_length]
end Go.AI
