/- Functions in the evaluator's form: printed by a program, held against the program by the kernel. -/
import Derived.Test.YthoiknijhfnadaaGreatDoorIfn
import Derived.Test.YthoiknijhfnadaaGreatDoorKNd
import Derived.Test.YthoiknijhfnadaaGreatDoorKOp
set_option maxRecDepth 8000
namespace Go.AI
def irTargets:IFn:=(.mk (sO [pU 4 (.mv (.c (.slice none 0 0)))] (sO [pU 5 (.mv (.c (.slice none 0 0)))] (.seq (sO [mV 8 0,pU 9 (.len (.t 8)),mI 10 0] (.block 0 (.loop (sO [pU 11 (.bin .lss .no (.t 10) (.t 9))] (.seq (.cond (.t 11) .skip (.exit 0)) (.seq (.block 1 (sO [pU 12 (.idxL 3 (.t 8) (.t 10)),lD 13 3 true 12,(none,(.new 7 true [(u0 0),(u0 0),(u0 0)])),sT 3 7 13] (sO [fD 14 0 7,lD 15 1 false 14,mV 16 1,pU 17 (.bin .eql .no (.t 15) (.t 16))] (.cond (.t 17) (.ops [mV 19 5,mV 20 0,pU 21 (.len (.t 20)),fD 22 1 7,lD 23 1 false 22,fD 24 2 7,lD 25 1 false 24,pU 26 (.build [(u0 0),(u0 0)] [(0,(1,(.t 23))),(1,(1,(.t 25)))]),cL 27 25 [(.t 19),(.t 21),(.t 26)],mV 18 27,eX 28 0 18,eX 29 1 18,mV 5 28]) .skip)))) (.ops [pU 30 (.bin .add .no (.t 10) (cI 1)),mV 10 30]))))))) (sO [mV 31 5,mV 4 31] .ret)))) 32 [(.tmp 4)])
theorem frTargets:FA 15=some irTargets:=by kernel_rfl
def irHolders:IFn:=(.mk (sO [pU 4 (.mv (.c (.slice none 0 0)))] (sO [pU 5 (.mv (.c (.slice none 0 0)))] (.seq (sO [mV 8 0,pU 9 (.len (.t 8)),mI 10 0] (.block 0 (.loop (sO [pU 11 (.bin .lss .no (.t 10) (.t 9))] (.seq (.cond (.t 11) .skip (.exit 0)) (.seq (.block 1 (sO [pU 12 (.idxL 3 (.t 8) (.t 10)),lD 13 3 true 12,(none,(.new 7 true [(u0 0),(u0 0),(u0 0)])),sT 3 7 13] (sO [fD 14 1 7,lD 15 1 false 14,mV 16 1,pU 17 (.bin .eql .no (.t 15) (.t 16))] (.cond (.t 17) (.ops [mV 19 5,mV 20 0,pU 21 (.len (.t 20)),fD 22 0 7,lD 23 1 false 22,fD 24 2 7,lD 25 1 false 24,pU 26 (.build [(u0 0),(u0 0)] [(0,(1,(.t 23))),(1,(1,(.t 25)))]),cL 27 25 [(.t 19),(.t 21),(.t 26)],mV 18 27,eX 28 0 18,eX 29 1 18,mV 5 28]) .skip)))) (.ops [pU 30 (.bin .add .no (.t 10) (cI 1)),mV 10 30]))))))) (sO [mV 31 5,mV 4 31] .ret)))) 32 [(.tmp 4)])
theorem frHolders:FA 17=some irHolders:=by kernel_rfl
def irMake:IFn:=(.mk (sO [pU 8 (.mv (.c (.slice none 0 0))),mI 9 0] (.seq (sO [mV 11 3,pU 12 (.bin .eql .no (.t 11) (.c (u0 0)))] (.cond (.t 12) (sO [mV 13 0,mV 8 13,mI 9 2] .ret) .skip)) (.seq (sO [mV 14 1,mV 15 2,pU 16 (.bin .eql .no (.t 14) (.t 15))] (.cond (.t 16) (sO [mV 17 0,mV 8 17,mI 9 12] .ret) .skip)) (.seq (sO [mV 18 0,mV 19 1,cL 20 15 [(.t 18),(.t 19)],mV 21 2,cL 22 28 [(.t 20),(.t 21)]] (.cond (.t 22) (sO [mV 23 0,mV 8 23,mI 9 9] .ret) .skip)) (.seq (sO [mV 24 0,mV 25 1,cL 26 15 [(.t 24),(.t 25)],pU 27 (.len (.t 26)),pU 28 (.bin .geq .no (.t 27) (cI 8)),mV 29 28,((some (29,false)),(.pure 30 (.mv (.t 0)))),((some (29,false)),(.pure 31 (.mv (.t 2)))),((some (29,false)),(.call (some 32) (.c (.func (.func 17) (.mk []) (.mk []))) [(.t 30),(.t 31)])),((some (29,false)),(.pure 33 (.len (.t 32)))),((some (29,false)),(.pure 34 (.bin .geq .no (.t 33) (cI 8)))),pU 35 (.pick (.t 29) (.c (.bool true)) (.t 34))] (.cond (.t 35) (sO [mV 36 0,mV 8 36,mI 9 10] .ret) .skip)) (sO [pU 10 (.mv (.c (.slice none 0 0)))] (sO [mV 37 10,mV 38 0,(none,(.append 39 3 24 103 (.t 37) (.t 38))),mV 10 39] (sO [mV 40 10,mV 41 1,mV 42 2,mV 43 3,pU 44 (.build [(u0 0),(u0 0),(u0 0)] [(0,(1,(.t 41))),(1,(1,(.t 42))),(2,(1,(.t 43)))]),(none,(.bslice 45 1 3 [(u0 0),(u0 0),(u0 0)] [(0,(.t 44))])),(none,(.append 46 3 24 103 (.t 40) (.t 45))),mV 8 46,mI 9 0] .ret)))))))) 47 [(.tmp 8),(.tmp 9)])
theorem frMake:FA 11=some irMake:=by kernel_rfl
def irBreak:IFn:=(.mk (sO [pU 6 (.mv (.c (.slice none 0 0))),mI 7 0] (.seq (sO [mV 11 0,mV 12 1,cL 13 15 [(.t 11),(.t 12)],mV 14 2,cL 15 28 [(.t 13),(.t 14)],pU 16 (.not (.t 15))] (.cond (.t 16) (sO [mV 17 0,mV 6 17,mI 7 8] .ret) .skip)) (sO [pU 8 (.mv (.c (.slice none 0 0)))] (.seq (sO [mV 18 0,pU 19 (.len (.t 18)),mI 20 0] (.block 0 (.loop (sO [pU 21 (.bin .lss .no (.t 20) (.t 19))] (.seq (.cond (.t 21) .skip (.exit 0)) (.seq (.block 1 (sO [pU 22 (.idxL 3 (.t 18) (.t 20)),lD 23 3 true 22,(none,(.new 10 true [(u0 0),(u0 0),(u0 0)])),sT 3 10 23] (sO [fD 24 0 10,lD 25 1 false 24,mV 26 1,pU 27 (.bin .neq .no (.t 25) (.t 26)),mV 28 27,((some (28,false)),(.pure 29 (.fadd 1 (.t 10)))),((some (28,false)),(.load 30 1 false (.t 29))),((some (28,false)),(.pure 31 (.mv (.t 2)))),((some (28,false)),(.pure 32 (.bin .neq .no (.t 30) (.t 31)))),pU 33 (.pick (.t 28) (.c (.bool true)) (.t 32))] (.cond (.t 33) (.ops [mV 34 8,lD 35 3 true 10,(none,(.bslice 36 1 3 [(u0 0),(u0 0),(u0 0)] [(0,(.t 35))])),(none,(.append 37 3 24 103 (.t 34) (.t 36))),mV 8 37]) .skip)))) (.ops [pU 38 (.bin .add .no (.t 20) (cI 1)),mV 20 38]))))))) (sO [mV 39 8,mV 6 39,mI 7 0] .ret))))) 40 [(.tmp 6),(.tmp 7)])
theorem frBreak:FA 9=some irBreak:=by kernel_rfl
def iLTie:IFn:=(.mk (sO [mB 4 false] (.seq (sO [cL 16 6 [],pU 17 (.not (.t 16))] (.cond (.t 17) (sO [mB 4 false] .ret) .skip)) (.seq (sO [mV 18 1,pU 19 (.len (.t 18)),pU 20 (.bin .gtr .no (.t 19) (cI 80))] (.cond (.t 20) (sO [mB 4 true] .ret) .skip)) (sO [mV 22 0,pU 23 (.bin .rem .no (.t 22) (.c (.int .u8 (.ofNat 12)))),pU 24 (.conv .i64 (.t 23)),pU 25 (.bin .add .no (cI 1) (.t 24)),cL 26 7 [(.t 25)],mV 21 26,eX 27 0 21,eX 28 1 21,mV 5 27,mV 6 28] (.seq (sO [mV 29 6,pU 30 (.not (.t 29))] (.cond (.t 30) (sO [mB 4 false] .ret) .skip)) (sO [pU 7 (.mv (.c (.slice none 0 0)))] (.seq (sO [mV 31 1,pU 32 (.len (.t 31)),mI 33 0] (.block 0 (.loop (sO [pU 34 (.bin .lss .no (.t 33) (.t 32))] (.seq (.cond (.t 34) .skip (.exit 0)) (.seq (.block 1 (sO [pU 35 (.idxL 4 (.t 31) (.t 33)),lD 36 4 true 35,(none,(.new 9 true [(.bool false),(.int .u8 (.ofNat 0)),(.int .u8 (.ofNat 0)),(u0 0)])),sT 4 9 36] (.seq (.drawn [fD 37 1 9,lD 38 1 false 37,pU 39 (.conv .i64 (.t 38)),mV 40 5,pU 41 (.len (.t 40)),pU 42 (.bin .rem .no (.t 39) (.t 41)),fD 43 2 9,lD 44 1 false 43,pU 45 (.conv .i64 (.t 44)),mV 46 5,pU 47 (.len (.t 46)),pU 48 (.bin .rem .no (.t 45) (.t 47)),mV 10 42,mV 11 48] [[],[0],[1,0],[],[3],[2,4,1,0,3],[],[6],[7,6],[],[9],[8,10,7,6,9],[5,0,1,2,3,4],[11,12,0,1,2,3,4,5,6,7,8,9,10]]) (sO [mI 12 0] (sO [mI 13 0] (.seq (sO [fD 49 0 9,lD 50 1 false 49] (.cond (.t 50) (.seq (.drawn [mV 51 5,mV 52 10,pU 53 (.idxL 12 (.t 51) (.t 52)),lD 54 12 true 53,mV 55 5,mV 56 11,pU 57 (.idxL 12 (.t 55) (.t 56)),lD 58 12 true 57,cL 59 8 [(.t 54),(.t 58)],mV 12 59] [[],[],[0,1],[2,0,1],[],[],[4,5],[6,4,5],[3,7,2,0,1,6,4,5],[8,0,1,2,3,4,5,6,7]]) (.ops [mV 61 7,mV 62 10,pU 63 (.bin .add .no (.t 62) (cI 1)),pU 64 (.conv .u64 (.t 63)),mV 65 11,pU 66 (.bin .add .no (.t 65) (cI 1)),pU 67 (.conv .u64 (.t 66)),cL 68 9 [(.t 61),(.t 64),(.t 67)],mV 60 68,eX 69 0 60,eX 70 1 60,mV 7 69,mV 13 70])) (.seq (.drawn [mV 71 5,mV 72 10,pU 73 (.idxL 12 (.t 71) (.t 72)),lD 74 12 true 73,mV 75 5,mV 76 11,pU 77 (.idxL 12 (.t 75) (.t 76)),lD 78 12 true 77,fD 79 3 9,lD 80 1 false 79,cL 81 10 [(.t 74),(.t 78),(.t 80)],mV 12 81] [[],[],[0,1],[2,0,1],[],[],[4,5],[6,4,5],[],[8],[3,7,9,2,0,1,6,4,5,8],[10,0,1,2,3,4,5,6,7,8,9]]) (.ops [mV 83 7,mV 84 10,pU 85 (.bin .add .no (.t 84) (cI 1)),pU 86 (.conv .u64 (.t 85)),mV 87 11,pU 88 (.bin .add .no (.t 87) (cI 1)),pU 89 (.conv .u64 (.t 88)),fD 90 3 9,lD 91 1 false 90,cL 92 11 [(.t 83),(.t 86),(.t 89),(.t 91)],mV 82 92,eX 93 0 82,eX 94 1 82,mV 7 93,mV 13 94])))) (.seq (sO [mV 95 12,mV 96 13,pU 97 (.bin .neq .no (.t 95) (.t 96))] (.cond (.t 97) (sO [mB 4 false] .ret) .skip)) (sO [mV 98 5,pU 99 (.len (.t 98)),mI 100 0] (.block 2 (.loop (sO [pU 101 (.bin .lss .no (.t 100) (.t 99))] (.seq (.cond (.t 101) .skip (.exit 2)) (.seq (.block 3 (sO [mV 102 100,pU 103 (.idxL 12 (.t 98) (.t 100)),lD 104 12 true 103,(none,(.new 15 true [p0,p0,(i0 0),(i0 0),(u0 0),p0,(i0 0),(i0 0),(i0 0),p0,(i0 0),(i0 0)])),mV 14 102,sT 12 15 104] (sO [lD 105 12 true 15,cL 106 14 [(.t 105)],cL 107 13 [(.t 106)],mV 108 7,mV 109 14,pU 110 (.bin .add .no (.t 109) (cI 1)),pU 111 (.conv .u64 (.t 110)),cL 112 15 [(.t 108),(.t 111)],cL 113 12 [(.t 107),(.t 112)],pU 114 (.not (.t 113)),mV 115 114,((some (115,false)),(.load 116 12 true (.t 15))),((some (115,false)),(.call (some 117) (.c (.func (.func 16) (.mk []) (.mk []))) [(.t 116)])),((some (115,false)),(.call (some 118) (.c (.func (.func 13) (.mk []) (.mk []))) [(.t 117)])),((some (115,false)),(.pure 119 (.mv (.t 7)))),((some (115,false)),(.pure 120 (.mv (.t 14)))),((some (115,false)),(.pure 121 (.bin .add .no (.t 120) (cI 1)))),((some (115,false)),(.pure 122 (.conv .u64 (.t 121)))),((some (115,false)),(.call (some 123) (.c (.func (.func 17) (.mk []) (.mk []))) [(.t 119),(.t 122)])),((some (115,false)),(.call (some 124) (.c (.func (.func 12) (.mk []) (.mk []))) [(.t 118),(.t 123)])),((some (115,false)),(.pure 125 (.not (.t 124)))),pU 126 (.pick (.t 115) (.c (.bool true)) (.t 125))] (.cond (.t 126) (sO [mB 4 false] .ret) .skip)))) (.ops [pU 127 (.bin .add .no (.t 100) (cI 1)),mV 100 127])))))))))))))) (.ops [pU 128 (.bin .add .no (.t 33) (cI 1)),mV 33 128]))))))) (sO [mB 4 true] .ret)))))))) 129 [(.tmp 4)])
theorem fLTie:FA 3=some iLTie:=by kernel_rfl
end Go.AI
/- The document's ties: whom a node holds, and who holds it, walked. -/
namespace Go.AI
open Go.Proofs
variable {x:Ar}{tbl t' t'':List (Nat×AObj Ar)}{nx n' n'' j a s i k w z f ty lo lo2 b P R off m:Nat}{L M:List (Nat×Nat)}
abbrev Ti:=Nat×Nat×Nat
variable {q:List Ti}
abbrev tiV(c:Ti):List Value:=[.int .u64 (.ofNat c.1),.int .u64 (.ofNat c.2.1),.int .u64 (.ofNat c.2.2)]
def tiC:List Ti→List Value
 |[]=>[]
 |c::r=>.int .u64 (.ofNat c.1)::.int .u64 (.ofNat c.2.1)::.int .u64 (.ofNat c.2.2)::tiC r
theorem tiC_app:∀(l m:List Ti),tiC (l++m)=tiC l++tiC m
 |[],_=>rfl
 |p::r,m=>by
  show _::_::_::tiC (r++m)=_::_::_::(tiC r++tiC m)
  rw[tiC_app r m]
theorem tiC_len:∀(l:List Ti),(tiC l).length=l.length*3
 |[]=>rfl
 |p::r=>by
  show(tiC r).length+1+1+1=(r.length+1)*3
  rw[tiC_len r];omega
theorem tiC_get:∀{l:List Ti} {i:Nat} {c:Ti},l[i]? = some c→takeN (tiC l) (0+i*3) 3=some (tiV c)
 |[],_,_,h=>by simp at h
 |d::r,0,c,h=>by
  simp only[List.getElem?_cons_zero,zI] at h;subst h
  rfl
 |d::r,i+1,c,h=>by
  have ih:=tiC_get (l:=r) (i:=i) (c:=c) (by simpa using h)
  rw[show 0+(i+1)*3=0+i*3+1+1+1 by omega]
  exact ih
def RowQ(lo:Nat)(t:List (Nat×AObj Ar))(n:Nat)(v:Value)(l:List Ti):Prop:=(l=[]∧v = .slice none 0 0)∨(l≠[]∧∃r,lo≤r∧r<n∧v = .slice (some ⟨r,0,none⟩) l.length l.length∧look r t=some (.grown 3 103 (tiC l)))
theorem RowQ.wk{lo':Nat}{v:Value}(h:RowQ lo tbl nx v q)(hl:lo'≤lo):RowQ lo' tbl nx v q:=by
 rcases h with h|⟨h0,r,h1,h2,h3,h4⟩
 ·exact .inl h
 ·exact .inr ⟨h0,r,Nat.le_trans hl h1,h2,h3,h4⟩
theorem RowQ.kx{v:Value}(h:RowQ lo tbl nx v q)(hj:j<lo)(K:Kx j tbl nx t' n'):RowQ lo t' n' v q:=by
 rcases h with h|⟨h0,r,h1,h2,h3,h4⟩
 ·exact .inl h
 ·exact .inr ⟨h0,r,h1,Nat.lt_of_lt_of_le h2 K.1,h3,(K.2 r h2 (by omega)).trans h4⟩
theorem RowQ.kq{v:Value}(h:RowQ lo tbl nx v q)(K:Kq tbl nx t' n'):RowQ lo t' n' v q:=by
 rcases h with h|⟨h0,r,h1,h2,h3,h4⟩
 ·exact .inl h
 ·exact .inr ⟨h0,r,h1,Nat.lt_of_lt_of_le h2 K.1,h3,(K.2 r h2).trans h4⟩
theorem RowQ.get{v:Value}(h:RowQ lo tbl nx v q):∃ad,v = .slice ad q.length q.length∧(q≠[]→∃r,lo≤r∧r<nx∧ad=some ⟨r,0,none⟩∧look r tbl=some (.grown 3 103 (tiC q))):=by
 rcases h with⟨rfl,rfl⟩|⟨h0,r,h1,h2,rfl,h4⟩
 ·exact⟨none,rfl,fun h=>absurd rfl h⟩
 ·exact⟨_,rfl,fun _=>⟨r,h1,h2,rfl,h4⟩⟩
def addD(n:Nat)(out:List (Nat×Nat))(w z:Nat):List (Nat×Nat):=if chkN out n w z=0 then insK out w z else out
def tgtD(n f:Nat):List Ti→List (Nat×Nat)→List (Nat×Nat)
 |[],out=>out
 |c::r,out=>tgtD n f r (if c.1=f then addD n out c.2.1 c.2.2 else out)
def hldD(n f:Nat):List Ti→List (Nat×Nat)→List (Nat×Nat)
 |[],out=>out
 |c::r,out=>hldD n f r (if c.2.1=f then addD n out c.1 c.2.2 else out)
theorem tgtD_snoc:∀{l:List Ti} {n:Nat} {c:Ti} {out:List (Nat×Nat)},tgtD n f (l++[c]) out=if c.1=f then addD n (tgtD n f l out) c.2.1 c.2.2 else tgtD n f l out
 |[],_,_,_=>rfl
 |d::r,n,c,out=>by
  show tgtD n f (r++[c]) _=_
  rw[tgtD_snoc];rfl
theorem hldD_snoc:∀{l:List Ti} {n:Nat} {c:Ti} {out:List (Nat×Nat)},hldD n f (l++[c]) out=if c.2.1=f then addD n (hldD n f l out) c.1 c.2.2 else hldD n f l out
 |[],_,_,_=>rfl
 |d::r,n,c,out=>by
  show hldD n f (r++[c]) _=_
  rw[hldD_snoc];rfl
theorem addD_len{n:Nat}:(addD n L w z).length≤L.length+1:=by
 unfold addD
 split
 ·rw[insK_len];omega
 ·omega
theorem tgtD_len:∀(l:List Ti) (n:Nat) (out:List (Nat×Nat)),(tgtD n f l out).length≤out.length+l.length
 |[],_,_=>Nat.le_add_right _ _
 |c::r,n,out=>by
  refine Nat.le_trans (tgtD_len r n _) ?_
  have h:=addD_len (n:=n) (L:=out) (w:=c.2.1) (z:=c.2.2)
  rw[List.length_cons]
  split<;>omega
theorem hldD_len:∀(l:List Ti) (n:Nat) (out:List (Nat×Nat)),(hldD n f l out).length≤out.length+l.length
 |[],_,_=>Nat.le_add_right _ _
 |c::r,n,out=>by
  refine Nat.le_trans (hldD_len r n _) ?_
  have h:=addD_len (n:=n) (L:=out) (w:=c.1) (z:=c.2.2)
  rw[List.length_cons]
  split<;>omega
structure DHk(hk:List (HookF Ar)):Prop where
 has:hookL hk 28=none
 add:hookL hk 25=none
 tgt:hookL hk 15=none
 hld:hookL hk 17=none
theorem rtgt_run{hk:List (HookF Ar)}(hh:DHk hk){n:Nat}{v:Value}(hn:1001≤n)(hq:q.length≤900)(hQ:RowQ lo tbl nx v q) :
  ∃u h',RW hk (n+3) 15 [v,.int .u64 (.ofNat f)] ⟨tbl,nx⟩=some (u,h')∧(RowT 52 nx h'.tbl h'.next u (tgtD q.length f q [])∧Kq tbl nx h'.tbl h'.next):=by
 obtain⟨ad,rfl,hrow⟩:=hQ.get
 refine run_fn hh.tgt frTargets (zL rfl) ?_
 dsimp only[irTargets,argsE]
 refine WC.seq (WC.ops (WO.mv rfl (WO.nil (zN (WC.seq (WC.ops (WO.mv rfl (WO.nil (zN (WC.seq (WC.seq (WC.ops (WO.mv rfl (WO.len rfl (WO.mv rfl (WO.nil (zN (WC.block ?_))))))))))))))))))
 refine WC.loop (fun y e tb nb=>∃i v',i+y=q.length∧e 0=some (.slice ad q.length q.length)∧e 1=some (.int .u64 (.ofNat f))∧e 5=some v'∧e 8=some (.slice ad q.length q.length)∧e 9=some (vI q.length)∧e 10=some (vI i)∧RowT 52 nx tb nb v' (tgtD q.length f (q.take i) [])∧Kq tbl nx tb nb) (k:=q.length) (by omega)
  ⟨0,.slice none 0 0,by omega,rfl,rfl,rfl,rfl,rfl,rfl,.inl ⟨rfl,rfl⟩,Kq.refl⟩ ?_
 rintro y e tb nb ⟨i,v',hiq,e0,e1,e5,e8,e9,e10,R,K⟩
 dsimp only at e0 e1 e5 e8 e9 e10
 refine WC.seq (WC.ops (WO.lssS e10 e9 (fun hz=>?_) (fun hz=>?_)))
 ·have hi:i<q.length:=by simp only[zO] at hz;omega
  obtain⟨c,hc⟩:∃c,q[i]? = some c:=⟨q[i],List.getElem?_eq_getElem hi⟩
  obtain⟨r,hr1,hr2,rfl,hr4⟩:=hrow (fun e=>by rw[e] at hi;simp at hi)
  have hrb:=(K.2 r hr2).trans hr4
  have hts:q.take (i+1)=q.take i++[c]:=by rw[List.take_add_one,hc];rfl
  have hlen:=tgtD_len (f:=f) (q.take i) q.length []
  rw[List.length_nil,List.length_take] at hlen
  refine WO.nil (zN (WC.seq (WC.cond_true rfl (WC.skip (zN (WC.seq (WC.block (WC.seq (WC.ops ?_)))))))))
  refine WO.idxL (b:=r) (o:=0) (len:=q.length) (c:=q.length) (sp:=none) (j:=.i64) (z:=Int.ofNat i) (n:=i) e8 e10 rfl hi ?_
  refine WO.load (ob:=.grown 3 103 (tiC q)) (v:=.agg ⟨tiV c⟩) rfl hrb rfl (tiC_get hc) rfl (WO.nstW rfl (WO.nil (zN ?_)))
  have KA:Kq tbl nx ((nb,AObj.cells (tiV c))::tb) (nb+1):=K.cons K.1 (by omega)
  have RA:=R.kq (Kq.refl.cons (k:=nb) (m:=nb+1) (o:=.cells (tiV c)) (Nat.le_refl _) (Nat.le_succ _))
  have hcell:look nb ((nb,AObj.cells (tiV c))::tb)=some (.cells (tiV c)):=by rw[zC,if_pos rfl]
  generalize((nb,AObj.cells (tiV c))::tb)=TA at KA RA hcell ⊢
  refine WC.seq (WC.ops (WO.fadd rfl (WO.load (ob:=.cells (tiV c)) (v:=.int .u64 (.ofNat c.1)) rfl hcell rfl rfl rfl (WO.mv (by exact e1) (WO.eqlS rfl rfl (fun h=>?_) (fun h=>?_))))))
  ·have h:c.1=f:=Int.ofNat.inj h
   refine WO.nil (zN (WC.cond_true rfl (WC.ops (WO.mv (by exact e5) (WO.mv (by exact e0) (WO.len rfl (WO.fadd rfl (WO.load (ob:=.cells (tiV c)) (v:=.int .u64 (.ofNat c.2.1)) rfl hcell rfl rfl rfl (WO.fadd rfl (WO.load (ob:=.cells (tiV c)) (v:=.int .u64 (.ofNat c.2.2)) rfl hcell rfl rfl rfl (WO.pure (v:=vLk c.2.1 c.2.2) rfl ?_)))))))))))
   refine WO.fcall_ex (vs:=[v',vI q.length,vLk c.2.1 c.2.2]) rfl rfl (radd_run (n:=n) (m:=q.length) (w:=c.2.1) (z:=c.2.2) hh.has hh.add hn (by omega) RA KA.1) ?_
   rintro u ⟨t2,n2⟩ ⟨v2,rfl,R2,k2⟩
   dsimp only at R2 k2
   refine WO.mv rfl (WO.pure (v:=v2) rfl (WO.pure rfl (WO.mv rfl (WO.nil (zB (zN (WC.ops (WO.add (by exact e10) rfl (by simp only[zO];omega) (by simp only[zO];omega) (WO.mv rfl (WO.nil ?_))))))))))
   refine⟨y-1,by omega,rfl,i+1,v2,by omega,by exact e0,by exact e1,rfl,by exact e8,by exact e9,rfl,?_,KA.trans k2⟩
   rw[hts,tgtD_snoc,if_pos h]
   exact R2
  ·have h:c.1≠f:=fun e=>h (by rw[e])
   refine WO.nil (zN (WC.cond_false rfl (WC.skip (zB (zN (WC.ops (WO.add (by exact e10) rfl (by simp only[zO];omega) (by simp only[zO];omega) (WO.mv rfl (WO.nil ?_)))))))))
   refine⟨y-1,by omega,rfl,i+1,v',by omega,by exact e0,by exact e1,by exact e5,by exact e8,by exact e9,rfl,?_,KA⟩
   rw[hts,tgtD_snoc,if_neg h]
   exact RA
 ·have hi:i=q.length:=by simp only[zO] at hz;omega
  refine WO.nil (zN (WC.seq (WC.cond_false rfl (WC.exit (thenC_exit (blockC_exit ?_))))))
  refine zN (WC.seq (WC.ops (WO.mv (m:=⟨[],tb,nb⟩) (by exact e5) (WO.mv rfl (WO.nil (zN (WC.ret ?_)))))))
  rw[hi,List.take_length] at R
  exact⟨_,_,rfl,rfl,R,K⟩
theorem rhld_run{hk:List (HookF Ar)}(hh:DHk hk){n:Nat}{v:Value}(hn:1001≤n)(hq:q.length≤900)(hQ:RowQ lo tbl nx v q) :
  ∃u h',RW hk (n+3) 17 [v,.int .u64 (.ofNat f)] ⟨tbl,nx⟩=some (u,h')∧(RowT 52 nx h'.tbl h'.next u (hldD q.length f q [])∧Kq tbl nx h'.tbl h'.next):=by
 obtain⟨ad,rfl,hrow⟩:=hQ.get
 refine run_fn hh.hld frHolders (zL rfl) ?_
 dsimp only[irHolders,argsE]
 refine WC.seq (WC.ops (WO.mv rfl (WO.nil (zN (WC.seq (WC.ops (WO.mv rfl (WO.nil (zN (WC.seq (WC.seq (WC.ops (WO.mv rfl (WO.len rfl (WO.mv rfl (WO.nil (zN (WC.block ?_))))))))))))))))))
 refine WC.loop (fun y e tb nb=>∃i v',i+y=q.length∧e 0=some (.slice ad q.length q.length)∧e 1=some (.int .u64 (.ofNat f))∧e 5=some v'∧e 8=some (.slice ad q.length q.length)∧e 9=some (vI q.length)∧e 10=some (vI i)∧RowT 52 nx tb nb v' (hldD q.length f (q.take i) [])∧Kq tbl nx tb nb) (k:=q.length) (by omega)
  ⟨0,.slice none 0 0,by omega,rfl,rfl,rfl,rfl,rfl,rfl,.inl ⟨rfl,rfl⟩,Kq.refl⟩ ?_
 rintro y e tb nb ⟨i,v',hiq,e0,e1,e5,e8,e9,e10,R,K⟩
 dsimp only at e0 e1 e5 e8 e9 e10
 refine WC.seq (WC.ops (WO.lssS e10 e9 (fun hz=>?_) (fun hz=>?_)))
 ·have hi:i<q.length:=by simp only[zO] at hz;omega
  obtain⟨c,hc⟩:∃c,q[i]? = some c:=⟨q[i],List.getElem?_eq_getElem hi⟩
  obtain⟨r,hr1,hr2,rfl,hr4⟩:=hrow (fun e=>by rw[e] at hi;simp at hi)
  have hrb:=(K.2 r hr2).trans hr4
  have hts:q.take (i+1)=q.take i++[c]:=by rw[List.take_add_one,hc];rfl
  have hlen:=hldD_len (f:=f) (q.take i) q.length []
  rw[List.length_nil,List.length_take] at hlen
  refine WO.nil (zN (WC.seq (WC.cond_true rfl (WC.skip (zN (WC.seq (WC.block (WC.seq (WC.ops ?_)))))))))
  refine WO.idxL (b:=r) (o:=0) (len:=q.length) (c:=q.length) (sp:=none) (j:=.i64) (z:=Int.ofNat i) (n:=i) e8 e10 rfl hi ?_
  refine WO.load (ob:=.grown 3 103 (tiC q)) (v:=.agg ⟨tiV c⟩) rfl hrb rfl (tiC_get hc) rfl (WO.nstW rfl (WO.nil (zN ?_)))
  have KA:Kq tbl nx ((nb,AObj.cells (tiV c))::tb) (nb+1):=K.cons K.1 (by omega)
  have RA:=R.kq (Kq.refl.cons (k:=nb) (m:=nb+1) (o:=.cells (tiV c)) (Nat.le_refl _) (Nat.le_succ _))
  have hcell:look nb ((nb,AObj.cells (tiV c))::tb)=some (.cells (tiV c)):=by rw[zC,if_pos rfl]
  generalize((nb,AObj.cells (tiV c))::tb)=TA at KA RA hcell ⊢
  refine WC.seq (WC.ops (WO.fadd rfl (WO.load (ob:=.cells (tiV c)) (v:=.int .u64 (.ofNat c.2.1)) rfl hcell rfl rfl rfl (WO.mv (by exact e1) (WO.eqlS rfl rfl (fun h=>?_) (fun h=>?_))))))
  ·have h:c.2.1=f:=Int.ofNat.inj h
   refine WO.nil (zN (WC.cond_true rfl (WC.ops (WO.mv (by exact e5) (WO.mv (by exact e0) (WO.len rfl (WO.fadd rfl (WO.load (ob:=.cells (tiV c)) (v:=.int .u64 (.ofNat c.1)) rfl hcell rfl rfl rfl (WO.fadd rfl (WO.load (ob:=.cells (tiV c)) (v:=.int .u64 (.ofNat c.2.2)) rfl hcell rfl rfl rfl (WO.pure (v:=vLk c.1 c.2.2) rfl ?_)))))))))))
   refine WO.fcall_ex (vs:=[v',vI q.length,vLk c.1 c.2.2]) rfl rfl (radd_run (n:=n) (m:=q.length) (w:=c.1) (z:=c.2.2) hh.has hh.add hn (by omega) RA KA.1) ?_
   rintro u ⟨t2,n2⟩ ⟨v2,rfl,R2,k2⟩
   dsimp only at R2 k2
   refine WO.mv rfl (WO.pure (v:=v2) rfl (WO.pure rfl (WO.mv rfl (WO.nil (zB (zN (WC.ops (WO.add (by exact e10) rfl (by simp only[zO];omega) (by simp only[zO];omega) (WO.mv rfl (WO.nil ?_))))))))))
   refine⟨y-1,by omega,rfl,i+1,v2,by omega,by exact e0,by exact e1,rfl,by exact e8,by exact e9,rfl,?_,KA.trans k2⟩
   rw[hts,hldD_snoc,if_pos h]
   exact R2
  ·have h:c.2.1≠f:=fun e=>h (by rw[e])
   refine WO.nil (zN (WC.cond_false rfl (WC.skip (zB (zN (WC.ops (WO.add (by exact e10) rfl (by simp only[zO];omega) (by simp only[zO];omega) (WO.mv rfl (WO.nil ?_)))))))))
   refine⟨y-1,by omega,rfl,i+1,v',by omega,by exact e0,by exact e1,by exact e5,by exact e8,by exact e9,rfl,?_,KA⟩
   rw[hts,hldD_snoc,if_neg h]
   exact RA
 ·have hi:i=q.length:=by simp only[zO] at hz;omega
  refine WO.nil (zN (WC.seq (WC.cond_false rfl (WC.exit (thenC_exit (blockC_exit ?_))))))
  refine zN (WC.seq (WC.ops (WO.mv (m:=⟨[],tb,nb⟩) (by exact e5) (WO.mv rfl (WO.nil (zN (WC.ret ?_)))))))
  rw[hi,List.take_length] at R
  exact⟨_,_,rfl,rfl,R,K⟩
end Go.AI
/- The document's ties: Make, Break, walked. -/
namespace Go.AI
open Go.Proofs
variable {x:Ar}{tbl t' t'':List (Nat×AObj Ar)}{nx n' n'' j a s i k w z f g ty lo lo2 b P R off m:Nat}{L M:List (Nat×Nat)}{q:List Ti}
theorem WO.app3{call:CallFn Ar}{env:List (Nat×Value)}{K:List (Nat×Value)→Mem Ar→Prop}{l:List (Option (Nat×Bool)×IOp)}{d b:Nat}{c:Ti}{px x:Opd}{v:Value}(hp:evo env px=some (.agg ⟨tiV c⟩))(hx:evo ((b,.slice (some ⟨nx,0,none⟩) 1 1)::env) x=some v)(hR:RowQ lo tbl nx v q)(hL:q.length≤1000)
  (k:∀t',RowQ lo t' (nx+2) (.slice (some ⟨nx+1,0,none⟩) (q.length+1) (q.length+1)) (q++[c])→(∀y,y<nx→(y<lo∨∃cs,look y tbl=some (.cells cs))→look y t'=look y tbl)→WO call l ((d,.slice (some ⟨nx+1,0,none⟩) (q.length+1) (q.length+1))::(b,.slice (some ⟨nx,0,none⟩) 1 1)::env) ⟨[],t',nx+2⟩ K) (hlo:lo≤nx) :
  WO call ((none,.bslice b 1 3 [.int .u64 (.ofNat 0),.int .u64 (.ofNat 0),.int .u64 (.ofNat 0)] [(0,px)])::(none,.append d 3 24 103 x (.t b))::l) env ⟨[],tbl,nx⟩ K:=by
 refine WO.step (i:=.bslice b 1 3 [.int .u64 (.ofNat 0),.int .u64 (.ofNat 0),.int .u64 (.ofNat 0)] [(0,px)]) (v:=.slice (some ⟨nx,0,none⟩) 1 1) (m':=⟨[],(nx,.cells (tiV c))::tbl,nx+1⟩) ?_ ?_
 ·have h:fillp env (rows 1 [.int .u64 (.ofNat 0),.int .u64 (.ofNat 0),.int .u64 (.ofNat 0)]) [(0*3,3,px)]=some (tiV c):=by
   simp only[fillp,hp]
   rfl
  simp only[estep,mstep,allocI,List.map,h,Option.map]
  rfl
 have hsr:source (⟨[],(nx,.cells (tiV c))::tbl,nx+1⟩:Mem Ar) 3 (.slice (some ⟨nx,0,none⟩) 1 1)=some (1,tiV c):=by
  have:(⟨[],(nx,.cells (tiV c))::tbl,nx+1⟩:Mem Ar).loads (some ⟨nx,0,none⟩) (1*3)=some (tiV c):=mem_lds (by rw[zC,if_pos rfl]) rfl (by decide) rfl
  show(Mem.loads _ _ (1*3)).map _=_
  rw[this];rfl
 have hb:evo ((b,Value.slice (some ⟨nx,0,none⟩) 1 1)::env) (.t b)=some (.slice (some ⟨nx,0,none⟩) 1 1):=by
  show look b (_::_)=_
  rw[zC,if_pos rfl]
 have hlk:tiC (q++[c])=tiC q++tiV c:=by rw[tiC_app];rfl
 have hne:q++[c]≠[]:=by simp
 have hln:(q++[c]).length=q.length+1:=by simp
 rcases hR with⟨h0,rfl⟩|⟨h0,r,h1,h2,rfl,h4⟩
 ·subst h0
  refine WO.append hx hb (appendM_new (m:=⟨[],(nx,.cells (tiV c))::tbl,nx+1⟩) hsr (by decide) (by omega)) (k _ (.inr ⟨hne,nx+1,by omega,by omega,by rw[hln],?_⟩) fun y hq hc=>?_)
  ·exact(zC _ _ _).trans (if_pos rfl)
  ·show look _ (_::_)=_
   rw[zC,if_neg (by show¬y=nx+1;omega),zC,if_neg (by show¬y=nx;omega)]
 ·have hgr:look r ((nx,AObj.cells (tiV c))::tbl)=some (.grown 3 103 (tiC q)):=by
   rw[zC,if_neg (by show¬r=nx;omega)];exact h4
  have hol:(tiC q).length=q.length*3:=tiC_len q
  have hl0:q.length≠0:=fun e=>h0 (List.eq_nil_of_length_eq_zero e)
  refine WO.append hx hb (appendM_more (m:=⟨[],(nx,.cells (tiV c))::tbl,nx+1⟩) hsr rfl (by decide) hgr hol (mem_lds hgr rfl (by omega) (by rw[takeN_mid (by omega),List.drop_zero,← hol,List.take_length])) (by omega)) (k _ (.inr ⟨hne,nx+1,by omega,by omega,by rw[hln],?_⟩) fun y hq hc=>?_)
  ·rw[hlk]
   exact(zC _ _ _).trans (if_pos rfl)
  ·show look _ (_::del r _)=_
   rw[zC,if_neg (by show¬y=nx+1;omega),look_del_ne (by
    rcases hc with hc|⟨cs,hc⟩
    ·omega
    ·intro e;subst e;rw[h4] at hc;cases hc),zC,if_neg (by show¬y=nx;omega)]
theorem WO.appAll{call:CallFn Ar}{env:List (Nat×Value)}{K:List (Nat×Value)→Mem Ar→Prop}{l:List (Option (Nat×Bool)×IOp)}{d:Nat}{x y:Opd}{v:Value}(hx:evo env x=some (.slice none 0 0))(hy:evo env y=some v)(hR:RowQ lo tbl nx v q)(hL:q.length≤1000)
  (k:∀t' n' v',RowQ nx t' n' v' q→Kq tbl nx t' n'→WO call l ((d,v')::env) ⟨[],t',n'⟩ K):WO call ((none,.append d 3 24 103 x y)::l) env ⟨[],tbl,nx⟩ K:=by
 rcases hR with⟨rfl,rfl⟩|⟨h0,r,h1,h2,rfl,h4⟩
 ·exact WO.append (w:=.slice none 0 0) (m':=⟨[],tbl,nx⟩) hx hy rfl (k _ _ _ (.inl ⟨rfl,rfl⟩) Kq.refl)
 ·have hl0:q.length≠0:=fun e=>h0 (List.eq_nil_of_length_eq_zero e)
  have hol:(tiC q).length=q.length*3:=tiC_len q
  have hsr:source (⟨[],tbl,nx⟩:Mem Ar) 3 (.slice (some ⟨r,0,none⟩) q.length q.length)=some (q.length,tiC q):=by
   have:(⟨[],tbl,nx⟩:Mem Ar).loads (some ⟨r,0,none⟩) (q.length*3)=some (tiC q):=mem_lds h4 rfl (by omega) (by rw[takeN_mid (by omega),List.drop_zero,← hol,List.take_length])
   show(Mem.loads _ _ (q.length*3)).map _=_
   rw[this];rfl
  exact WO.append hx hy (appendM_new (m:=⟨[],tbl,nx⟩) hsr (by omega) (by omega)) (k _ _ _ (.inr ⟨h0,nx,Nat.le_refl _,Nat.lt_succ_self _,rfl,(zC _ _ _).trans (if_pos rfl)⟩) (Kq.refl.cons (Nat.le_refl _) (Nat.le_succ _)))
abbrev tgQ(q:List Ti)(f:Nat):List (Nat×Nat):=tgtD q.length f q []
abbrev hdQ(q:List Ti)(f:Nat):List (Nat×Nat):=hldD q.length f q []
def mkE(q:List Ti)(f g z:Nat):Nat:=if z=0 then 2 else if f=g then 12 else if hasW (tgQ q f) g=true then 9 else if 8≤(tgQ q f).length∨8≤(hdQ q g).length then 10 else 0
structure EHk(hk:List (HookF Ar)):Prop extends DHk hk where
 mak:hookL hk 11=none
 brk:hookL hk 9=none
theorem rmake_run{hk:List (HookF Ar)}(hh:EHk hk){n:Nat}{v:Value}(hn:1001≤n)(hq:q.length≤900)(hlo:lo≤nx)(hQ:RowQ lo tbl nx v q) :
  ∃u h',RW hk (n+4) 11 [v,.int .u64 (.ofNat f),.int .u64 (.ofNat g),.int .u64 (.ofNat z)] ⟨tbl,nx⟩=some (u,h')∧(∃v',u=pairV v' (mkE q f g z)∧RowQ lo h'.tbl h'.next v' (if mkE q f g z=0 then q++[(f,g,z)] else q)∧Kq tbl nx h'.tbl h'.next):=by
 obtain⟨ad,rfl,hrow⟩:=hQ.get
 refine run_fn hh.mak frMake (zL rfl) ?_
 dsimp only[irMake,argsE]
 refine WC.seq (WC.ops (WO.mv rfl (WO.mv rfl (WO.nil (zN (WC.seq (WC.seq (WC.ops (WO.mv rfl (WO.eqlS rfl rfl (fun h=>?_) (fun h=>?_)))))))))))
 ·have h:z=0:=Int.ofNat.inj h
  have he:mkE q f g z=2:=if_pos h
  refine WO.nil (zN (WC.cond_true rfl (WC.seq (WC.ops (WO.mv rfl (WO.mv rfl (WO.mv rfl (WO.nil (zN (WC.ret ?_))))))))))
  rw[he]
  exact⟨_,_,rfl,rfl,_,rfl,hQ,Kq.refl⟩
 have hz:z≠0:=fun e=>h (by rw[e])
 refine WO.nil (zN (WC.cond_false rfl (WC.skip (zN (WC.seq (WC.seq (WC.ops (WO.mv rfl (WO.mv rfl (WO.eqlS rfl rfl (fun h=>?_) (fun h=>?_)))))))))))
 ·have h:f=g:=Int.ofNat.inj h
  have he:mkE q f g z=12:=(if_neg hz).trans (if_pos h)
  refine WO.nil (zN (WC.cond_true rfl (WC.seq (WC.ops (WO.mv rfl (WO.mv rfl (WO.mv rfl (WO.nil (zN (WC.ret ?_))))))))))
  rw[he]
  exact⟨_,_,rfl,rfl,_,rfl,hQ,Kq.refl⟩
 have hfg:f≠g:=fun e=>h (by rw[e])
 refine WO.nil (zN (WC.cond_false rfl (WC.skip (zN (WC.seq (WC.seq (WC.ops (WO.mv rfl (WO.mv rfl ?_)))))))))
 refine WO.fcall_ex (vs:=[.slice ad q.length q.length,.int .u64 (.ofNat f)]) rfl rfl (rtgt_run (n:=n) hh.toDHk hn hq hQ) ?_
 rintro u ⟨t1,n1⟩ ⟨R1,k1⟩
 dsimp only at R1 k1
 have hlT:=tgtD_len (f:=f) q q.length []
 rw[List.length_nil] at hlT
 refine WO.mv rfl ?_
 refine WO.fcall_ex (vs:=[u,.int .u64 (.ofNat g)]) rfl rfl (rhas_run (n:=n+2) (w:=g) hh.has (by omega) (by omega) R1) ?_
 rintro u2 ⟨t2,n2⟩ ⟨rfl,k2⟩
 dsimp only at k2
 have K2:=k1.trans k2
 have hE:mkE q f g z=if hasW (tgQ q f) g=true then 9 else if 8≤(tgQ q f).length∨8≤(hdQ q g).length then 10 else 0:=(if_neg hz).trans (if_neg hfg)
 have e1:((tgtD q.length f q []).any fun c=>decide (c.1=g))=hasW (tgQ q f) g:=rfl
 rw[e1]
 cases hb:hasW (tgQ q f) g with
 |true =>
  have he:mkE q f g z=9:=hE.trans (if_pos hb)
  refine WO.nil (zN (WC.cond_true rfl (WC.seq (WC.ops (WO.mv rfl (WO.mv rfl (WO.mv rfl (WO.nil (zN (WC.ret ?_))))))))))
  rw[he]
  exact⟨_,_,rfl,rfl,_,rfl,hQ.kq K2,K2⟩
 |false =>
 have hE2:mkE q f g z=if 8≤(tgQ q f).length∨8≤(hdQ q g).length then 10 else 0:=hE.trans (if_neg (by rw[hb];decide))
 refine WO.nil (zN (WC.cond_false rfl (WC.skip (zN (WC.seq (WC.seq (WC.ops (WO.mv rfl (WO.mv rfl ?_)))))))))
 refine WO.fcall_ex (vs:=[.slice ad q.length q.length,.int .u64 (.ofNat f)]) rfl rfl (rtgt_run (n:=n) hh.toDHk hn hq (hQ.kq K2)) ?_
 rintro u3 ⟨t3,n3⟩ ⟨R3,k3⟩
 dsimp only at R3 k3
 have K3:=K2.trans k3
 obtain⟨ad3,rfl,_⟩:=R3.get
 have bad:8≤(tgQ q f).length∨8≤(hdQ q g).length→mkE q f g z=10:=fun h=>hE2.trans (if_pos h)
 have good:∀{e:List (Nat×Value)} {tb:List (Nat×AObj Ar)} {nb:Nat},¬(8≤(tgQ q f).length∨8≤(hdQ q g).length)→Kq tbl nx tb nb→look 0 e=some (.slice ad q.length q.length)→look 1 e=some (.int .u64 (.ofNat f))→look 2 e=some (.int .u64 (.ofNat g))→look 3 e=some (.int .u64 (.ofNat z)) →
   WC (RW hk (n+3)) (n+3) (.seq (.ops [(none,.pure 10 (.mv (.c (.slice none 0 0))))]) (.seq (.ops [(none,.pure 37 (.mv (.t 10))),(none,.pure 38 (.mv (.t 0))),(none,.append 39 3 24 103 (.t 37) (.t 38)),(none,.pure 10 (.mv (.t 39)))]) (.seq (.ops [(none,.pure 40 (.mv (.t 10))),(none,.pure 41 (.mv (.t 1))),(none,.pure 42 (.mv (.t 2))),(none,.pure 43 (.mv (.t 3))),(none,.pure 44 (.build [.int .u64 (.ofNat 0),.int .u64 (.ofNat 0),.int .u64 (.ofNat 0)] [(0,(1,.t 41)),(1,(1,.t 42)),(2,(1,.t 43))])),(none,.bslice 45 1 3 [.int .u64 (.ofNat 0),.int .u64 (.ofNat 0),.int .u64 (.ofNat 0)] [(0,.t 44)]),(none,.append 46 3 24 103 (.t 40) (.t 45)),(none,.pure 8 (.mv (.t 46))),(none,.pure 9 (.mv (.c (.int .i64 (.ofNat 0)))))]) .ret))) e ⟨[],tb,nb⟩ (endC [.tmp 8,.tmp 9] false nx fun u h'=>∃v',u=pairV v' (mkE q f g z)∧RowQ lo h'.tbl h'.next v' (if mkE q f g z=0 then q++[(f,g,z)] else q)∧Kq tbl nx h'.tbl h'.next):=by
  intro e tb nb hng K e0 e1 e2 e3
  have he:mkE q f g z=0:=hE2.trans (if_neg hng)
  refine WC.seq (WC.ops (WO.mv rfl (WO.nil (zN (WC.seq (WC.ops (WO.mv rfl (WO.mv (by exact e0) ?_))))))))
  refine WO.appAll rfl rfl (hQ.kq K) (by omega) (fun tc nc vc Rc Kc=>?_)
  refine WO.mv rfl (WO.nil (zN (WC.seq (WC.ops (WO.mv rfl (WO.mv (by exact e1) (WO.mv (by exact e2) (WO.mv (by exact e3) (WO.pure (v:=.agg ⟨tiV (f,g,z)⟩) rfl ?_)))))))))
  refine WO.app3 (c:=(f,g,z)) rfl rfl Rc (by omega) (fun td Rd Kd=>?_) Kc.1
  refine WO.mv rfl (WO.mv rfl (WO.nil (zN (WC.ret ⟨_,_,rfl,rfl,.slice (some ⟨nc+1,0,none⟩) (q.length+1) (q.length+1),?_,?_,?_⟩))))
  ·rw[he];rfl
  ·rw[if_pos he]
   exact Rd.wk (Nat.le_trans hlo K.1)
  ·exact⟨Nat.le_trans (K.trans Kc).1 (Nat.le_add_right _ 2),fun p hp=>(Kd p (Nat.lt_of_lt_of_le hp (K.trans Kc).1) (.inl (Nat.lt_of_lt_of_le hp K.1))).trans ((K.trans Kc).2 p hp)⟩
 refine WO.len rfl (WO.geqS rfl rfl (fun h=>?_) (fun h=>?_))
 ·have h8:8≤(tgQ q f).length:=Int.ofNat_le.1 h
  refine WO.mv rfl (WO.skip rfl rfl (WO.skip rfl rfl (WO.skip rfl rfl (WO.skip rfl rfl (WO.skip rfl rfl (WO.pure (v:=.bool true) rfl (WO.nil (zN (WC.cond_true rfl (WC.seq (WC.ops (WO.mv rfl (WO.mv rfl (WO.mv rfl (WO.nil (zN (WC.ret ?_)))))))))))))))))
  rw[bad (.inl h8)]
  exact⟨_,_,rfl,rfl,_,rfl,hQ.kq K3,K3⟩
 have h8:¬8≤(tgQ q f).length:=fun e=>h (Int.ofNat_le.2 e)
 refine WO.mv rfl (WO.take rfl rfl (WO.mv rfl (WO.take rfl rfl (WO.mv rfl (WO.take rfl rfl ?_)))))
 refine WO.fcall_ex (vs:=[.slice ad q.length q.length,.int .u64 (.ofNat g)]) rfl rfl (rhld_run (n:=n) hh.toDHk hn hq (hQ.kq K3)) ?_
 rintro u4 ⟨t4,n4⟩ ⟨R4,k4⟩
 dsimp only at R4 k4
 have K4:=K3.trans k4
 obtain⟨ad4,rfl,_⟩:=R4.get
 refine WO.take rfl rfl (WO.len rfl (WO.take rfl rfl (WO.geqS rfl rfl (fun h=>?_) (fun h=>?_))))
 ·have h9:8≤(hdQ q g).length:=Int.ofNat_le.1 h
  refine WO.pure (v:=.bool true) rfl (WO.nil (zN (WC.cond_true rfl (WC.seq (WC.ops (WO.mv rfl (WO.mv rfl (WO.mv rfl (WO.nil (zN (WC.ret ?_)))))))))))
  rw[bad (.inr h9)]
  exact⟨_,_,rfl,rfl,_,rfl,hQ.kq K4,K4⟩
 have h9:¬8≤(hdQ q g).length:=fun e=>h (Int.ofNat_le.2 e)
 refine WO.pure (v:=.bool false) rfl (WO.nil (zN (WC.cond_false rfl (WC.skip (zN ?_)))))
 exact good (by omega) K4 rfl rfl rfl rfl
def brF(q:List Ti)(f g:Nat):List Ti:=q.filter fun c=>decide (c.1≠f∨c.2.1≠g)
theorem rbreak_run{hk:List (HookF Ar)}(hh:EHk hk){n:Nat}{v:Value}(hn:1001≤n)(hq:q.length≤900)(hlo:lo≤nx)(hQ:RowQ lo tbl nx v q) :
  ∃u h',RW hk (n+4) 9 [v,.int .u64 (.ofNat f),.int .u64 (.ofNat g)] ⟨tbl,nx⟩=some (u,h')∧(∃v',u=pairV v' (if hasW (tgQ q f) g=true then 0 else 8)∧RowQ lo h'.tbl h'.next v' (if hasW (tgQ q f) g=true then brF q f g else q)∧Kq tbl nx h'.tbl h'.next):=by
 obtain⟨ad,rfl,hrow⟩:=hQ.get
 refine run_fn hh.brk frBreak (zL rfl) ?_
 dsimp only[irBreak,argsE]
 refine WC.seq (WC.ops (WO.mv rfl (WO.mv rfl (WO.nil (zN (WC.seq (WC.seq (WC.ops (WO.mv rfl (WO.mv rfl ?_))))))))))
 refine WO.fcall_ex (vs:=[.slice ad q.length q.length,.int .u64 (.ofNat f)]) rfl rfl (rtgt_run (n:=n) hh.toDHk hn hq hQ) ?_
 rintro u ⟨t1,n1⟩ ⟨R1,k1⟩
 dsimp only at R1 k1
 have hlT:=tgtD_len (f:=f) q q.length []
 rw[List.length_nil] at hlT
 refine WO.mv rfl ?_
 refine WO.fcall_ex (vs:=[u,.int .u64 (.ofNat g)]) rfl rfl (rhas_run (n:=n+2) (w:=g) hh.has (by omega) (by omega) R1) ?_
 rintro u2 ⟨t2,n2⟩ ⟨rfl,k2⟩
 dsimp only at k2
 have K2:=k1.trans k2
 have g2:nx≤n2:=K2.1
 have e1:((tgtD q.length f q []).any fun c=>decide (c.1=g))=hasW (tgQ q f) g:=rfl
 rw[e1]
 cases hb:hasW (tgQ q f) g with
 |false =>
  refine WO.pure (v:=.bool true) rfl (WO.nil (zN (WC.cond_true rfl (WC.seq (WC.ops (WO.mv rfl (WO.mv rfl (WO.mv rfl (WO.nil (zN (WC.ret ?_)))))))))))
  exact⟨_,_,rfl,rfl,_,rfl,hQ.kq K2,K2⟩
 |true =>
 refine WO.pure (v:=.bool false) rfl (WO.nil (zN (WC.cond_false rfl (WC.skip (zN (WC.seq (WC.ops (WO.mv rfl (WO.nil (zN (WC.seq (WC.seq (WC.ops (WO.mv rfl (WO.len rfl (WO.mv rfl (WO.nil (zN (WC.block ?_)))))))))))))))))))
 refine WC.loop (fun y e tb nb=>∃i v',i+y=q.length∧e 1=some (.int .u64 (.ofNat f))∧e 2=some (.int .u64 (.ofNat g))∧e 8=some v'∧e 18=some (.slice ad q.length q.length)∧e 19=some (vI q.length)∧e 20=some (vI i)∧RowQ n2 tb nb v' (brF (q.take i) f g)∧Kq t2 n2 tb nb) (k:=q.length) (by omega)
  ⟨0,.slice none 0 0,by omega,rfl,rfl,rfl,rfl,rfl,rfl,.inl ⟨rfl,rfl⟩,Kq.refl⟩ ?_
 rintro y e tb nb ⟨i,v',hiq,e1,e2,e8,e18,e19,e20,R,K⟩
 dsimp only at e1 e2 e8 e18 e19 e20
 refine WC.seq (WC.ops (WO.lssS e20 e19 (fun hz=>?_) (fun hz=>?_)))
 ·have hi:i<q.length:=by simp only[zO] at hz;omega
  obtain⟨c,hc⟩:∃c,q[i]? = some c:=⟨q[i],List.getElem?_eq_getElem hi⟩
  obtain⟨r,hr1,hr2,rfl,hr4⟩:=hrow (fun e=>by rw[e] at hi;simp at hi)
  have hrb:=(K.2 r (by omega)).trans ((K2.2 r hr2).trans hr4)
  have hts:q.take (i+1)=q.take i++[c]:=by rw[List.take_add_one,hc];rfl
  have hti:(brF (q.take i) f g).length≤1000:=by
   refine Nat.le_trans (List.length_filter_le ..) ?_
   rw[List.length_take];omega
  refine WO.nil (zN (WC.seq (WC.cond_true rfl (WC.skip (zN (WC.seq (WC.block (WC.seq (WC.ops ?_)))))))))
  refine WO.idxL (b:=r) (o:=0) (len:=q.length) (c:=q.length) (sp:=none) (j:=.i64) (z:=Int.ofNat i) (n:=i) e18 e20 rfl hi ?_
  refine WO.load (ob:=.grown 3 103 (tiC q)) (v:=.agg ⟨tiV c⟩) rfl hrb rfl (tiC_get hc) rfl (WO.nstW rfl (WO.nil (zN ?_)))
  have gb:n2≤nb:=K.1
  have KA:Kq t2 n2 ((nb,AObj.cells (tiV c))::tb) (nb+1):=K.cons K.1 (by omega)
  have RA:=R.kq (Kq.refl.cons (k:=nb) (m:=nb+1) (o:=.cells (tiV c)) (Nat.le_refl _) (Nat.le_succ _))
  have hcell:look nb ((nb,AObj.cells (tiV c))::tb)=some (.cells (tiV c)):=by rw[zC,if_pos rfl]
  generalize((nb,AObj.cells (tiV c))::tb)=TA at KA RA hcell ⊢
  have keep:∀{e:List (Nat×Value)},(c.1≠f∨c.2.1≠g)→look 1 e=some (.int .u64 (.ofNat f))→look 2 e=some (.int .u64 (.ofNat g))→look 8 e=some v'→look 18 e=some (.slice (some ⟨r,0,none⟩) q.length q.length)→look 19 e=some (vI q.length)→look 20 e=some (vI i)→look 10 e=some (.pointer (some ⟨nb,0,none⟩)) →
    WO (RW hk (n+3)) [(none,.pure 34 (.mv (.t 8))),(none,.load 35 3 true (.t 10)),(none,.bslice 36 1 3 [.int .u64 (.ofNat 0),.int .u64 (.ofNat 0),.int .u64 (.ofNat 0)] [(0,.t 35)]),(none,.append 37 3 24 103 (.t 34) (.t 36)),(none,.pure 8 (.mv (.t 37)))] e ⟨[],TA,nb+1⟩ fun e' m'=>∃v2 tb',m'=⟨[],tb',nb+3⟩∧look 1 e'=some (.int .u64 (.ofNat f))∧look 2 e'=some (.int .u64 (.ofNat g))∧look 8 e'=some v2∧look 18 e'=some (.slice (some ⟨r,0,none⟩) q.length q.length)∧look 19 e'=some (vI q.length)∧look 20 e'=some (vI i)∧RowQ n2 tb' (nb+3) v2 (brF (q.take (i+1)) f g)∧Kq t2 n2 tb' (nb+3):=by
   intro e hd a1 a2 a8 a18 a19 a20 a10
   refine WO.mv (by exact a8) (WO.load (ob:=.cells (tiV c)) (v:=.agg ⟨tiV c⟩) (by exact a10) hcell rfl rfl rfl ?_)
   refine WO.app3 (c:=c) rfl rfl RA hti (fun td Rd Kd=>?_) (by omega)
   refine WO.mv rfl (WO.nil ⟨_,td,rfl,by exact a1,by exact a2,rfl,by exact a18,by exact a19,by exact a20,?_,?_⟩)
   ·have hd2:brF (q.take (i+1)) f g=brF (q.take i) f g++[c]:=by
     rw[hts];unfold brF;rw[List.filter_append];simp[hd]
    rw[hd2];exact Rd
   ·exact⟨by omega,fun p hp=>(Kd p (by omega) (.inl hp)).trans (KA.2 p hp)⟩
  refine WC.seq (WC.ops (WO.fadd rfl (WO.load (ob:=.cells (tiV c)) (v:=.int .u64 (.ofNat c.1)) rfl hcell rfl rfl rfl (WO.mv (by exact e1) (WO.neqS rfl rfl (fun h=>?_) (fun h=>?_))))))
  ·have h:c.1≠f:=fun e=>h (by rw[e])
   refine WO.mv rfl (WO.skip rfl rfl (WO.skip rfl rfl (WO.skip rfl rfl (WO.skip rfl rfl (WO.pure (v:=.bool true) rfl (WO.nil (zN (WC.cond_true rfl (WC.ops ?_)))))))))
   refine(keep (.inl h) (by exact e1) (by exact e2) (by exact e8) (by exact e18) (by exact e19) (by exact e20) rfl).mono ?_
   rintro e' m' ⟨v2,td,rfl,a1,a2,a8,a18,a19,a20,Rd,Kd⟩
   refine zB (zN (WC.ops (WO.add (by exact a20) rfl (by simp only[zO];omega) (by simp only[zO];omega) (WO.mv rfl (WO.nil ?_)))))
   exact⟨y-1,by omega,rfl,i+1,v2,by omega,by exact a1,by exact a2,by exact a8,by exact a18,by exact a19,rfl,Rd,Kd⟩
  ·have h:c.1=f:=Int.ofNat.inj h
   refine WO.mv rfl (WO.take rfl rfl (WO.fadd rfl (WO.take rfl rfl (WO.load (ob:=.cells (tiV c)) (v:=.int .u64 (.ofNat c.2.1)) rfl hcell rfl rfl rfl (WO.take rfl rfl (WO.mv (by exact e2) (WO.take rfl rfl (WO.neqS rfl rfl (fun h'=>?_) (fun h'=>?_)))))))))
   ·have h':c.2.1≠g:=fun e=>h' (by rw[e])
    refine WO.pure (v:=.bool true) rfl (WO.nil (zN (WC.cond_true rfl (WC.ops ?_))))
    refine(keep (.inr h') (by exact e1) (by exact e2) (by exact e8) (by exact e18) (by exact e19) (by exact e20) rfl).mono ?_
    rintro e' m' ⟨v2,td,rfl,a1,a2,a8,a18,a19,a20,Rd,Kd⟩
    refine zB (zN (WC.ops (WO.add (by exact a20) rfl (by simp only[zO];omega) (by simp only[zO];omega) (WO.mv rfl (WO.nil ?_)))))
    exact⟨y-1,by omega,rfl,i+1,v2,by omega,by exact a1,by exact a2,by exact a8,by exact a18,by exact a19,rfl,Rd,Kd⟩
   ·have h':c.2.1=g:=Int.ofNat.inj h'
    have hd2:brF (q.take (i+1)) f g=brF (q.take i) f g:=by
     rw[hts];unfold brF;rw[List.filter_append];simp[h,h']
    refine WO.pure (v:=.bool false) rfl (WO.nil (zN (WC.cond_false rfl (WC.skip (zB (zN (WC.ops (WO.add (by exact e20) rfl (by simp only[zO];omega) (by simp only[zO];omega) (WO.mv rfl (WO.nil ?_))))))))))
    exact⟨y-1,by omega,rfl,i+1,v',by omega,by exact e1,by exact e2,by exact e8,by exact e18,by exact e19,rfl,by rw[hd2];exact RA,KA⟩
 ·have hi:i=q.length:=by simp only[zO] at hz;omega
  refine WO.nil (zN (WC.seq (WC.cond_false rfl (WC.exit (thenC_exit (blockC_exit ?_))))))
  rw[hi,List.take_length] at R
  obtain⟨ad',rfl,_⟩:=R.get
  refine zN (WC.seq (WC.ops (WO.mv (m:=⟨[],tb,nb⟩) (by exact e8) (WO.mv rfl (WO.mv rfl (WO.nil (zN (WC.ret ?_))))))))
  exact⟨_,_,rfl,rfl,_,rfl,R.wk (by omega),K2.trans K⟩
end Go.AI
/- Ties: who is held by whom, by plain lists. -/
namespace Go.AI
variable {f g k w z n:Nat}{L M out:List (Nat×Nat)}{q:List Ti}
theorem insK_le{d:Nat×Nat}(h:d.2≤z):insK (d::L) w z=d::insK L w z:=by
 unfold insK
 have e:insI z (d::L)=insI z L+1:=by
  show(if d.2≤z then insI z L+1 else 0)=_
  rw[if_pos h]
 rw[e];rfl
theorem insK_gt{d:Nat×Nat}(h:¬d.2≤z):insK (d::L) w z=(w,z)::d::L:=by
 unfold insK
 have e:insI z (d::L)=0:=by
  show(if d.2≤z then insI z L+1 else 0)=_
  rw[if_neg h]
 rw[e];rfl
def Srt(L:List (Nat×Nat)):Prop:=L.Pairwise fun a b=>a.2≤b.2
theorem insK_perm:List.Perm (insK L w z) ((w,z)::L):=by
 unfold insK
 refine List.perm_middle.trans (List.Perm.cons _ ?_)
 rw[List.take_append_drop]
theorem Srt.ins:∀{L:List (Nat×Nat)},Srt L→Srt (insK L w z)
 |[],_=>List.pairwise_singleton _ _
 |d::r,h=>by
  obtain⟨h1,h2⟩:=List.pairwise_cons.1 h
  by_cases hd:d.2≤z
  ·rw[insK_le hd]
   refine List.pairwise_cons.2 ⟨fun c hc=>?_,Srt.ins h2⟩
   rcases List.mem_cons.1 (insK_perm.mem_iff.1 hc) with rfl|hc
   ·exact hd
   ·exact h1 c hc
  ·rw[insK_gt hd]
   refine List.pairwise_cons.2 ⟨fun c hc=>?_,h⟩
   rcases List.mem_cons.1 hc with rfl|hc
   ·show z≤c.2;omega
   ·have:=h1 c hc
    show z≤c.2;omega
theorem insK_top:∀{L:List (Nat×Nat)},(∀c,c∈L→¬c.2≤z)→insK L w z=(w,z)::L
 |[],_=>rfl
 |d::r,h=>insK_gt (h d (List.mem_cons_self ..))
theorem dropF_cons_ne{d:Nat×Nat}(h:d.1≠g):dropF (d::L) g=d::dropF L g:=by
 unfold dropF
 rw[List.filter_cons_of_pos (by simp[h])]
theorem dropF_cons_eq{d:Nat×Nat}(h:d.1=g):dropF (d::L) g=dropF L g:=by
 unfold dropF
 rw[List.filter_cons_of_neg (by simp[h])]
theorem dropF_ins_same:∀{L:List (Nat×Nat)},dropF (insK L g z) g=dropF L g
 |[]=>dropF_cons_eq rfl
 |d::r=>by
  by_cases hd:d.2≤z
  ·rw[insK_le hd]
   by_cases hg:d.1=g
   ·rw[dropF_cons_eq hg,dropF_cons_eq hg,dropF_ins_same]
   ·rw[dropF_cons_ne hg,dropF_cons_ne hg,dropF_ins_same]
  ·rw[insK_gt hd,dropF_cons_eq rfl]
theorem dropF_ins:∀{L:List (Nat×Nat)},Srt L→w≠g→dropF (insK L w z) g=insK (dropF L g) w z
 |[],_,hw=>dropF_cons_ne hw
 |d::r,h,hw=>by
  obtain⟨h1,h2⟩:=List.pairwise_cons.1 h
  by_cases hd:d.2≤z
  ·rw[insK_le hd]
   by_cases hg:d.1=g
   ·rw[dropF_cons_eq hg,dropF_cons_eq hg,dropF_ins h2 hw]
   ·rw[dropF_cons_ne hg,dropF_cons_ne hg,insK_le hd,dropF_ins h2 hw]
  ·rw[insK_gt hd,dropF_cons_ne hw,insK_top]
   intro c hc
   have hc':c∈d::r:=(List.mem_filter.1 hc).1
   rcases List.mem_cons.1 hc' with rfl|hc'
   ·exact hd
   ·have:=h1 c hc';omega
def insA:List (Nat×Nat)→List (Nat×Nat)→List (Nat×Nat)
 |out,[]=>out
 |out,c::r=>insA (insK out c.1 c.2) r
theorem insA_app:∀{l:List (Nat×Nat)} {out:List (Nat×Nat)} {c:Nat×Nat},insA out (l++[c])=insK (insA out l) c.1 c.2
 |[],_,_=>rfl
 |d::r,out,c=>by
  show insA (insK out d.1 d.2) (r++[c])=_
  rw[insA_app];rfl
theorem insA_perm:∀{l:List (Nat×Nat)} {out:List (Nat×Nat)},List.Perm (insA out l) (out++l)
 |[],out=>by
  show List.Perm out (out++[])
  rw[List.append_nil]
 |d::r,out=>by
  show List.Perm (insA (insK out d.1 d.2) r) _
  refine insA_perm.trans ?_
  exact(List.Perm.append_right r insK_perm).trans List.perm_middle.symm
theorem insA_drop:∀{l:List (Nat×Nat)} {out:List (Nat×Nat)},Srt out→insA (dropF out g) (dropF l g)=dropF (insA out l) g
 |[],_,_=>rfl
 |c::r,out,h=>by
  show _=dropF (insA (insK out c.1 c.2) r) g
  by_cases hc:c.1=g
  ·rw[dropF_cons_eq hc,← insA_drop h.ins]
   obtain⟨c1,c2⟩:=c
   dsimp only at hc
   subst hc
   rw[dropF_ins_same]
  ·rw[dropF_cons_ne hc,← insA_drop h.ins,dropF_ins h hc];rfl
def tl(q:List Ti)(f:Nat):List (Nat×Nat):=(q.filter fun c=>decide (c.1=f)).map Prod.snd
def Tg(q:List Ti)(f:Nat):List (Nat×Nat):=insA [] (tl q f)
def sw(c:Ti):Ti:=(c.2.1,c.1,c.2.2)
def Hd(q:List Ti)(f:Nat):List (Nat×Nat):=Tg (q.map sw) f
theorem tl_mem{c:Nat×Nat}:c∈tl q f↔(f,c.1,c.2)∈q:=by
 unfold tl
 rw[List.mem_map]
 constructor
 ·rintro⟨d,hd,rfl⟩
  obtain⟨h1,h2⟩:=List.mem_filter.1 hd
  have:d.1=f:=of_decide_eq_true h2
  rw[← this];exact h1
 ·intro h
  exact⟨_,List.mem_filter.2 ⟨h,decide_eq_true rfl⟩,rfl⟩
theorem Tg_mem{c:Nat×Nat}:c∈Tg q f↔(f,c.1,c.2)∈q:=by
 unfold Tg
 rw[insA_perm.mem_iff,List.nil_append,tl_mem]
theorem sw_mem{c:Ti}:c∈q.map sw↔sw c∈q:=by
 rw[List.mem_map]
 constructor
 ·rintro⟨d,hd,rfl⟩;exact hd
 ·intro h;exact⟨_,h,rfl⟩
theorem Tg_add:Tg (q++[(f,g,z)]) k=if f=k then insK (Tg q k) g z else Tg q k:=by
 unfold Tg tl
 rw[List.filter_append]
 by_cases h:f=k
 ·rw[if_pos h,List.filter_cons_of_pos (by simp[h]),List.filter_nil,List.map_append]
  exact insA_app
 ·rw[if_neg h,List.filter_cons_of_neg (by simp[h]),List.filter_nil,List.append_nil]
theorem Hd_add:Hd (q++[(f,g,z)]) k=if g=k then insK (Hd q k) f z else Hd q k:=by
 unfold Hd
 rw[List.map_append]
 exact Tg_add
theorem tl_brk_same:tl (brF q f g) f=dropF (tl q f) g:=by
 unfold tl brF dropF
 rw[List.filter_filter,List.filter_map,List.filter_filter]
 refine congrArg _ (List.filter_congr fun c hc=>?_)
 simp only[Function.comp]
 by_cases h:c.1=f
 ·simp[h]
 ·simp[h]
theorem tl_brk_ne(h:f≠k):tl (brF q f g) k=tl q k:=by
 unfold tl brF
 rw[List.filter_filter]
 refine congrArg _ (List.filter_congr fun c hc=>?_)
 by_cases h2:c.1=k
 ·have:c.1≠f:=fun e=>h (e.symm.trans h2)
  simp[h2,show k≠f from fun e=>h e.symm]
 ·simp[h2]
theorem Tg_brk:Tg (brF q f g) k=if f=k then dropF (Tg q k) g else Tg q k:=by
 unfold Tg
 by_cases h:f=k
 ·subst h
  rw[if_pos rfl,tl_brk_same,← insA_drop (by exact List.Pairwise.nil)];rfl
 ·rw[if_neg h,tl_brk_ne h]
theorem brF_sw:(brF q f g).map sw=brF (q.map sw) g f:=by
 unfold brF
 rw[List.filter_map]
 refine congrArg _ (List.filter_congr fun c hc=>?_)
 simp only[Function.comp,sw]
 exact decide_eq_decide.2 Or.comm
theorem Hd_brk:Hd (brF q f g) k=if g=k then dropF (Hd q k) f else Hd q k:=by
 unfold Hd
 rw[brF_sw]
 exact Tg_brk
structure TiOk(q:List Ti)(k:Nat):Prop where
 ok:∀c,c∈q→c.1≠c.2.1∧(1≤c.1∧c.1≤k)∧(1≤c.2.1∧c.2.1≤k)∧c.2.2≠0
 nd:(q.map fun c=>(c.1,c.2.1)).Nodup
theorem TiOk.sw(h:TiOk q k):TiOk (q.map sw) k:=by
 refine⟨fun c hc=>?_,?_⟩
 ·obtain⟨h1,h2,h3,h4⟩:=h.ok _ (sw_mem.1 hc)
  exact⟨fun e=>h1 e.symm,h3,h2,h4⟩
 ·have h1:=h.nd
  rw[List.map_map]
  have e:(fun c:Ti=>(c.1,c.2.1))∘AI.sw=(fun p:Nat×Nat=>(p.2,p.1))∘fun c:Ti=>(c.1,c.2.1):=rfl
  rw[e,← List.map_map]
  exact List.Pairwise.map _ (fun a b hab e=>hab (by
   obtain⟨a1,a2⟩:=a
   obtain⟨b1,b2⟩:=b
   simp only[Prod.mk.injEq] at e ⊢
   exact⟨e.2,e.1⟩)) h1
theorem TiOk.uni(h:TiOk q k):Uni (Tg q f):=by
 have h1:(Tg q f).Perm (tl q f):=by
  have:=insA_perm (l:=tl q f) (out:=[])
  exact this
 unfold Uni
 refine(h1.map Prod.fst).nodup_iff.2 ?_
 have h2:((q.filter fun c=>decide (c.1=f)).map fun c=>(c.1,c.2.1)).Nodup:=(List.filter_sublist.map _).nodup h.nd
 unfold tl
 rw[List.map_map]
 have e:(q.filter fun c=>decide (c.1=f)).map (fun c=>(c.1,c.2.1))=((q.filter fun c=>decide (c.1=f)).map (Prod.fst∘Prod.snd)).map fun y=>(f,y):=by
  rw[List.map_map]
  refine List.map_congr_left fun c hc=>?_
  have:c.1=f:=of_decide_eq_true (List.mem_filter.1 hc).2
  show(c.1,c.2.1)=(f,c.2.1)
  rw[this]
 rw[e] at h2
 exact List.Pairwise.of_map _ (fun a b hab e=>hab (by rw[e])) h2
theorem TiOk.uniH(h:TiOk q k):Uni (Hd q f):=h.sw.uni
theorem tgtD_eq:∀{q:List Ti} {out:List (Nat×Nat)},(∀c,c∈q→c.2.1≠0∧c.2.2≠0)→(q.map fun c=>(c.1,c.2.1)).Nodup→(∀c,c∈q→c.1=f→∀d,d∈out→d.1≠c.2.1)→out.length+q.length≤n→tgtD n f q out=insA out (tl q f)
 |[],_,_,_,_,_=>rfl
 |c::r,out,h0,hn,hd,hl=>by
  obtain⟨n1,n2⟩:=List.nodup_cons.1 hn
  have h0r:∀d,d∈r→d.2.1≠0∧d.2.2≠0:=fun d hd=>h0 d (List.mem_cons_of_mem _ hd)
  rw[List.length_cons] at hl
  show tgtD n f r (if c.1=f then addD n out c.2.1 c.2.2 else out)=_
  by_cases hc:c.1=f
  ·have hk:chkN out n c.2.1 c.2.2=0:=by
    obtain⟨a1,a2⟩:=h0 c (List.mem_cons_self ..)
    unfold chkN
    rw[if_neg (fun h=>h.elim a1 a2),if_neg,if_neg (by omega)]
    intro h
    obtain⟨d,d1,d2⟩:=List.any_eq_true.1 h
    exact hd c (List.mem_cons_self ..) hc d d1 (of_decide_eq_true d2)
   have e:tl (c::r) f=c.2::tl r f:=by
    unfold tl
    rw[List.filter_cons_of_pos (by simp[hc])];rfl
   rw[if_pos hc,e]
   unfold addD
   rw[if_pos hk]
   refine tgtD_eq h0r n2 (fun d hd1 hd2 y hy=>?_) (by rw[insK_len];omega)
   rcases List.mem_cons.1 (insK_perm.mem_iff.1 hy) with rfl|hy
   ·intro e2
    refine n1 (List.mem_map.2 ⟨d,hd1,?_⟩)
    show(d.1,d.2.1)=(c.1,c.2.1)
    rw[hc,hd2,← e2]
   ·exact hd d (List.mem_cons_of_mem _ hd1) hd2 y hy
  ·have e:tl (c::r) f=tl r f:=by
    unfold tl
    rw[List.filter_cons_of_neg (by simp[hc])]
   rw[if_neg hc,e]
   exact tgtD_eq h0r n2 (fun d hd1=>hd d (List.mem_cons_of_mem _ hd1)) (by omega)
theorem hldD_sw:∀{q:List Ti} {out:List (Nat×Nat)},hldD n f q out=tgtD n f (q.map sw) out
 |[],_=>rfl
 |c::r,out=>by
  show hldD n f r _=tgtD n f (r.map sw) _
  rw[hldD_sw];rfl
theorem TiOk.tg(h:TiOk q k):tgQ q f=Tg q f :=
 tgtD_eq (fun c hc=>⟨by have:=(h.ok c hc).2.2.1;omega,(h.ok c hc).2.2.2⟩) h.nd (fun _ _ _ _ hd=>by cases hd) (by simp)
theorem TiOk.hd(h:TiOk q k):hdQ q f=Hd q f:=by
 show hldD q.length f q []=_
 rw[hldD_sw]
 have e:=h.sw.tg (f:=f)
 unfold tgQ at e
 rw[List.length_map] at e
 exact e
theorem hasW_iff:hasW (Tg q f) g=true↔∃z,(f,g,z)∈q:=by
 unfold hasW
 rw[List.any_eq_true]
 constructor
 ·rintro⟨c,h1,h2⟩
  have:c.1=g:=of_decide_eq_true h2
  rw[← this]
  exact⟨c.2,Tg_mem.1 h1⟩
 ·rintro⟨z,h⟩
  exact⟨(g,z),Tg_mem.2 h,decide_eq_true rfl⟩
theorem hasH_iff:hasW (Hd q g) f=true↔∃z,(f,g,z)∈q:=by
 unfold Hd
 rw[hasW_iff]
 constructor
 ·rintro⟨z,h⟩;exact⟨z,sw_mem.1 h⟩
 ·rintro⟨z,h⟩;exact⟨z,sw_mem.2 h⟩
theorem has_sym:hasW (Hd q g) f=hasW (Tg q f) g:=Bool.eq_iff_iff.2 (hasH_iff.trans hasW_iff.symm)
theorem TiOk.add(h:TiOk q k)(h1:f≠g)(h2:1≤f∧f≤k)(h3:1≤g∧g≤k)(h4:z≠0)(h5:hasW (Tg q f) g≠true):TiOk (q++[(f,g,z)]) k:=by
 refine⟨fun c hc=>?_,?_⟩
 ·rcases List.mem_append.1 hc with hc|hc
  ·exact h.ok c hc
  ·rw[List.mem_singleton] at hc;subst hc
   exact⟨h1,h2,h3,h4⟩
 ·rw[List.map_append,List.nodup_append]
  refine⟨h.nd,by simp,fun a ha b hb e=>h5 (hasW_iff.2 ?_)⟩
  obtain⟨c,c1,c2⟩:=List.mem_map.1 ha
  simp only[List.map_cons,List.map_nil,List.mem_singleton] at hb
  rw[e,hb] at c2
  simp only[Prod.mk.injEq] at c2
  refine⟨c.2.2,?_⟩
  rw[← c2.1,← c2.2];exact c1
theorem TiOk.brk(h:TiOk q k):TiOk (brF q f g) k :=
 ⟨fun c hc=>h.ok c (List.mem_filter.1 hc).1,(List.filter_sublist.map _).nodup h.nd⟩
theorem tie_mk{i j:Nat}(h:TiOk q k):tieE i j z (Tg q (i+1)) (Hd q (j+1))=mkE q (i+1) (j+1) z:=by
 unfold tieE mkE
 rw[h.tg,h.hd]
 by_cases hz:z=0
 ·rw[if_pos hz,if_pos hz]
 rw[if_neg hz,if_neg hz]
 by_cases hij:i=j
 ·rw[if_pos hij,if_pos (show i+1=j+1 by rw[hij])]
 rw[if_neg hij,if_neg (show¬i+1=j+1 by omega)]
 have e1:((Tg q (i+1)).any fun p=>decide (p.1=j+1))=hasW (Tg q (i+1)) (j+1):=rfl
 have e2:((Hd q (j+1)).any fun p=>decide (p.1=i+1))=hasW (Tg q (i+1)) (j+1):=has_sym
 have c1:¬(j+1=0∨z=0):=by omega
 have c2:¬(i+1=0∨z=0):=by omega
 unfold chkN
 rw[e1,e2]
 simp only[if_neg c1,if_neg c2]
 cases hasW (Tg q (i+1)) (j+1) with
 |true=>simp
 |false =>
  by_cases h1:8≤(Tg q (i+1)).length
  ·simp[h1]
  ·by_cases h2:8≤(Hd q (j+1)).length
   ·simp[h1,h2]
   ·simp[h1,h2]
end Go.AI
/- Ties, as they lie in the nodes' pages. -/
namespace Go.AI
variable {x:Ar}{i j k m z P R:Nat}{q:List Ti}
structure Kn(x:Ar)(k:Nat)(q:List Ti):Prop where
 ref:x.refuse<9223372036854775808
 pg:∀i,i<k→∃P,pgAt x.pages (i+2)=some P∧pgW P 32 8=i+1∧tgP P=Tg q (i+1)∧hdP P=Hd q (i+1)
 ok:TiOk q k
theorem tg_far{P Q:Nat}(h:∀o,640≤o→o+8≤768→pgW P o 8=pgW Q o 8):tgP P=tgP Q :=
 pgL_congr (off:=640) (n:=8) (i:=0) fun o h1 h2=>h o (by omega) (by omega)
theorem hd_far{P Q:Nat}(h:∀o,768≤o→o+8≤896→pgW P o 8=pgW Q o 8):hdP P=hdP Q :=
 pgL_congr (off:=768) (n:=8) (i:=0) fun o h1 h2=>h o (by omega) (by omega)
theorem Kn.cut(h:Kn x k q)(hi:i<k)(hj:j<k)(hp:pgAt x.pages (i+2)=some P)(hr:pgAt x.pages (j+2)=some R)(hb:hasW (Tg q (i+1)) (j+1)=true):Kn (cutX x i j P R) k (brF q (i+1) (j+1)):=by
 obtain⟨P',p1,p2,p3,p4⟩:=h.pg i hi
 obtain⟨R',r1,r2,r3,r4⟩:=h.pg j hj
 obtain rfl:P=P':=Option.some.inj (hp.symm.trans p1)
 obtain rfl:R=R':=Option.some.inj (hr.symm.trans r1)
 have hne:i≠j:=by
  obtain⟨z,hz⟩:=hasW_iff.1 hb
  have:=(h.ok.ok _ hz).1
  intro e;subst e;exact this rfl
 have hu:Uni (tgP P):=by rw[p3];exact h.ok.uni
 have hv:Uni (hdP R):=by rw[r4];exact h.ok.uniH
 have hb1:((pgL P 640 (128 / 16) 0).any fun c=>decide (c.1=j+1))=true:=by
  show hasW (tgP P) (j+1)=true
  rw[p3];exact hb
 have hb2:((pgL R 768 (128 / 16) 0).any fun c=>decide (c.1=i+1))=true:=by
  show hasW (hdP R) (i+1)=true
  rw[r4,has_sym];exact hb
 refine⟨h.ref,fun m hm=>?_,h.ok.brk⟩
 by_cases e1:m=i
 ·subst e1
  refine⟨dropP P 640 128 (j+1),(pX_ne (by omega)).trans (pX_at hp),(drop_out (off:=640) (s:=128) hu hb1 (.inl (by decide))).trans p2,?_,?_⟩
  ·refine(drop_read (off:=640) (s:=128) hu hb1).trans ?_
   rw[Tg_brk,if_pos rfl,← p3];rfl
  ·rw[Hd_brk,if_neg (by omega),← p4]
   exact hd_far fun o h1 _=>drop_out (off:=640) (s:=128) hu hb1 (.inr (by omega))
 by_cases e2:m=j
 ·subst e2
  refine⟨dropP R 768 128 (i+1),pX_at ((pX_ne (by omega)).trans hr),(drop_out (off:=768) (s:=128) hv hb2 (.inl (by decide))).trans r2,?_,?_⟩
  ·rw[Tg_brk,if_neg (by omega),← r3]
   exact tg_far fun o _ h2=>drop_out (off:=768) (s:=128) hv hb2 (.inl h2)
  ·refine(drop_read (off:=768) (s:=128) hv hb2).trans ?_
   rw[Hd_brk,if_pos rfl,← r4];rfl
 obtain⟨M,m1,m2,m3,m4⟩:=h.pg m hm
 refine⟨M,(pX_ne (by omega)).trans ((pX_ne (by omega)).trans m1),m2,?_,?_⟩
 ·rw[Tg_brk,if_neg (by omega)];exact m3
 ·rw[Hd_brk,if_neg (by omega)];exact m4
theorem tieE_zero{i j z:Nat}{T H:List (Nat×Nat)}(h:tieE i j z T H=0):z≠0∧i≠j∧chkN T 8 (j+1) z=0∧chkN H 8 (i+1) z=0:=by
 unfold tieE at h
 split at h
 ·cases h
 rename_i h1
 split at h
 ·cases h
 rename_i h2
 split at h
 ·rename_i h3;exact absurd h h3
 rename_i h3
 exact⟨h1,h2,Classical.not_not.1 h3,h⟩
theorem Kn.tie(h:Kn x k q)(hk:k≤12)(hi:i<k)(hj:j<k)(hp:pgAt x.pages (i+2)=some P)(hr:pgAt x.pages (j+2)=some R)(hz:z<18446744073709551616)(hb:tieE i j z (tgP P) (hdP R)=0):Kn (tieX x i j z P R) k (q++[(i+1,j+1,z)]):=by
 obtain⟨P',p1,p2,p3,p4⟩:=h.pg i hi
 obtain⟨R',r1,r2,r3,r4⟩:=h.pg j hj
 obtain rfl:P=P':=Option.some.inj (hp.symm.trans p1)
 obtain rfl:R=R':=Option.some.inj (hr.symm.trans r1)
 obtain⟨z0,hne,hb1,hb2⟩:=tieE_zero hb
 have hb1':chkN (pgL P 640 (128 / 16) 0) (128 / 16) (j+1) z=0:=hb1
 have hb2':chkN (pgL R 768 (128 / 16) 0) (128 / 16) (i+1) z=0:=hb2
 have hno:hasW (Tg q (i+1)) (j+1)≠true:=by
  intro hh
  obtain⟨_,_,h3,_⟩:=chk_zero hb1
  rw[p3] at h3
  obtain⟨c,c1,c2⟩:=List.any_eq_true.1 hh
  exact h3 c c1 (of_decide_eq_true c2)
 refine⟨h.ref,fun m hm=>?_,h.ok.add (by omega) (by omega) (by omega) z0 hno⟩
 by_cases e1:m=i
 ·subst e1
  refine⟨addP P 640 128 (j+1) z,(pX_ne (by omega)).trans (pX_at hp),(add_out (off:=640) (s:=128) hb1' (by omega) hz (.inl (by decide))).trans p2,?_,?_⟩
  ·refine(add_read (off:=640) (s:=128) hb1' (by omega) hz).trans ?_
   rw[Tg_add,if_pos rfl,← p3];rfl
  ·rw[Hd_add,if_neg (by omega),← p4]
   exact hd_far fun o h1 _=>add_out (off:=640) (s:=128) hb1' (by omega) hz (.inr (by omega))
 by_cases e2:m=j
 ·subst e2
  refine⟨addP R 768 128 (i+1) z,pX_at ((pX_ne (by omega)).trans hr),(add_out (off:=768) (s:=128) hb2' (by omega) hz (.inl (by decide))).trans r2,?_,?_⟩
  ·rw[Tg_add,if_neg (by omega),← r3]
   exact tg_far fun o _ h2=>add_out (off:=768) (s:=128) hb2' (by omega) hz (.inl h2)
  ·refine(add_read (off:=768) (s:=128) hb2' (by omega) hz).trans ?_
   rw[Hd_add,if_pos rfl,← r4];rfl
 obtain⟨M,m1,m2,m3,m4⟩:=h.pg m hm
 refine⟨M,(pX_ne (by omega)).trans ((pX_ne (by omega)).trans m1),m2,?_,?_⟩
 ·rw[Tg_add,if_neg (by omega)];exact m3
 ·rw[Hd_add,if_neg (by omega)];exact m4
theorem pgL_zero{off n:Nat}(h:pgW P off 8=0):pgL P off n 0=[]:=by
 cases n with
 |zero=>rfl
 |succ n =>
  unfold pgL
  rw[Nat.zero_mul,Nat.add_zero,if_pos h]
theorem kn_new(h:chkR x k=true):Kn x k []:=by
 unfold chkR at h
 rw[Bool.and_eq_true,blt_iff,decide_eq_true_eq] at h
 refine⟨h.1,fun i hi=>?_,⟨fun c hc=>(by cases hc),List.Pairwise.nil⟩⟩
 have h1:=List.all_eq_true.1 h.2 i (List.mem_range.2 hi)
 unfold nodeR at h1
 cases hp:pgAt x.pages (i+2) with
 |none=>rw[hp] at h1;cases h1
 |some P =>
  rw[hp] at h1
  simp only[Bool.and_eq_true,Nat.beq_eq] at h1
  exact⟨P,rfl,h1.1,pgL_zero h1.2.1,pgL_zero h1.2.2⟩
end Go.AI
/- The law of ties between nodes: what stays, and what one act does. -/
namespace Go.AI
open Go.Proofs
variable {x:Ar}{tbl t' t'':List (Nat×AObj Ar)}{nx n' n'' j a s i k w z f g ty lo lo2 b P R off m:Nat}{L M:List (Nat×Nat)}{q:List Ti}
theorem pv_conv8{env:List (Nat×Value)}{x:Opd}{n:Nat}(hx:evo env x=some (.int .u8 (.ofNat n)))(hn:n<256):peval env (.conv .i64 x)=some (vI n):=by
 have h:wrapF .i64 (Int.ofNat n)=Int.ofNat n:=wrap64 (by simp only[zO];omega) (by simp only[zO];omega)
 simp only[peval,hx,h]
theorem pv_remN{env:List (Nat×Value)}{e:EqK}{x y:Opd}{a b:Nat}(hx:evo env x=some (vI a))(hy:evo env y=some (vI b))(hb:0<b):peval env (.bin .rem e x y)=some (vI (a % b)):=by
 obtain⟨c,rfl⟩:∃c,b=c+1:=⟨b-1,by omega⟩
 have h3:Nat.mod a (c+1)=a % (c+1):=rfl
 simp only[peval,hx,hy,binVal,intBin,divF,if_true,h3,Option.map]
theorem pv_remU8{env:List (Nat×Value)}{e:EqK}{x y:Opd}{a b:Nat}(hx:evo env x=some (.int .u8 (.ofNat a)))(hy:evo env y=some (.int .u8 (.ofNat (b+1)))):peval env (.bin .rem e x y)=some (.int .u8 (.ofNat (a % (b+1)))):=by
 have h3:Nat.mod a (b+1)=a % (b+1):=rfl
 simp only[peval,hx,hy,binVal,intBin,divF,if_true,h3,Option.map]
theorem pv_cvU64{env:List (Nat×Value)}{x:Opd}{v:Nat}(hx:evo env x=some (vI v))(hv:v<18446744073709551616):peval env (.conv .u64 x)=some (.int .u64 (.ofNat v)):=by
 simp only[peval,hx,wrapU_lt hv]
theorem pv_idxW{env:List (Nat×Value)}{x y:Opd}{e b n c i:Nat}(hx:evo env x=some (.slice (some ⟨b,0,none⟩) n c))(hy:evo env y=some (vI i))(h:i<n):peval env (.idxL e x y)=some (.pointer (some ⟨b,0+i*e,none⟩)):=by
 have h1:Nat.blt i n=true:=by rw[Nat.blt_eq];exact h
 have h2:natOf (vI i)=some i:=rfl
 simp only[peval,hx,hy,h2,h1,cond_true]
theorem nodes_get:∀{n s i:Nat},i<n→takeN (nodesC s n) (0+i*12) 12=some (ndN (s+i))
 |0,_,_,h=>absurd h (Nat.not_lt_zero _)
 |n+1,s,0,_=>rfl
 |n+1,s,i+1,h=>by
  have ih:=nodes_get (n:=n) (s:=s+1) (i:=i) (by omega)
  rw[show s+1+i=s+(i+1) by omega] at ih
  rw[show 0+(i+1)*12=0+i*12+1+1+1+1+1+1+1+1+1+1+1+1 by omega]
  exact ih
theorem untie_kn{hk:List (HookF Ar)}(hh:UHk hk){n:Nat}(hn:110≤n)(hk2:k≤12)(hi:i<k)(hj:j<k)(hl:look 2 tbl=some (.ext x))(h2:2<nx)(h:Kn x k q) :
  ∃u h',RW hk (n+7) 8 [vN i,vN j] ⟨tbl,nx⟩=some (u,h')∧(∃x',u=errV (if hasW (Tg q (i+1)) (j+1)=true then 0 else 8)∧Kx 2 tbl nx h'.tbl h'.next∧look 2 h'.tbl=some (.ext x')∧Kn x' k (if hasW (Tg q (i+1)) (j+1)=true then brF q (i+1) (j+1) else q)):=by
 obtain⟨P,p1,p2,p3,p4⟩:=h.pg i hi
 obtain⟨R,r1,r2,r3,r4⟩:=h.pg j hj
 have hne:hasW (tgP P) (j+1)=true→i≠j:=by
  rw[p3]
  intro hb
  obtain⟨z,hz⟩:=hasW_iff.1 hb
  have:=(h.ok.ok _ hz).1
  intro e;subst e;exact this rfl
 obtain⟨u,h',e1,e2,e3,e4⟩:=untie_run hh hn (by omega) (by omega) hl h2 h.ref p1 r1 p2 r2 (by rw[p3];exact h.ok.uni) hne (by rw[p3,r4,has_sym];exact id)
 refine⟨u,h',e1,_,by rw[e2,p3],e3,e4,?_⟩
 rw[p3]
 split
 ·rename_i hb;exact h.cut hi hj p1 r1 hb
 ·exact h
theorem tie_kn{hk:List (HookF Ar)}(hh:UHk hk){n:Nat}(hn:110≤n)(hk2:k≤12)(hi:i<k)(hj:j<k)(hz:z<18446744073709551616)(hl:look 2 tbl=some (.ext x))(h2:2<nx)(h:Kn x k q) :
  ∃u h',RW hk (n+7) 10 [vN i,vN j,.int .u64 (.ofNat z)] ⟨tbl,nx⟩=some (u,h')∧(∃x',u=errV (mkE q (i+1) (j+1) z)∧Kx 2 tbl nx h'.tbl h'.next∧look 2 h'.tbl=some (.ext x')∧Kn x' k (if mkE q (i+1) (j+1) z=0 then q++[(i+1,j+1,z)] else q)):=by
 obtain⟨P,p1,p2,p3,p4⟩:=h.pg i hi
 obtain⟨R,r1,r2,r3,r4⟩:=h.pg j hj
 obtain⟨u,h',e1,e2,e3,e4⟩:=tie_run (i:=i) (k:=j) (z:=z) hh hn (by omega) (by omega) hl h2 h.ref p1 r1 p2 r2 hz
 have he:tieE i j z (tgP P) (hdP R)=mkE q (i+1) (j+1) z:=by rw[p3,r4];exact tie_mk h.ok
 refine⟨u,h',e1,_,by rw[e2,he],e3,e4,?_⟩
 rw[← he]
 split
 ·rename_i hb;exact h.tie hk2 hi hj p1 r1 hz hb
 ·exact h
theorem tgt_kn{hk:List (HookF Ar)}(hh:THk hk){n:Nat}(hn:110≤n)(hk2:k≤12)(hi:i<k)(hl:look 2 tbl=some (.ext x))(h2:2<nx)(h:Kn x k q) :
  ∃u h',RW hk (n+4) 14 [vN i] ⟨tbl,nx⟩=some (u,h')∧(RowK nx h'.tbl h'.next u (Tg q (i+1))∧Kq tbl nx h'.tbl h'.next):=by
 obtain⟨P,p1,p2,p3,p4⟩:=h.pg i hi
 rw[← p3]
 exact targets_run hh hn (by omega) hl h2 h.ref p1
theorem hld_kn{hk:List (HookF Ar)}(hh:THk hk){n:Nat}(hn:110≤n)(hk2:k≤12)(hi:i<k)(hl:look 2 tbl=some (.ext x))(h2:2<nx)(h:Kn x k q) :
  ∃u h',RW hk (n+4) 16 [vN i] ⟨tbl,nx⟩=some (u,h')∧(RowK nx h'.tbl h'.next u (Hd q (i+1))∧Kq tbl nx h'.tbl h'.next):=by
 obtain⟨P,p1,p2,p3,p4⟩:=h.pg i hi
 rw[← p4]
 exact holders_run hh hn (by omega) hl h2 h.ref p1
theorem Kn.tlen(h:Kn x k q)(hi:i<k):(Tg q (i+1)).length≤8:=by
 obtain⟨P,p1,p2,p3,p4⟩:=h.pg i hi
 rw[← p3];exact pgL_len _ _
theorem Kn.hlen(h:Kn x k q)(hi:i<k):(Hd q (i+1)).length≤8:=by
 obtain⟨P,p1,p2,p3,p4⟩:=h.pg i hi
 rw[← p4];exact pgL_len _ _
abbrev ActK:=Bool×Nat×Nat×Nat
def actK(a:ActK):List Value:=[.bool a.1,.int .u8 (.ofNat a.2.1),.int .u8 (.ofNat a.2.2.1),.int .u64 (.ofNat a.2.2.2)]
def actsK:List ActK→List Value
 |[]=>[]
 |a::r=>actK a++actsK r
theorem actsK_len:∀l:List ActK,(actsK l).length=l.length*4
 |[]=>rfl
 |a::r=>by
  have:(actsK (a::r)).length=4+(actsK r).length:=by
   show(actK a++actsK r).length=_
   rw[List.length_append];rfl
  rw[this,actsK_len r,List.length_cons];omega
theorem actsK_get:∀{l:List ActK} {i:Nat} {a:ActK},l[i]? = some a→takeN (actsK l) (i*4) 4=some (actK a)
 |[],_,_,h=>by simp at h
 |b::r,0,a,h=>by
  simp only[List.getElem?_cons_zero,zI] at h;subst h
  rfl
 |b::r,i+1,a,h=>by
  have ih:=actsK_get (l:=r) (i:=i) (a:=a) (by simpa using h)
  rw[show(i+1)*4=i*4+1+1+1+1 by omega]
  exact ih
theorem winK_load{l:List ActK}{i:Nat}{a:ActK}(h0:look 0 tbl=some (.ro off (actsK l)))(h:l[i]? = some a):(⟨[],tbl,nx⟩:Mem Ar).load ⟨0,off+i*4,none⟩ 4=some (actK a):=by
 have hg:(⟨[],tbl,nx⟩:Mem Ar).get 0=some (.ro off (actsK l)):=h0
 have hb:Nat.ble off (off+i*4)=true:=by rw[Nat.ble_eq];omega
 have hs:Nat.sub (off+i*4) off=i*4:=by show off+i*4-off=i*4;omega
 simp only[Mem.load,hg,cellsO,winO,hb,cond_true,hs,actsK_get h]
structure TSt(off:Nat)(l:List ActK)(ka k lo:Nat)(x:Ar)(q:List Ti)(tb:List (Nat×AObj Ar))(nb:Nat):Prop where
 l0:look 0 tb=some (.ro off (actsK l))
 l2:look 2 tb=some (.ext x)
 lk:look ka tb=some (.grown 12 44 (nodesC 0 k))
 kn:Kn x k q
 h1:2<ka
 h2:ka<lo
 h3:lo≤nb
variable {l:List ActK}{ka:Nat}
theorem TSt.kq(h:TSt off l ka k lo x q tbl nx)(K:Kq tbl nx t' n'):TSt off l ka k lo x q t' n':=by
 have a:=h.h1
 have c:=h.h2
 have d:=h.h3
 exact⟨(K.2 0 (by omega)).trans h.l0,(K.2 2 (by omega)).trans h.l2,(K.2 ka (by omega)).trans h.lk,h.kn,a,c,Nat.le_trans d K.1⟩
theorem TSt.kx{x':Ar}{q':List Ti}(h:TSt off l ka k lo x q tbl nx)(K:Kx 2 tbl nx t' n')(hl:look 2 t'=some (.ext x'))(hk:Kn x' k q'):TSt off l ka k lo x' q' t' n':=by
 have a:=h.h1
 have c:=h.h2
 have d:=h.h3
 exact⟨(K.2 0 (by omega) (by decide)).trans h.l0,hl,(K.2 ka (by omega) (by omega)).trans h.lk,hk,a,c,Nat.le_trans d K.1⟩
theorem TSt.nd(h:TSt off l ka k lo x q tbl nx)(hi:i<k):(⟨[],tbl,nx⟩:Mem Ar).load ⟨ka,0+i*12,none⟩ 12=some (ndN i):=by
 have e:=nodes_get (s:=0) hi
 rw[Nat.zero_add i] at e
 exact mem_load h.lk rfl e
end Go.AI
/- The law of ties between nodes: each is answered as the document says. -/
namespace Go.AI
open Go.Proofs
variable {x:Ar}{tbl t' t'':List (Nat×AObj Ar)}{nx n' n'' j a s i k w z f g ty lo lo2 b P R off m ka:Nat}{L M:List (Nat×Nat)}{q:List Ti}{l:List ActK}
noncomputable def runNodes:List Value→Hp Ar→Option (Value×Hp Ar):=fun vs h=>run F1 cleanT (hookL h19a) 1000 7 vs h
noncomputable def hRT:List (HookF Ar):=(6,constH (.bool true))::(7,runNodes)::(52,recH)::(53,allW)::(75,putW)::(49,insertH 2 67)::hV4
theorem hRT_w:UHk hRT:=⟨⟨⟨⟨⟨⟨⟨⟨⟨⟨_,rfl⟩,rfl,rfl,rfl,rfl,rfl⟩,rfl,rfl,rfl,rfl⟩,⟨_,rfl⟩,rfl,rfl⟩,rfl⟩,rfl,rfl⟩,rfl,rfl⟩,⟨_,rfl⟩,rfl,rfl,rfl,rfl,rfl,rfl⟩,rfl,rfl,rfl⟩,rfl,rfl⟩
theorem hRT_e:EHk hRT:=⟨⟨rfl,rfl,rfl,rfl⟩,rfl,rfl⟩
theorem brF_len:(brF q f g).length≤q.length:=List.length_filter_le ..
theorem WO.nst4{call:CallFn Ar}{env:List (Nat×Value)}{K:List (Nat×Value)→Mem Ar→Prop}{l:List (Option (Nat×Bool)×IOp)}{d:Nat}{y:Opd}{c1 c2 c3 c4 e1 e2 e3 e4:Value}(hy:evo ((d,.pointer (some ⟨nx,0,none⟩))::env) y=some (.agg ⟨[e1,e2,e3,e4]⟩))
  (k:WO call l ((d,.pointer (some ⟨nx,0,none⟩))::env) ⟨[],(nx,.cells [e1,e2,e3,e4])::tbl,nx+1⟩ K):WO call ((none,.new d true [c1,c2,c3,c4])::(none,.store 4 (.t d) y)::l) env ⟨[],tbl,nx⟩ K:=by
 refine WO.new (WO.step (i:=.store 4 (.t d) y) (v:=undef) (m':=⟨[],(nx,.cells [e1,e2,e3,e4])::tbl,nx+1⟩) ?_ k)
 have hm:=mem_store (nx:=nx+1) (vs:=[e1,e2,e3,e4]) (o:=0) (ob':=.cells [e1,e2,e3,e4]) (tbl:=(nx,AObj.cells [c1,c2,c3,c4])::tbl) (i:=nx) (by rw[zC,if_pos rfl]) rfl (zL rfl) rfl
 rw[updH] at hm
 exact estep_store (by show look d (_::_)=_;rw[zC,if_pos rfl]) hy rfl rfl hm
set_option maxHeartbeats 1600000 in
theorem tieL_run{N:Nat}{l:List ActK}(hN:N<256)(hu:∀a,a∈l→a.2.1<256∧a.2.2.1<256∧a.2.2.2<18446744073709551616)(hll:l.length≤9223372036854775807){ad:Option Addr}{cp:Nat}(had:l.length≠0→ad=some ⟨0,off,some 1⟩)(hO:NodesOk (1+N % 12) off (actsK l)) :
  ∃v h',RW hRT 2014 3 [.int .u8 (.ofNat N),.slice ad l.length cp] ⟨[(0,.ro off (actsK l))],1⟩=some (v,h')∧v = .bool true:=by
 have hh:=hRT_w
 have he:=hRT_e
 obtain⟨x0,ka,tb0,nb0,hrun,l0,l2,lka,hk1,hk2,hchk⟩:=hO
 generalize hk:1+N % 12=k at hrun lka hchk
 have hk12:k≤12:=by omega
 have hk0:0<k:=by omega
 refine run_fn rfl fLTie (zL rfl) ?_
 dsimp only[iLTie,argsE]
 refine WC.seq (WC.ops (WO.mv rfl (WO.nil (zN (WC.seq (WC.seq (WC.ops ?_)))))))
 refine WO.fcall (vs:=[]) (v:=.bool true) (h:=⟨[(0,.ro off (actsK l))],1⟩) rfl rfl ((run_hook (n:=2012) (g:=constH (.bool true)) rfl).trans rfl) ?_
 refine WO.pure (v:=.bool false) rfl (WO.nil (zN (WC.cond_false rfl (WC.skip (zN (WC.seq (WC.seq (WC.ops (WO.mv rfl (WO.len rfl ?_))))))))))
 refine WO.gtrS rfl rfl (fun _=>?_) (fun hle=>?_)
 ·refine WO.nil (zN (WC.cond_true rfl (WC.seq (WC.ops (WO.mv rfl (WO.nil (zN (WC.ret (thenC_ret ⟨_,_,rfl,rfl,rfl⟩)))))))))
 have hl80:l.length≤80:=by simp only[zO] at hle;omega
 refine WO.nil (zN (WC.cond_false rfl (WC.skip (zN (WC.seq (WC.ops ?_))))))
 refine WO.mv rfl (WO.pure (pv_remU8 (b:=11) rfl rfl) (WO.pure (pv_conv8 rfl (by omega)) (WO.add rfl rfl (by simp only[zO];omega) (by simp only[zO];omega) ?_)))
 have hadd:Int.ofNat 1+Int.ofNat (N % (11+1))=Int.ofNat k:=by rw[← hk];rfl
 rw[hadd]
 refine WO.fcall (vs:=[vI k]) (v:=.tuple ⟨[.slice (some ⟨ka,0,none⟩) k k,.bool true]⟩) (h:=⟨tb0,nb0⟩) rfl rfl ((run_hook (n:=2012) (g:=runNodes) rfl).trans hrun) ?_
 refine WO.mv rfl (WO.pure (v:=.slice (some ⟨ka,0,none⟩) k k) rfl (WO.pure (v:=.bool true) rfl (WO.mv rfl (WO.mv rfl (WO.nil (zN ?_))))))
 refine WC.seq (WC.seq (WC.ops (WO.mv rfl (WO.pure (v:=.bool false) rfl (WO.nil (zN (WC.cond_false rfl (WC.skip (zN ?_)))))))))
 refine WC.seq (WC.ops (WO.mv rfl (WO.nil (zN ?_))))
 have F0:TSt off l ka k nb0 x0 [] tb0 nb0:=⟨l0,l2,lka,kn_new hchk,hk1,hk2,Nat.le_refl _⟩
 refine WC.seq (WC.seq (WC.ops (WO.mv rfl (WO.len rfl (WO.mv rfl (WO.nil (zN (WC.block ?_))))))))
 refine WC.loop (fun y e tb nb=>∃i v x q,i+y=l.length∧e 5=some (.slice (some ⟨ka,0,none⟩) k k)∧e 7=some v∧e 31=some (.slice ad l.length cp)∧e 32=some (vI l.length)∧e 33=some (vI i)∧q.length≤i∧RowQ nb0 tb nb v q∧TSt off l ka k nb0 x q tb nb) (k:=l.length) (by omega)
  ⟨0,_,x0,[],by omega,rfl,rfl,rfl,rfl,rfl,Nat.le_refl _,.inl ⟨rfl,rfl⟩,F0⟩ ?_
 rintro y e tb nb ⟨i,v,x,q,hiy,e5,e7,e31,e32,e33,hqi,RQ,F⟩
 dsimp only at e5 e7 e31 e32 e33
 have gb:=F.h3
 refine WC.seq (WC.ops (WO.lssS e33 e32 (fun hz=>?_) (fun hz=>?_)))
 ·have hi:i<l.length:=by simp only[zO] at hz;omega
  obtain⟨⟨out,cf,ct,z⟩,ha⟩:∃c,l[i]? = some c:=⟨l[i],List.getElem?_eq_getElem hi⟩
  obtain⟨hcf,hct,hz⟩:=hu _ (List.mem_of_getElem? ha)
  dsimp only at hcf hct hz
  have had':=had (by omega)
  subst had'
  refine WO.nil (zN (WC.seq (WC.cond_true rfl (WC.skip (zN (WC.seq (WC.block (WC.seq (WC.ops ?_)))))))))
  refine WO.idxL (b:=0) (o:=off) (len:=l.length) (c:=cp) (sp:=some 1) (j:=.i64) (z:=Int.ofNat i) (n:=i) e31 e33 rfl hi ?_
  refine WO.step (i:=.load 36 4 true (.t 35)) (v:=.agg ⟨actK (out,cf,ct,z)⟩) (m':=⟨[],tb,nb⟩) (estep_ldK rfl (winK_load F.l0 ha) rfl) (WO.nst4 rfl (WO.nil (zN ?_)))
  have FA:=F.kq (Kq.refl.cons (k:=nb) (m:=nb+1) (o:=.cells (actK (out,cf,ct,z))) (Nat.le_refl _) (Nat.le_succ _))
  have RA:=RQ.kq (Kq.refl.cons (k:=nb) (m:=nb+1) (o:=.cells (actK (out,cf,ct,z))) (Nat.le_refl _) (Nat.le_succ _))
  have ca:look nb ((nb,AObj.cells (actK (out,cf,ct,z)))::tb)=some (.cells (actK (out,cf,ct,z))):=by rw[zC,if_pos rfl]
  have FA':TSt off l ka k nb0 x q ((nb,AObj.cells [.bool out,.int .u8 (.ofNat cf),.int .u8 (.ofNat ct),.int .u64 (.ofNat z)])::tb) (nb+1):=FA
  have RA':RowQ nb0 ((nb,AObj.cells [.bool out,.int .u8 (.ofNat cf),.int .u8 (.ofNat ct),.int .u64 (.ofNat z)])::tb) (nb+1) v q:=RA
  have ca':look nb ((nb,AObj.cells [.bool out,.int .u8 (.ofNat cf),.int .u8 (.ofNat ct),.int .u64 (.ofNat z)])::tb)=some (.cells [.bool out,.int .u8 (.ofNat cf),.int .u8 (.ofNat ct),.int .u64 (.ofNat z)]):=ca
  clear FA RA ca
  generalize((nb,AObj.cells [.bool out,.int .u8 (.ofNat cf),.int .u8 (.ofNat ct),.int .u64 (.ofNat z)])::tb)=TA at FA' RA' ca' ⊢
  have ld1:∀m,(⟨[],TA,m⟩:Mem Ar).load ⟨nb,0+1,none⟩ 1=some [.int .u8 (.ofNat cf)]:=fun m=>mem_load ca' rfl rfl
  have ld2:∀m,(⟨[],TA,m⟩:Mem Ar).load ⟨nb,0+2,none⟩ 1=some [.int .u8 (.ofNat ct)]:=fun m=>mem_load ca' rfl rfl
  have c8:∀y:Nat,ceqs [Value.int .u8 (.ofNat y)] [Value.int .u8 (.ofNat y)]=true:=fun y=>by simp[ceqs,ceq,ieqF_refl]
  refine WC.seq (WC.drawnW ?_)
  refine WD.pure (v:=.pointer (some ⟨nb,0+1,none⟩)) rfl (WD.load (m:=⟨[],TA,nb+1+14⟩) (ms:=[]) (v:=.int .u8 (.ofNat cf)) rfl (ld1 _) rfl (WD.pure (pv_conv8 rfl hcf) ?_))
  refine WD.pure (v:=.slice (some ⟨ka,0,none⟩) k k) (evOut e5 rfl rfl) (WD.pure (v:=vI k) rfl (WD.pure (pv_remN rfl rfl hk0) ?_))
  refine WD.pure (v:=.pointer (some ⟨nb,0+2,none⟩)) rfl (WD.load (m:=⟨[],TA,nb+1+14⟩) (ms:=[]) (v:=.int .u8 (.ofNat ct)) rfl (ld2 _) rfl (WD.pure (pv_conv8 rfl hct) ?_))
  refine WD.pure (v:=.slice (some ⟨ka,0,none⟩) k k) (evOut e5 rfl rfl) (WD.pure (v:=vI k) rfl (WD.pure (pv_remN rfl rfl hk0) ?_))
  refine WD.pure rfl (WD.pure rfl (WD.nil ⟨?_,_,_,rfl,?_⟩))
  ·simp only[heldAll,loadsIn,ld1,ld2,c8]
   rfl
  generalize hci:cf % k=ci
  generalize hcj:ct % k=cj
  have hi12:ci<k:=by rw[← hci];exact Nat.mod_lt _ hk0
  have hj12:cj<k:=by rw[← hcj];exact Nat.mod_lt _ hk0
  have U0:Kq TA (nb+1) TA (nb+1+14):=Kq.refl.up (Nat.le_add_right _ _)
  have FB:=FA'.kq U0
  have RB:=RA'.kq U0
  refine zN (WC.seq (WC.ops (WO.mv (m:=⟨[],TA,nb+1+14⟩) rfl (WO.nil (zN (WC.seq (WC.ops (WO.mv rfl (WO.nil (zN ?_))))))))))
  refine WC.seq (WC.mono (Q:=fun y e m=>y = .norm∧∃q' v' x' er nb' tb',m=⟨[],tb',nb'⟩∧look 5 e=some (.slice (some ⟨ka,0,none⟩) k k)∧look 7 e=some v'∧look 31 e=some (.slice (some ⟨0,off,some 1⟩) l.length cp)∧look 32 e=some (vI l.length)∧look 33 e=some (vI i)∧look 12 e=some (errV er)∧look 13 e=some (errV er)∧q'.length≤i+1∧RowQ nb0 tb' nb' v' q'∧TSt off l ka k nb0 x' q' tb' nb') ?_ ?_)
  ·have cb:look nb TA=_:=ca'
   refine WC.seq (WC.ops (WO.fadd rfl (WO.load (ob:=.cells [.bool out,.int .u8 (.ofNat cf),.int .u8 (.ofNat ct),.int .u64 (.ofNat z)]) (v:=.bool out) rfl cb rfl rfl rfl (WO.nil (zN ?_)))))
   cases out with
   |true =>
    refine WC.cond_true rfl (WC.seq (WC.drawnW ?_))
    have U1:Kq TA (nb+1+14) TA (nb+1+14+10):=Kq.refl.up (Nat.le_add_right _ _)
    have FC:=FB.kq U1
    obtain⟨u1,⟨t1,n1⟩,d1,x1,rfl,k1,m1,kn1⟩:=untie_kn (nx:=nb+1+14+10) (n:=2006) hh (by decide) hk12 hi12 hj12 FC.l2 (by have:=FC.h1;have:=FC.h2;have:=FC.h3;omega) FC.kn
    dsimp only at k1 m1
    refine WD.pure (v:=.slice (some ⟨ka,0,none⟩) k k) (evOut (by exact e5) rfl rfl) (WD.pure (v:=vI ci) (evOut rfl rfl rfl) (WD.pure (pv_idxW rfl rfl hi12) ?_))
    refine WD.load (m:=⟨[],TA,nb+1+14+10⟩) (ms:=[]) (v:=vN ci) rfl (FC.nd hi12) rfl ?_
    refine WD.pure (v:=.slice (some ⟨ka,0,none⟩) k k) (evOut (by exact e5) rfl rfl) (WD.pure (v:=vI cj) (evOut rfl rfl rfl) (WD.pure (pv_idxW rfl rfl hj12) ?_))
    refine WD.load (m:=⟨[],TA,nb+1+14+10⟩) (ms:=[]) (v:=vN cj) rfl (FC.nd hj12) rfl ?_
    refine WD.chn (m:=⟨[],TA,nb+1+14+10⟩) (m':=⟨[],t1,n1⟩) rfl rfl rfl (estep_call (m:=⟨[],TA,nb+1+14+10⟩) (h:=⟨t1,n1⟩) (vs:=[vN ci,vN cj]) rfl rfl d1) ?_
    refine WD.pure rfl (WD.nil ⟨?_,_,_,rfl,?_⟩)
    ·simp only[heldAll,loadsIn,FC.nd hi12,FC.nd hj12,ceqs_nd]
     rfl
    have FD:=FC.kx k1 m1 kn1
    have RD:=(RB.kq U1).kx (by omega) k1
    have gD:=FD.h3
    refine zN (WC.ops (WO.mv (m:=⟨[],t1,n1⟩) (by exact e7) (WO.mv rfl (WO.add rfl rfl (by simp only[zO];omega) (by simp only[zO];omega) (WO.pure (v:=.int .u64 (.ofNat (ci+1))) (pv_cvU64 rfl (by omega)) ?_)))))
    refine WO.mv rfl (WO.add rfl rfl (by simp only[zO];omega) (by simp only[zO];omega) (WO.pure (v:=.int .u64 (.ofNat (cj+1))) (pv_cvU64 rfl (by omega)) ?_))
    refine WO.fcall_ex (vs:=[v,.int .u64 (.ofNat (ci+1)),.int .u64 (.ofNat (cj+1))]) rfl rfl (rbreak_run (n:=2009) (f:=ci+1) (g:=cj+1) he (by decide) (by omega) gD RD) ?_
    rintro u2 ⟨t2,n2⟩ ⟨v2,rfl,R2,k2⟩
    dsimp only at R2 k2
    rw[F.kn.ok.tg] at R2 ⊢
    refine WO.mv rfl (WO.pure (v:=v2) rfl (WO.pure rfl (WO.mv rfl (WO.mv rfl (WO.nil ⟨rfl,_,v2,x1,_,n2,t2,rfl,by exact e5,rfl,by exact e31,by exact e32,by exact e33,rfl,rfl,?_,R2,FD.kq k2⟩)))))
    split
    ·exact Nat.le_trans brF_len (by omega)
    ·omega
   |false =>
    refine WC.cond_false rfl (WC.seq (WC.drawnW ?_))
    have U1:Kq TA (nb+1+14) TA (nb+1+14+12):=Kq.refl.up (Nat.le_add_right _ _)
    have FC:=FB.kq U1
    obtain⟨u1,⟨t1,n1⟩,d1,x1,rfl,k1,m1,kn1⟩:=tie_kn (nx:=nb+1+14+12) (n:=2006) hh (by decide) hk12 hi12 hj12 hz FC.l2 (by have:=FC.h1;have:=FC.h2;have:=FC.h3;omega) FC.kn
    dsimp only at k1 m1
    have ld3:∀m,(⟨[],TA,m⟩:Mem Ar).load ⟨nb,0+3,none⟩ 1=some [.int .u64 (.ofNat z)]:=fun m=>mem_load ca' rfl rfl
    have c64:∀y:Nat,ceqs [Value.int .u64 (.ofNat y)] [Value.int .u64 (.ofNat y)]=true:=fun y=>by simp[ceqs,ceq,ieqF_refl]
    refine WD.pure (v:=.slice (some ⟨ka,0,none⟩) k k) (evOut (by exact e5) rfl rfl) (WD.pure (v:=vI ci) (evOut rfl rfl rfl) (WD.pure (pv_idxW rfl rfl hi12) ?_))
    refine WD.load (m:=⟨[],TA,nb+1+14+12⟩) (ms:=[]) (v:=vN ci) rfl (FC.nd hi12) rfl ?_
    refine WD.pure (v:=.slice (some ⟨ka,0,none⟩) k k) (evOut (by exact e5) rfl rfl) (WD.pure (v:=vI cj) (evOut rfl rfl rfl) (WD.pure (pv_idxW rfl rfl hj12) ?_))
    refine WD.load (m:=⟨[],TA,nb+1+14+12⟩) (ms:=[]) (v:=vN cj) rfl (FC.nd hj12) rfl ?_
    refine WD.pure (v:=.pointer (some ⟨nb,0+3,none⟩)) (pv_faddP (evOut rfl rfl rfl)) (WD.load (m:=⟨[],TA,nb+1+14+12⟩) (ms:=[]) (v:=.int .u64 (.ofNat z)) rfl (ld3 _) rfl ?_)
    refine WD.chn (m:=⟨[],TA,nb+1+14+12⟩) (m':=⟨[],t1,n1⟩) rfl rfl rfl (estep_call (m:=⟨[],TA,nb+1+14+12⟩) (h:=⟨t1,n1⟩) (vs:=[vN ci,vN cj,.int .u64 (.ofNat z)]) rfl rfl d1) ?_
    refine WD.pure rfl (WD.nil ⟨?_,_,_,rfl,?_⟩)
    ·simp only[heldAll,loadsIn,FC.nd hi12,FC.nd hj12,ld3,ceqs_nd,c64]
     rfl
    have FD:=FC.kx k1 m1 kn1
    have RD:=(RB.kq U1).kx (by omega) k1
    have gD:=FD.h3
    have cD:=(k1.2 nb (by omega) (by have:=F.h1;have:=F.h2;omega)).trans ca'
    refine zN (WC.ops (WO.mv (m:=⟨[],t1,n1⟩) (by exact e7) (WO.mv rfl (WO.add rfl rfl (by simp only[zO];omega) (by simp only[zO];omega) (WO.pure (v:=.int .u64 (.ofNat (ci+1))) (pv_cvU64 rfl (by omega)) ?_)))))
    refine WO.mv rfl (WO.add rfl rfl (by simp only[zO];omega) (by simp only[zO];omega) (WO.pure (v:=.int .u64 (.ofNat (cj+1))) (pv_cvU64 rfl (by omega)) ?_))
    refine WO.fadd rfl (WO.load (ob:=.cells [.bool false,.int .u8 (.ofNat cf),.int .u8 (.ofNat ct),.int .u64 (.ofNat z)]) (v:=.int .u64 (.ofNat z)) rfl cD rfl rfl rfl ?_)
    refine WO.fcall_ex (vs:=[v,.int .u64 (.ofNat (ci+1)),.int .u64 (.ofNat (cj+1)),.int .u64 (.ofNat z)]) rfl rfl (rmake_run (n:=2009) (f:=ci+1) (g:=cj+1) (z:=z) he (by decide) (by omega) gD RD) ?_
    rintro u2 ⟨t2,n2⟩ ⟨v2,rfl,R2,k2⟩
    dsimp only at R2 k2
    refine WO.mv rfl (WO.pure (v:=v2) rfl (WO.pure rfl (WO.mv rfl (WO.mv rfl (WO.nil ⟨rfl,_,v2,x1,_,n2,t2,rfl,by exact e5,rfl,by exact e31,by exact e32,by exact e33,rfl,rfl,?_,R2,FD.kq k2⟩)))))
    split
    ·rw[List.length_append];exact Nat.add_le_add_right hqi 1
    ·omega
  ·rintro y2 e2 m2 ⟨rfl,q2,v2,x2,er,n2,t2,rfl,d5,d7,d31,d32,d33,d12,d13,hq2,R2,F2⟩
   refine zN (WC.seq (WC.seq (WC.ops (WO.mv (m:=⟨[],t2,n2⟩) d12 (WO.mv (by exact d13) (WO.pure (v:=.bool false) (pv_neqI rfl rfl) (WO.nil (zN (WC.cond_false rfl (WC.skip (zN ?_)))))))))))
   refine WC.seq (WC.ops (WO.mv (by exact d5) (WO.len rfl (WO.mv rfl (WO.nil (zN (WC.block ?_)))))))
   refine WC.loop (fun y e tb nb=>∃p,p+y=k∧e 5=some (.slice (some ⟨ka,0,none⟩) k k)∧e 7=some v2∧e 31=some (.slice (some ⟨0,off,some 1⟩) l.length cp)∧e 32=some (vI l.length)∧e 33=some (vI i)∧e 98=some (.slice (some ⟨ka,0,none⟩) k k)∧e 99=some (vI k)∧e 100=some (vI p)∧RowQ nb0 tb nb v2 q2∧TSt off l ka k nb0 x2 q2 tb nb) (k:=k) (by omega)
    ⟨0,by omega,by exact d5,by exact d7,by exact d31,by exact d32,by exact d33,rfl,rfl,rfl,R2,F2⟩ ?_
   rintro y3 e3 tc nc ⟨p,hpy,a5,a7,a31,a32,a33,a98,a99,a100,RC,FC⟩
   dsimp only at a5 a7 a31 a32 a33 a98 a99 a100
   refine WC.seq (WC.ops (WO.lssS a100 a99 (fun hz=>?_) (fun hz=>?_)))
   ·have hp:p<k:=by simp only[zO] at hz;omega
    have g0:=FC.h3
    have g1:=FC.h2
    have g2:=FC.h1
    refine WO.nil (zN (WC.seq (WC.cond_true rfl (WC.skip (zN (WC.seq (WC.block (WC.seq (WC.ops ?_)))))))))
    refine WO.mv (by exact a100) (WO.pure (pv_idxW (by exact a98) (by exact a100) hp) (WO.step (i:=.load 104 12 true (.t 103)) (v:=vN p) (m':=⟨[],tc,nc⟩) (estep_ldK rfl (FC.nd hp) rfl) (WO.new (WO.mv rfl ?_))))
    refine WO.step (i:=.store 12 (.t 15) (.t 104)) (v:=undef) (m':=⟨[],(nc,.cells (ndN p))::tc,nc+1⟩) ?_ (WO.nil (zN ?_))
    ·have hm:=mem_store (nx:=nc+1) (vs:=ndN p) (o:=0) (ob':=.cells (ndN p)) (tbl:=(nc,AObj.cells [.pointer none,.pointer none,.int .i64 (.ofNat 0),.int .i64 (.ofNat 0),.int .u64 (.ofNat 0),.pointer none,.int .i64 (.ofNat 0),.int .i64 (.ofNat 0),.int .i64 (.ofNat 0),.pointer none,.int .i64 (.ofNat 0),.int .i64 (.ofNat 0)])::tc) (i:=nc) (by rw[zC,if_pos rfl]) rfl (zL rfl) rfl
     rw[updH] at hm
     exact estep_store rfl rfl rfl rfl hm
    have Kc:Kq tc nc ((nc,AObj.cells (ndN p))::tc) (nc+1):=Kq.refl.cons (Nat.le_refl _) (Nat.le_succ _)
    have cc:look nc ((nc,AObj.cells (ndN p))::tc)=some (.cells (ndN p)):=by rw[zC,if_pos rfl]
    have FD:=FC.kq Kc
    have RD:=RC.kq Kc
    generalize((nc,AObj.cells (ndN p))::tc)=TC at FD RD cc ⊢
    clear Kc
    have lq:q2.length≤900:=by omega
    have l8:=FD.kn.tlen hp
    have h8:=FD.kn.hlen hp
    refine WC.seq (WC.ops (WO.load (ob:=.cells (ndN p)) (v:=vN p) rfl cc rfl rfl rfl ?_))
    refine WO.fcall_ex (vs:=[vN p]) rfl rfl (tgt_kn (nx:=nc+1) (n:=2009) hh.toTHk (by decide) hk12 hp FD.l2 (by omega) FD.kn) ?_
    rintro u1 ⟨s1,o1⟩ ⟨S1,j1⟩
    dsimp only at S1 j1
    refine WO.fcall_ex (vs:=[u1]) rfl rfl (of23_run (hk:=hRT) (n:=2012) rfl (by decide) (by omega) S1.toT) ?_
    rintro u2 ⟨s2,o2⟩ ⟨S2,j2⟩
    dsimp only at S2 j2
    have J2:=j1.trans j2
    refine WO.mv (by exact a7) (WO.mv rfl (WO.add rfl rfl (by simp only[zO];omega) (by simp only[zO];omega) (WO.pure (v:=.int .u64 (.ofNat (p+1))) (pv_cvU64 rfl (by omega)) ?_)))
    refine WO.fcall_ex (vs:=[v2,.int .u64 (.ofNat (p+1))]) rfl rfl (rtgt_run (n:=2010) (f:=p+1) he.toDHk (by decide) lq (RD.kq J2)) ?_
    rintro u3 ⟨s3,o3⟩ ⟨S3,j3⟩
    dsimp only at S3 j3
    have J3:=J2.trans j3
    have eT:tgtD q2.length (p+1) q2 []=Tg q2 (p+1):=FD.kn.ok.tg
    rw[eT] at S3
    refine WO.fcall_ex (vs:=[u2,u3]) rfl rfl (req_run (hk:=hRT) (n:=2012) rfl (by decide) (by omega) (S2.kq j3) S3) ?_
    rintro u4 ⟨s4,o4⟩ ⟨rfl,j4⟩
    dsimp only at j4
    have J4:=J3.trans j4
    rw[decide_eq_true rfl]
    have FE:=FD.kq J4
    refine WO.pure (v:=.bool false) rfl (WO.mv rfl (WO.take rfl rfl (WO.load (ob:=.cells (ndN p)) (v:=vN p) rfl ((J4.2 nc (Nat.lt_succ_self _)).trans cc) rfl rfl rfl (WO.take rfl rfl ?_))))
    refine WO.fcall_ex (vs:=[vN p]) rfl rfl (hld_kn (nx:=o4) (n:=2009) hh.toTHk (by decide) hk12 hp FE.l2 (by have:=FE.h3;omega) FE.kn) ?_
    rintro w1 ⟨r1,b1⟩ ⟨S5,j5⟩
    dsimp only at S5 j5
    refine WO.take rfl rfl ?_
    refine WO.fcall_ex (vs:=[w1]) rfl rfl (of23_run (hk:=hRT) (n:=2012) rfl (by decide) (by omega) S5.toT) ?_
    rintro w2 ⟨r2,b2⟩ ⟨S6,j6⟩
    dsimp only at S6 j6
    have J6:=(J4.trans j5).trans j6
    refine WO.take rfl rfl (WO.mv (by exact a7) (WO.take rfl rfl (WO.mv rfl (WO.take rfl rfl (WO.add rfl rfl (by simp only[zO];omega) (by simp only[zO];omega) (WO.take rfl rfl (WO.pure (v:=.int .u64 (.ofNat (p+1))) (pv_cvU64 rfl (by omega)) (WO.take rfl rfl ?_))))))))
    refine WO.fcall_ex (vs:=[v2,.int .u64 (.ofNat (p+1))]) rfl rfl (rhld_run (n:=2010) (f:=p+1) he.toDHk (by decide) lq (RD.kq J6)) ?_
    rintro w3 ⟨r3,b3⟩ ⟨S7,j7⟩
    dsimp only at S7 j7
    have eH:hldD q2.length (p+1) q2 []=Hd q2 (p+1):=FD.kn.ok.hd
    rw[eH] at S7
    refine WO.take rfl rfl ?_
    refine WO.fcall_ex (vs:=[w2,w3]) rfl rfl (req_run (hk:=hRT) (n:=2012) rfl (by decide) (by omega) (S6.kq j7) S7) ?_
    rintro w4 ⟨r4,b4⟩ ⟨rfl,j8⟩
    dsimp only at j8
    have J8:=(J6.trans j7).trans j8
    rw[decide_eq_true rfl]
    refine WO.take rfl rfl (WO.pure (v:=.bool false) rfl (WO.pure (v:=.bool false) rfl (WO.nil (zN (WC.cond_false rfl (WC.skip (zB (zN ?_))))))))
    refine WC.ops (WO.add (by exact a100) rfl (by simp only[zO];omega) (by simp only[zO];omega) (WO.mv rfl (WO.nil ?_)))
    exact⟨y3-1,by omega,rfl,p+1,by omega,by exact a5,by exact a7,by exact a31,by exact a32,by exact a33,by exact a98,by exact a99,rfl,RD.kq J8,FD.kq J8⟩
   ·refine WO.nil (zN (WC.seq (WC.cond_false rfl (WC.exit (thenC_exit (blockC_exit ?_))))))
    refine zB (zN (WC.ops (WO.add (m:=⟨[],tc,nc⟩) (by exact a33) rfl (by simp only[zO];omega) (by simp only[zO];omega) (WO.mv rfl (WO.nil ?_)))))
    exact⟨y-1,by omega,rfl,i+1,v2,x2,q2,by omega,by exact a5,by exact a7,by exact a31,by exact a32,rfl,hq2,RC,FC⟩
 ·have hi:i=l.length:=by simp only[zO] at hz;omega
  refine WO.nil (zN (WC.seq (WC.cond_false rfl (WC.exit (thenC_exit (blockC_exit ?_))))))
  exact zN (WC.seq (WC.ops (WO.mv (m:=⟨[],tb,nb⟩) rfl (WO.nil (zN (WC.ret ⟨_,_,rfl,rfl,rfl⟩))))))
end Go.AI
