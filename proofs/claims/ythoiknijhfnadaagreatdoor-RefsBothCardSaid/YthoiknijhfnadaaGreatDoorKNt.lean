/- Functions in the evaluator's form: printed by a program, held against the program by the kernel. -/
import Derived.Test.YthoiknijhfnadaaGreatDoorIfn
import Derived.Test.YthoiknijhfnadaaGreatDoorKNd
import Derived.Test.YthoiknijhfnadaaGreatDoorKOp
namespace Go.AI
def iQContains:IFn:=(.mk (sO [(none,(.box 3 true (.t 1))),mB 4 false] (sO [mV 5 0,lD 6 2 true 3,cL 7 54 [(.t 5),(.t 6)],pU 8 (.bin .geq .no (.t 7) (cI 0)),mV 4 8] .ret)) 9 [(.tmp 4)])
theorem fQContains:FA 30=some iQContains:=by kernel_rfl
def iQIndex:IFn:=(.mk (sO [(none,(.box 3 true (.t 1))),mI 4 0] (.seq (sO [mV 6 0,pU 7 (.len (.t 6)),mI 8 0] (.block 0 (.loop (sO [pU 9 (.bin .lss .no (.t 8) (.t 7))] (.seq (.cond (.t 9) .skip (.exit 0)) (.seq (.block 1 (sO [mV 10 8,mV 5 10] (.seq (.drawn [lD 11 2 true 3,mV 12 0,mV 13 5,pU 14 (.idxL 2 (.t 12) (.t 13)),lD 15 2 true 14,pU 16 (.bin .eql (.agg [.int,.int]) (.t 11) (.t 15))] [[],[],[],[1,2],[3,1,2],[0,4,3,1,2]]) (.cond (.t 16) (sO [mV 17 5,mV 4 17] .ret) .skip)))) (.ops [pU 18 (.bin .add .no (.t 8) (cI 1)),mV 8 18]))))))) (sO [pU 4 (.mv (.c (.int .i64 (.negSucc 0))))] .ret))) 19 [(.tmp 4)])
theorem fQIndex:FA 54=some iQIndex:=by kernel_rfl
def iLBoth:IFn:=(.mk (sO [mB 4 false] (.seq (sO [cL 17 6 [],pU 18 (.not (.t 17))] (.cond (.t 18) (sO [mB 4 false] .ret) .skip)) (.seq (sO [mV 19 1,pU 20 (.len (.t 19)),pU 21 (.bin .gtr .no (.t 20) (cI 80))] (.cond (.t 21) (sO [mB 4 true] .ret) .skip)) (sO [mV 23 0,pU 24 (.bin .rem .no (.t 23) (.c (.int .u8 (.ofNat 12)))),pU 25 (.conv .i64 (.t 24)),pU 26 (.bin .add .no (cI 1) (.t 25)),cL 27 7 [(.t 26)],mV 22 27,eX 28 0 22,eX 29 1 22,mV 5 28,mV 6 29] (.seq (sO [mV 30 6,pU 31 (.not (.t 30))] (.cond (.t 31) (sO [mB 4 false] .ret) .skip)) (.seq (sO [mV 32 1,pU 33 (.len (.t 32)),mI 34 0] (.block 0 (.loop (sO [pU 35 (.bin .lss .no (.t 34) (.t 33))] (.seq (.cond (.t 35) .skip (.exit 0)) (.seq (.block 1 (sO [pU 36 (.idxL 4 (.t 32) (.t 34)),lD 37 4 true 36,(none,(.new 8 true [(.bool false),(.int .u8 (.ofNat 0)),(.int .u8 (.ofNat 0)),(u0 0)])),sT 4 8 37] (.seq (.drawn [mV 38 5,fD 39 1 8,lD 40 1 false 39,pU 41 (.conv .i64 (.t 40)),mV 42 5,pU 43 (.len (.t 42)),pU 44 (.bin .rem .no (.t 41) (.t 43)),pU 45 (.idxL 12 (.t 38) (.t 44)),lD 46 12 true 45,mV 47 5,fD 48 2 8,lD 49 1 false 48,pU 50 (.conv .i64 (.t 49)),mV 51 5,pU 52 (.len (.t 51)),pU 53 (.bin .rem .no (.t 50) (.t 52)),pU 54 (.idxL 12 (.t 47) (.t 53)),lD 55 12 true 54,(none,(.new 9 true [p0,p0,(i0 0),(i0 0),(u0 0),p0,(i0 0),(i0 0),(i0 0),p0,(i0 0),(i0 0)])),(none,(.new 10 true [p0,p0,(i0 0),(i0 0),(u0 0),p0,(i0 0),(i0 0),(i0 0),p0,(i0 0),(i0 0)])),sT 12 9 46,sT 12 10 55] [[],[],[1],[2,1],[],[4],[3,5,2,1,4],[0,6,3,5,2,1,4],[7,0,6,3,5,2,1,4],[],[],[10],[11,10],[],[13],[12,14,11,10,13],[9,15,12,14,11,10,13],[16,9,15,12,14,11,10,13],[],[],[18,8,0,1,2,3,4,5,6,7,19],[19,17,20,0,1,2,3,4,5,6,7,8,9,10,11,12,13,14,15,16,18]]) (sO [fD 56 0 8,lD 57 1 false 56] (.cond (.t 57) (.ops [lD 58 12 true 9,lD 59 12 true 10,cL 60 8 [(.t 58),(.t 59)]]) (.ops [lD 61 12 true 9,lD 62 12 true 10,fD 63 3 8,lD 64 1 false 63,cL 65 10 [(.t 61),(.t 62),(.t 64)]])))))) (.ops [pU 66 (.bin .add .no (.t 34) (cI 1)),mV 34 66]))))))) (sO [mI 11 0,mI 12 0] (.seq (sO [mV 67 5,pU 68 (.len (.t 67)),mI 69 0] (.block 2 (.loop (sO [pU 70 (.bin .lss .no (.t 69) (.t 68))] (.seq (.cond (.t 70) .skip (.exit 2)) (.seq (.block 3 (sO [mV 71 69,pU 72 (.idxL 12 (.t 67) (.t 69)),lD 73 12 true 72,(none,(.new 14 true [p0,p0,(i0 0),(i0 0),(u0 0),p0,(i0 0),(i0 0),(i0 0),p0,(i0 0),(i0 0)])),mV 13 71,sT 12 14 73] (.seq (sO [lD 74 12 true 14,cL 75 14 [(.t 74)],pU 76 (.len (.t 75)),mI 77 0] (.block 4 (.loop (sO [pU 78 (.bin .lss .no (.t 77) (.t 76))] (.seq (.cond (.t 78) .skip (.exit 4)) (.seq (.block 5 (sO [pU 79 (.idxL 2 (.t 75) (.t 77)),lD 80 2 true 79,(none,(.new 16 true [(u0 0),(u0 0)])),sT 2 16 80] (.seq (.seq (.drawn [fD 81 0 16,lD 82 1 false 81,pU 83 (.bin .lss .no (.t 82) (.c (u0 1))),mV 84 83,((some (84,false)),(.pure 85 (.fadd 0 (.t 16)))),((some (84,false)),(.load 86 1 false (.t 85))),((some (84,false)),(.pure 87 (.mv (.t 5)))),((some (84,false)),(.pure 88 (.len (.t 87)))),((some (84,false)),(.pure 89 (.conv .u64 (.t 88)))),((some (84,false)),(.pure 90 (.bin .gtr .no (.t 86) (.t 89)))),pU 91 (.pick (.t 84) (.c (.bool true)) (.t 90)),mV 92 91,((some (92,false)),(.pure 93 (.fadd 0 (.t 16)))),((some (92,false)),(.load 94 1 false (.t 93))),((some (92,false)),(.pure 95 (.mv (.t 13)))),((some (92,false)),(.pure 96 (.bin .add .no (.t 95) (cI 1)))),((some (92,false)),(.pure 97 (.conv .u64 (.t 96)))),((some (92,false)),(.pure 98 (.bin .eql .no (.t 94) (.t 97)))),pU 99 (.pick (.t 92) (.c (.bool true)) (.t 98)),mV 100 99,((some (100,false)),(.pure 101 (.mv (.t 5)))),((some (100,false)),(.pure 102 (.fadd 0 (.t 16)))),((some (100,false)),(.load 103 1 false (.t 102))),((some (100,false)),(.pure 104 (.bin .sub .no (.t 103) (.c (u0 1))))),((some (100,false)),(.pure 105 (.idxL 12 (.t 101) (.t 104)))),((some (100,false)),(.load 106 12 true (.t 105))),((some (100,false)),(.call (some 107) (.c (.func (.func 16) (.mk []) (.mk []))) [(.t 106)])),((some (100,false)),(.pure 108 (.mv (.t 13)))),((some (100,false)),(.pure 109 (.bin .add .no (.t 108) (cI 1)))),((some (100,false)),(.pure 110 (.conv .u64 (.t 109)))),((some (100,false)),(.pure 111 (.fadd 1 (.t 16)))),((some (100,false)),(.load 112 1 false (.t 111))),((some (100,false)),(.pure 113 (.build [(u0 0),(u0 0)] [(0,(1,(.t 110))),(1,(1,(.t 112)))]))),((some (100,false)),(.call (some 114) (.c (.func (.func 30) (.mk []) (.mk []))) [(.t 107),(.t 113)])),((some (100,false)),(.pure 115 (.not (.t 114)))),pU 116 (.pick (.t 100) (.c (.bool true)) (.t 115))] [[],[0],[1,0],[2,1,0],[3,2,1,0],[4,3,2,1,0],[3,2,1,0],[6,3,2,1,0],[7,3,6,2,1,0],[5,8,3,4,2,1,0,7,6],[3,9,2,1,0,5,8,4,7,6],[10,3,9,2,1,0,5,8,4,7,6],[11,10,3,9,2,1,0,5,8,4,7,6],[12,11,10,3,9,2,1,0,5,8,4,7,6],[11,10,3,9,2,1,0,5,8,4,7,6],[14,11,10,3,9,2,1,0,5,8,4,7,6],[15,11,14,10,3,9,2,1,0,5,8,4,7,6],[13,16,11,12,10,3,9,2,1,0,5,8,4,7,6,15,14],[11,17,10,3,9,2,1,0,5,8,4,7,6,13,16,12,15,14],[18,11,17,10,3,9,2,1,0,5,8,4,7,6,13,16,12,15,14],[19,18,11,17,10,3,9,2,1,0,5,8,4,7,6,13,16,12,15,14],[19,18,11,17,10,3,9,2,1,0,5,8,4,7,6,13,16,12,15,14],[21,19,18,11,17,10,3,9,2,1,0,5,8,4,7,6,13,16,12,15,14],[22,19,21,18,11,17,10,3,9,2,1,0,5,8,4,7,6,13,16,12,15,14],[20,23,19,18,11,17,10,3,9,2,1,0,5,8,4,7,6,13,16,12,15,14,22,21],[24,19,20,23,18,11,17,10,3,9,2,1,0,5,8,4,7,6,13,16,12,15,14,22,21],[25,19,24,20,23,18,11,17,10,3,9,2,1,0,5,8,4,7,6,13,16,12,15,14,22,21],[19,18,11,17,10,3,9,2,1,0,5,8,4,7,6,13,16,12,15,14],[27,19,18,11,17,10,3,9,2,1,0,5,8,4,7,6,13,16,12,15,14],[28,19,27,18,11,17,10,3,9,2,1,0,5,8,4,7,6,13,16,12,15,14],[19,18,11,17,10,3,9,2,1,0,5,8,4,7,6,13,16,12,15,14],[30,19,18,11,17,10,3,9,2,1,0,5,8,4,7,6,13,16,12,15,14],[29,31,19,28,27,18,11,17,10,3,9,2,1,0,5,8,4,7,6,13,16,12,15,14,30],[26,32,19,25,24,20,23,18,11,17,10,3,9,2,1,0,5,8,4,7,6,13,16,12,15,14,22,21,29,31,28,27,30],[33,19,26,32,25,24,20,23,18,11,17,10,3,9,2,1,0,5,8,4,7,6,13,16,12,15,14,22,21,29,31,28,27,30],[19,34,18,11,17,10,3,9,2,1,0,5,8,4,7,6,13,16,12,15,14,33,26,32,25,24,20,23,22,21,29,31,28,27,30]]) (.cond (.t 116) (sO [mB 4 false] .ret) .skip)) (.ops [mV 117 11,pU 118 (.bin .add .no (.t 117) (cI 1)),mV 11 118])))) (.ops [pU 119 (.bin .add .no (.t 77) (cI 1)),mV 77 119]))))))) (sO [mV 120 12,lD 121 12 true 14,cL 122 16 [(.t 121)],pU 123 (.len (.t 122)),pU 124 (.bin .add .no (.t 120) (.t 123)),mV 12 124] (sO [lD 125 12 true 14,cL 126 14 [(.t 125)],pU 127 (.len (.t 126)),pU 128 (.bin .gtr .no (.t 127) (cI 8)),mV 129 128,((some (129,false)),(.load 130 12 true (.t 14))),((some (129,false)),(.call (some 131) (.c (.func (.func 16) (.mk []) (.mk []))) [(.t 130)])),((some (129,false)),(.pure 132 (.len (.t 131)))),((some (129,false)),(.pure 133 (.bin .gtr .no (.t 132) (cI 8)))),pU 134 (.pick (.t 129) (.c (.bool true)) (.t 133))] (.cond (.t 134) (sO [mB 4 false] .ret) .skip)))))) (.ops [pU 135 (.bin .add .no (.t 69) (cI 1)),mV 69 135]))))))) (sO [mV 136 11,mV 137 12,pU 138 (.bin .eql .no (.t 136) (.t 137)),mV 4 138] .ret))))))))) 139 [(.tmp 4)])
theorem fLBoth:FA 5=some iLBoth:=by kernel_rfl
end Go.AI
/- The document's ties: whom a node holds, and who holds it, walked. -/
namespace Go.AI
open Go.Proofs
variable {x:Ar}{tbl t' t'':List (Nat×AObj Ar)}{nx n' n'' j a s i k w z f ty lo lo2 b P R off m:Nat}{L M:List (Nat×Nat)}
abbrev Ti:=Nat×Nat×Nat
variable {q:List Ti}
def tiC:List Ti→List Value
 |[]=>[]
 |c::r=>.int .u64 (.ofNat c.1)::.int .u64 (.ofNat c.2.1)::.int .u64 (.ofNat c.2.2)::tiC r
def RowQ(lo:Nat)(t:List (Nat×AObj Ar))(n:Nat)(v:Value)(l:List Ti):Prop:=(l=[]∧v = .slice none 0 0)∨(l≠[]∧∃r,lo≤r∧r<n∧v = .slice (some ⟨r,0,none⟩) l.length l.length∧look r t=some (.grown 3 103 (tiC l)))
theorem RowQ.kx{v:Value}(h:RowQ lo tbl nx v q)(hj:j<lo)(K:Kx j tbl nx t' n'):RowQ lo t' n' v q:=by
 rcases h with h|⟨h0,r,h1,h2,h3,h4⟩
 ·exact .inl h
 ·exact .inr ⟨h0,r,h1,Nat.lt_of_lt_of_le h2 K.1,h3,(K.2 r h2 (by omega)).trans h4⟩
theorem RowQ.kq{v:Value}(h:RowQ lo tbl nx v q)(K:Kq tbl nx t' n'):RowQ lo t' n' v q:=by
 rcases h with h|⟨h0,r,h1,h2,h3,h4⟩
 ·exact .inl h
 ·exact .inr ⟨h0,r,h1,Nat.lt_of_lt_of_le h2 K.1,h3,(K.2 r h2).trans h4⟩
theorem RowQ.get{v:Value}(h:RowQ lo tbl nx v q):∃ad,v = .slice ad q.length q.length∧(q≠[]→∃r,lo≤r∧r<nx∧ad=some ⟨r,0,none⟩∧look r tbl=some (.grown 3 103 (tiC q))):=by
 rcases h with⟨rfl,rfl⟩|⟨h0,r,h1,h2,rfl,h4⟩
 ·exact⟨none,rfl,fun h=>absurd rfl h⟩
 ·exact⟨_,rfl,fun _=>⟨r,h1,h2,rfl,h4⟩⟩
def addD(n:Nat)(out:List (Nat×Nat))(w z:Nat):List (Nat×Nat):=if chkN out n w z=0 then insK out w z else out
def tgtD(n f:Nat):List Ti→List (Nat×Nat)→List (Nat×Nat)
 |[],out=>out
 |c::r,out=>tgtD n f r (if c.1=f then addD n out c.2.1 c.2.2 else out)
def hldD(n f:Nat):List Ti→List (Nat×Nat)→List (Nat×Nat)
 |[],out=>out
 |c::r,out=>hldD n f r (if c.2.1=f then addD n out c.1 c.2.2 else out)
structure DHk(hk:List (HookF Ar)):Prop where
 has:hookL hk 28=none
 add:hookL hk 25=none
 tgt:hookL hk 15=none
 hld:hookL hk 17=none
end Go.AI
/- The document's ties: Make, Break, walked. -/
namespace Go.AI
open Go.Proofs
variable {x:Ar}{tbl t' t'':List (Nat×AObj Ar)}{nx n' n'' j a s i k w z f g ty lo lo2 b P R off m:Nat}{L M:List (Nat×Nat)}{q:List Ti}
abbrev tgQ(q:List Ti)(f:Nat):List (Nat×Nat):=tgtD q.length f q []
abbrev hdQ(q:List Ti)(f:Nat):List (Nat×Nat):=hldD q.length f q []
def mkE(q:List Ti)(f g z:Nat):Nat:=if z=0 then 2 else if f=g then 12 else if hasW (tgQ q f) g=true then 9 else if 8≤(tgQ q f).length∨8≤(hdQ q g).length then 10 else 0
structure EHk(hk:List (HookF Ar)):Prop extends DHk hk where
 mak:hookL hk 11=none
 brk:hookL hk 9=none
def brF(q:List Ti)(f g:Nat):List Ti:=q.filter fun c=>decide (c.1≠f∨c.2.1≠g)
end Go.AI
/- Ties: who is held by whom, by plain lists. -/
namespace Go.AI
variable {f g k w z n:Nat}{L M out:List (Nat×Nat)}{q:List Ti}
theorem insK_le{d:Nat×Nat}(h:d.2≤z):insK (d::L) w z=d::insK L w z:=by
 unfold insK
 have e:insI z (d::L)=insI z L+1:=by
  show(if d.2≤z then insI z L+1 else 0)=_
  rw[if_pos h]
 rw[e];rfl
theorem insK_gt{d:Nat×Nat}(h:¬d.2≤z):insK (d::L) w z=(w,z)::d::L:=by
 unfold insK
 have e:insI z (d::L)=0:=by
  show(if d.2≤z then insI z L+1 else 0)=_
  rw[if_neg h]
 rw[e];rfl
def Srt(L:List (Nat×Nat)):Prop:=L.Pairwise fun a b=>a.2≤b.2
theorem insK_perm:List.Perm (insK L w z) ((w,z)::L):=by
 unfold insK
 refine List.perm_middle.trans (List.Perm.cons _ ?_)
 rw[List.take_append_drop]
theorem Srt.ins:∀{L:List (Nat×Nat)},Srt L→Srt (insK L w z)
 |[],_=>List.pairwise_singleton _ _
 |d::r,h=>by
  obtain⟨h1,h2⟩:=List.pairwise_cons.1 h
  by_cases hd:d.2≤z
  ·rw[insK_le hd]
   refine List.pairwise_cons.2 ⟨fun c hc=>?_,Srt.ins h2⟩
   rcases List.mem_cons.1 (insK_perm.mem_iff.1 hc) with rfl|hc
   ·exact hd
   ·exact h1 c hc
  ·rw[insK_gt hd]
   refine List.pairwise_cons.2 ⟨fun c hc=>?_,h⟩
   rcases List.mem_cons.1 hc with rfl|hc
   ·show z≤c.2;omega
   ·have:=h1 c hc
    show z≤c.2;omega
theorem insK_top:∀{L:List (Nat×Nat)},(∀c,c∈L→¬c.2≤z)→insK L w z=(w,z)::L
 |[],_=>rfl
 |d::r,h=>insK_gt (h d (List.mem_cons_self ..))
theorem dropF_cons_ne{d:Nat×Nat}(h:d.1≠g):dropF (d::L) g=d::dropF L g:=by
 unfold dropF
 rw[List.filter_cons_of_pos (by simp[h])]
theorem dropF_cons_eq{d:Nat×Nat}(h:d.1=g):dropF (d::L) g=dropF L g:=by
 unfold dropF
 rw[List.filter_cons_of_neg (by simp[h])]
theorem dropF_ins_same:∀{L:List (Nat×Nat)},dropF (insK L g z) g=dropF L g
 |[]=>dropF_cons_eq rfl
 |d::r=>by
  by_cases hd:d.2≤z
  ·rw[insK_le hd]
   by_cases hg:d.1=g
   ·rw[dropF_cons_eq hg,dropF_cons_eq hg,dropF_ins_same]
   ·rw[dropF_cons_ne hg,dropF_cons_ne hg,dropF_ins_same]
  ·rw[insK_gt hd,dropF_cons_eq rfl]
theorem dropF_ins:∀{L:List (Nat×Nat)},Srt L→w≠g→dropF (insK L w z) g=insK (dropF L g) w z
 |[],_,hw=>dropF_cons_ne hw
 |d::r,h,hw=>by
  obtain⟨h1,h2⟩:=List.pairwise_cons.1 h
  by_cases hd:d.2≤z
  ·rw[insK_le hd]
   by_cases hg:d.1=g
   ·rw[dropF_cons_eq hg,dropF_cons_eq hg,dropF_ins h2 hw]
   ·rw[dropF_cons_ne hg,dropF_cons_ne hg,insK_le hd,dropF_ins h2 hw]
  ·rw[insK_gt hd,dropF_cons_ne hw,insK_top]
   intro c hc
   have hc':c∈d::r:=(List.mem_filter.1 hc).1
   rcases List.mem_cons.1 hc' with rfl|hc'
   ·exact hd
   ·have:=h1 c hc';omega
def insA:List (Nat×Nat)→List (Nat×Nat)→List (Nat×Nat)
 |out,[]=>out
 |out,c::r=>insA (insK out c.1 c.2) r
theorem insA_app:∀{l:List (Nat×Nat)} {out:List (Nat×Nat)} {c:Nat×Nat},insA out (l++[c])=insK (insA out l) c.1 c.2
 |[],_,_=>rfl
 |d::r,out,c=>by
  show insA (insK out d.1 d.2) (r++[c])=_
  rw[insA_app];rfl
theorem insA_perm:∀{l:List (Nat×Nat)} {out:List (Nat×Nat)},List.Perm (insA out l) (out++l)
 |[],out=>by
  show List.Perm out (out++[])
  rw[List.append_nil]
 |d::r,out=>by
  show List.Perm (insA (insK out d.1 d.2) r) _
  refine insA_perm.trans ?_
  exact(List.Perm.append_right r insK_perm).trans List.perm_middle.symm
theorem insA_drop:∀{l:List (Nat×Nat)} {out:List (Nat×Nat)},Srt out→insA (dropF out g) (dropF l g)=dropF (insA out l) g
 |[],_,_=>rfl
 |c::r,out,h=>by
  show _=dropF (insA (insK out c.1 c.2) r) g
  by_cases hc:c.1=g
  ·rw[dropF_cons_eq hc,← insA_drop h.ins]
   obtain⟨c1,c2⟩:=c
   dsimp only at hc
   subst hc
   rw[dropF_ins_same]
  ·rw[dropF_cons_ne hc,← insA_drop h.ins,dropF_ins h hc];rfl
def tl(q:List Ti)(f:Nat):List (Nat×Nat):=(q.filter fun c=>decide (c.1=f)).map Prod.snd
def Tg(q:List Ti)(f:Nat):List (Nat×Nat):=insA [] (tl q f)
def sw(c:Ti):Ti:=(c.2.1,c.1,c.2.2)
def Hd(q:List Ti)(f:Nat):List (Nat×Nat):=Tg (q.map sw) f
theorem tl_mem{c:Nat×Nat}:c∈tl q f↔(f,c.1,c.2)∈q:=by
 unfold tl
 rw[List.mem_map]
 constructor
 ·rintro⟨d,hd,rfl⟩
  obtain⟨h1,h2⟩:=List.mem_filter.1 hd
  have:d.1=f:=of_decide_eq_true h2
  rw[← this];exact h1
 ·intro h
  exact⟨_,List.mem_filter.2 ⟨h,decide_eq_true rfl⟩,rfl⟩
theorem Tg_mem{c:Nat×Nat}:c∈Tg q f↔(f,c.1,c.2)∈q:=by
 unfold Tg
 rw[insA_perm.mem_iff,List.nil_append,tl_mem]
theorem sw_mem{c:Ti}:c∈q.map sw↔sw c∈q:=by
 rw[List.mem_map]
 constructor
 ·rintro⟨d,hd,rfl⟩;exact hd
 ·intro h;exact⟨_,h,rfl⟩
theorem Hd_mem{c:Nat×Nat}:c∈Hd q f↔(c.1,f,c.2)∈q:=by
 unfold Hd
 rw[Tg_mem,sw_mem];rfl
theorem Tg_len:(Tg q f).length=(tl q f).length:=by
 unfold Tg
 rw[insA_perm.length_eq,List.nil_append]
theorem Tg_add:Tg (q++[(f,g,z)]) k=if f=k then insK (Tg q k) g z else Tg q k:=by
 unfold Tg tl
 rw[List.filter_append]
 by_cases h:f=k
 ·rw[if_pos h,List.filter_cons_of_pos (by simp[h]),List.filter_nil,List.map_append]
  exact insA_app
 ·rw[if_neg h,List.filter_cons_of_neg (by simp[h]),List.filter_nil,List.append_nil]
theorem Hd_add:Hd (q++[(f,g,z)]) k=if g=k then insK (Hd q k) f z else Hd q k:=by
 unfold Hd
 rw[List.map_append]
 exact Tg_add
theorem tl_brk_same:tl (brF q f g) f=dropF (tl q f) g:=by
 unfold tl brF dropF
 rw[List.filter_filter,List.filter_map,List.filter_filter]
 refine congrArg _ (List.filter_congr fun c hc=>?_)
 simp only[Function.comp]
 by_cases h:c.1=f
 ·simp[h]
 ·simp[h]
theorem tl_brk_ne(h:f≠k):tl (brF q f g) k=tl q k:=by
 unfold tl brF
 rw[List.filter_filter]
 refine congrArg _ (List.filter_congr fun c hc=>?_)
 by_cases h2:c.1=k
 ·have:c.1≠f:=fun e=>h (e.symm.trans h2)
  simp[h2,show k≠f from fun e=>h e.symm]
 ·simp[h2]
theorem Tg_brk:Tg (brF q f g) k=if f=k then dropF (Tg q k) g else Tg q k:=by
 unfold Tg
 by_cases h:f=k
 ·subst h
  rw[if_pos rfl,tl_brk_same,← insA_drop (by exact List.Pairwise.nil)];rfl
 ·rw[if_neg h,tl_brk_ne h]
theorem brF_sw:(brF q f g).map sw=brF (q.map sw) g f:=by
 unfold brF
 rw[List.filter_map]
 refine congrArg _ (List.filter_congr fun c hc=>?_)
 simp only[Function.comp,sw]
 exact decide_eq_decide.2 Or.comm
theorem Hd_brk:Hd (brF q f g) k=if g=k then dropF (Hd q k) f else Hd q k:=by
 unfold Hd
 rw[brF_sw]
 exact Tg_brk
structure TiOk(q:List Ti)(k:Nat):Prop where
 ok:∀c,c∈q→c.1≠c.2.1∧(1≤c.1∧c.1≤k)∧(1≤c.2.1∧c.2.1≤k)∧c.2.2≠0
 nd:(q.map fun c=>(c.1,c.2.1)).Nodup
theorem TiOk.sw(h:TiOk q k):TiOk (q.map sw) k:=by
 refine⟨fun c hc=>?_,?_⟩
 ·obtain⟨h1,h2,h3,h4⟩:=h.ok _ (sw_mem.1 hc)
  exact⟨fun e=>h1 e.symm,h3,h2,h4⟩
 ·have h1:=h.nd
  rw[List.map_map]
  have e:(fun c:Ti=>(c.1,c.2.1))∘AI.sw=(fun p:Nat×Nat=>(p.2,p.1))∘fun c:Ti=>(c.1,c.2.1):=rfl
  rw[e,← List.map_map]
  exact List.Pairwise.map _ (fun a b hab e=>hab (by
   obtain⟨a1,a2⟩:=a
   obtain⟨b1,b2⟩:=b
   simp only[Prod.mk.injEq] at e ⊢
   exact⟨e.2,e.1⟩)) h1
theorem TiOk.uni(h:TiOk q k):Uni (Tg q f):=by
 have h1:(Tg q f).Perm (tl q f):=by
  have:=insA_perm (l:=tl q f) (out:=[])
  exact this
 unfold Uni
 refine(h1.map Prod.fst).nodup_iff.2 ?_
 have h2:((q.filter fun c=>decide (c.1=f)).map fun c=>(c.1,c.2.1)).Nodup:=(List.filter_sublist.map _).nodup h.nd
 unfold tl
 rw[List.map_map]
 have e:(q.filter fun c=>decide (c.1=f)).map (fun c=>(c.1,c.2.1))=((q.filter fun c=>decide (c.1=f)).map (Prod.fst∘Prod.snd)).map fun y=>(f,y):=by
  rw[List.map_map]
  refine List.map_congr_left fun c hc=>?_
  have:c.1=f:=of_decide_eq_true (List.mem_filter.1 hc).2
  show(c.1,c.2.1)=(f,c.2.1)
  rw[this]
 rw[e] at h2
 exact List.Pairwise.of_map _ (fun a b hab e=>hab (by rw[e])) h2
theorem TiOk.uniH(h:TiOk q k):Uni (Hd q f):=h.sw.uni
theorem tgtD_eq:∀{q:List Ti} {out:List (Nat×Nat)},(∀c,c∈q→c.2.1≠0∧c.2.2≠0)→(q.map fun c=>(c.1,c.2.1)).Nodup→(∀c,c∈q→c.1=f→∀d,d∈out→d.1≠c.2.1)→out.length+q.length≤n→tgtD n f q out=insA out (tl q f)
 |[],_,_,_,_,_=>rfl
 |c::r,out,h0,hn,hd,hl=>by
  obtain⟨n1,n2⟩:=List.nodup_cons.1 hn
  have h0r:∀d,d∈r→d.2.1≠0∧d.2.2≠0:=fun d hd=>h0 d (List.mem_cons_of_mem _ hd)
  rw[List.length_cons] at hl
  show tgtD n f r (if c.1=f then addD n out c.2.1 c.2.2 else out)=_
  by_cases hc:c.1=f
  ·have hk:chkN out n c.2.1 c.2.2=0:=by
    obtain⟨a1,a2⟩:=h0 c (List.mem_cons_self ..)
    unfold chkN
    rw[if_neg (fun h=>h.elim a1 a2),if_neg,if_neg (by omega)]
    intro h
    obtain⟨d,d1,d2⟩:=List.any_eq_true.1 h
    exact hd c (List.mem_cons_self ..) hc d d1 (of_decide_eq_true d2)
   have e:tl (c::r) f=c.2::tl r f:=by
    unfold tl
    rw[List.filter_cons_of_pos (by simp[hc])];rfl
   rw[if_pos hc,e]
   unfold addD
   rw[if_pos hk]
   refine tgtD_eq h0r n2 (fun d hd1 hd2 y hy=>?_) (by rw[insK_len];omega)
   rcases List.mem_cons.1 (insK_perm.mem_iff.1 hy) with rfl|hy
   ·intro e2
    refine n1 (List.mem_map.2 ⟨d,hd1,?_⟩)
    show(d.1,d.2.1)=(c.1,c.2.1)
    rw[hc,hd2,← e2]
   ·exact hd d (List.mem_cons_of_mem _ hd1) hd2 y hy
  ·have e:tl (c::r) f=tl r f:=by
    unfold tl
    rw[List.filter_cons_of_neg (by simp[hc])]
   rw[if_neg hc,e]
   exact tgtD_eq h0r n2 (fun d hd1=>hd d (List.mem_cons_of_mem _ hd1)) (by omega)
theorem hldD_sw:∀{q:List Ti} {out:List (Nat×Nat)},hldD n f q out=tgtD n f (q.map sw) out
 |[],_=>rfl
 |c::r,out=>by
  show hldD n f r _=tgtD n f (r.map sw) _
  rw[hldD_sw];rfl
theorem TiOk.tg(h:TiOk q k):tgQ q f=Tg q f :=
 tgtD_eq (fun c hc=>⟨by have:=(h.ok c hc).2.2.1;omega,(h.ok c hc).2.2.2⟩) h.nd (fun _ _ _ _ hd=>by cases hd) (by simp)
theorem TiOk.hd(h:TiOk q k):hdQ q f=Hd q f:=by
 show hldD q.length f q []=_
 rw[hldD_sw]
 have e:=h.sw.tg (f:=f)
 unfold tgQ at e
 rw[List.length_map] at e
 exact e
theorem hasW_iff:hasW (Tg q f) g=true↔∃z,(f,g,z)∈q:=by
 unfold hasW
 rw[List.any_eq_true]
 constructor
 ·rintro⟨c,h1,h2⟩
  have:c.1=g:=of_decide_eq_true h2
  rw[← this]
  exact⟨c.2,Tg_mem.1 h1⟩
 ·rintro⟨z,h⟩
  exact⟨(g,z),Tg_mem.2 h,decide_eq_true rfl⟩
theorem hasH_iff:hasW (Hd q g) f=true↔∃z,(f,g,z)∈q:=by
 unfold Hd
 rw[hasW_iff]
 constructor
 ·rintro⟨z,h⟩;exact⟨z,sw_mem.1 h⟩
 ·rintro⟨z,h⟩;exact⟨z,sw_mem.2 h⟩
theorem has_sym:hasW (Hd q g) f=hasW (Tg q f) g:=Bool.eq_iff_iff.2 (hasH_iff.trans hasW_iff.symm)
theorem TiOk.add(h:TiOk q k)(h1:f≠g)(h2:1≤f∧f≤k)(h3:1≤g∧g≤k)(h4:z≠0)(h5:hasW (Tg q f) g≠true):TiOk (q++[(f,g,z)]) k:=by
 refine⟨fun c hc=>?_,?_⟩
 ·rcases List.mem_append.1 hc with hc|hc
  ·exact h.ok c hc
  ·rw[List.mem_singleton] at hc;subst hc
   exact⟨h1,h2,h3,h4⟩
 ·rw[List.map_append,List.nodup_append]
  refine⟨h.nd,by simp,fun a ha b hb e=>h5 (hasW_iff.2 ?_)⟩
  obtain⟨c,c1,c2⟩:=List.mem_map.1 ha
  simp only[List.map_cons,List.map_nil,List.mem_singleton] at hb
  rw[e,hb] at c2
  simp only[Prod.mk.injEq] at c2
  refine⟨c.2.2,?_⟩
  rw[← c2.1,← c2.2];exact c1
theorem TiOk.brk(h:TiOk q k):TiOk (brF q f g) k :=
 ⟨fun c hc=>h.ok c (List.mem_filter.1 hc).1,(List.filter_sublist.map _).nodup h.nd⟩
theorem tie_mk{i j:Nat}(h:TiOk q k):tieE i j z (Tg q (i+1)) (Hd q (j+1))=mkE q (i+1) (j+1) z:=by
 unfold tieE mkE
 rw[h.tg,h.hd]
 by_cases hz:z=0
 ·rw[if_pos hz,if_pos hz]
 rw[if_neg hz,if_neg hz]
 by_cases hij:i=j
 ·rw[if_pos hij,if_pos (show i+1=j+1 by rw[hij])]
 rw[if_neg hij,if_neg (show¬i+1=j+1 by omega)]
 have e1:((Tg q (i+1)).any fun p=>decide (p.1=j+1))=hasW (Tg q (i+1)) (j+1):=rfl
 have e2:((Hd q (j+1)).any fun p=>decide (p.1=i+1))=hasW (Tg q (i+1)) (j+1):=has_sym
 have c1:¬(j+1=0∨z=0):=by omega
 have c2:¬(i+1=0∨z=0):=by omega
 unfold chkN
 rw[e1,e2]
 simp only[if_neg c1,if_neg c2]
 cases hasW (Tg q (i+1)) (j+1) with
 |true=>simp
 |false =>
  by_cases h1:8≤(Tg q (i+1)).length
  ·simp[h1]
  ·by_cases h2:8≤(Hd q (j+1)).length
   ·simp[h1,h2]
   ·simp[h1,h2]
end Go.AI
/- Ties, as they lie in the nodes' pages. -/
namespace Go.AI
variable {x:Ar}{i j k m z P R:Nat}{q:List Ti}
structure Kn(x:Ar)(k:Nat)(q:List Ti):Prop where
 ref:x.refuse<9223372036854775808
 pg:∀i,i<k→∃P,pgAt x.pages (i+2)=some P∧pgW P 32 8=i+1∧tgP P=Tg q (i+1)∧hdP P=Hd q (i+1)
 ok:TiOk q k
theorem tg_far{P Q:Nat}(h:∀o,640≤o→o+8≤768→pgW P o 8=pgW Q o 8):tgP P=tgP Q :=
 pgL_congr (off:=640) (n:=8) (i:=0) fun o h1 h2=>h o (by omega) (by omega)
theorem hd_far{P Q:Nat}(h:∀o,768≤o→o+8≤896→pgW P o 8=pgW Q o 8):hdP P=hdP Q :=
 pgL_congr (off:=768) (n:=8) (i:=0) fun o h1 h2=>h o (by omega) (by omega)
theorem Kn.cut(h:Kn x k q)(hi:i<k)(hj:j<k)(hp:pgAt x.pages (i+2)=some P)(hr:pgAt x.pages (j+2)=some R)(hb:hasW (Tg q (i+1)) (j+1)=true):Kn (cutX x i j P R) k (brF q (i+1) (j+1)):=by
 obtain⟨P',p1,p2,p3,p4⟩:=h.pg i hi
 obtain⟨R',r1,r2,r3,r4⟩:=h.pg j hj
 obtain rfl:P=P':=Option.some.inj (hp.symm.trans p1)
 obtain rfl:R=R':=Option.some.inj (hr.symm.trans r1)
 have hne:i≠j:=by
  obtain⟨z,hz⟩:=hasW_iff.1 hb
  have:=(h.ok.ok _ hz).1
  intro e;subst e;exact this rfl
 have hu:Uni (tgP P):=by rw[p3];exact h.ok.uni
 have hv:Uni (hdP R):=by rw[r4];exact h.ok.uniH
 have hb1:((pgL P 640 (128 / 16) 0).any fun c=>decide (c.1=j+1))=true:=by
  show hasW (tgP P) (j+1)=true
  rw[p3];exact hb
 have hb2:((pgL R 768 (128 / 16) 0).any fun c=>decide (c.1=i+1))=true:=by
  show hasW (hdP R) (i+1)=true
  rw[r4,has_sym];exact hb
 refine⟨h.ref,fun m hm=>?_,h.ok.brk⟩
 by_cases e1:m=i
 ·subst e1
  refine⟨dropP P 640 128 (j+1),(pX_ne (by omega)).trans (pX_at hp),(drop_out (off:=640) (s:=128) hu hb1 (.inl (by decide))).trans p2,?_,?_⟩
  ·refine(drop_read (off:=640) (s:=128) hu hb1).trans ?_
   rw[Tg_brk,if_pos rfl,← p3];rfl
  ·rw[Hd_brk,if_neg (by omega),← p4]
   exact hd_far fun o h1 _=>drop_out (off:=640) (s:=128) hu hb1 (.inr (by omega))
 by_cases e2:m=j
 ·subst e2
  refine⟨dropP R 768 128 (i+1),pX_at ((pX_ne (by omega)).trans hr),(drop_out (off:=768) (s:=128) hv hb2 (.inl (by decide))).trans r2,?_,?_⟩
  ·rw[Tg_brk,if_neg (by omega),← r3]
   exact tg_far fun o _ h2=>drop_out (off:=768) (s:=128) hv hb2 (.inl h2)
  ·refine(drop_read (off:=768) (s:=128) hv hb2).trans ?_
   rw[Hd_brk,if_pos rfl,← r4];rfl
 obtain⟨M,m1,m2,m3,m4⟩:=h.pg m hm
 refine⟨M,(pX_ne (by omega)).trans ((pX_ne (by omega)).trans m1),m2,?_,?_⟩
 ·rw[Tg_brk,if_neg (by omega)];exact m3
 ·rw[Hd_brk,if_neg (by omega)];exact m4
theorem tieE_zero{i j z:Nat}{T H:List (Nat×Nat)}(h:tieE i j z T H=0):z≠0∧i≠j∧chkN T 8 (j+1) z=0∧chkN H 8 (i+1) z=0:=by
 unfold tieE at h
 split at h
 ·cases h
 rename_i h1
 split at h
 ·cases h
 rename_i h2
 split at h
 ·rename_i h3;exact absurd h h3
 rename_i h3
 exact⟨h1,h2,Classical.not_not.1 h3,h⟩
theorem Kn.tie(h:Kn x k q)(hk:k≤12)(hi:i<k)(hj:j<k)(hp:pgAt x.pages (i+2)=some P)(hr:pgAt x.pages (j+2)=some R)(hz:z<18446744073709551616)(hb:tieE i j z (tgP P) (hdP R)=0):Kn (tieX x i j z P R) k (q++[(i+1,j+1,z)]):=by
 obtain⟨P',p1,p2,p3,p4⟩:=h.pg i hi
 obtain⟨R',r1,r2,r3,r4⟩:=h.pg j hj
 obtain rfl:P=P':=Option.some.inj (hp.symm.trans p1)
 obtain rfl:R=R':=Option.some.inj (hr.symm.trans r1)
 obtain⟨z0,hne,hb1,hb2⟩:=tieE_zero hb
 have hb1':chkN (pgL P 640 (128 / 16) 0) (128 / 16) (j+1) z=0:=hb1
 have hb2':chkN (pgL R 768 (128 / 16) 0) (128 / 16) (i+1) z=0:=hb2
 have hno:hasW (Tg q (i+1)) (j+1)≠true:=by
  intro hh
  obtain⟨_,_,h3,_⟩:=chk_zero hb1
  rw[p3] at h3
  obtain⟨c,c1,c2⟩:=List.any_eq_true.1 hh
  exact h3 c c1 (of_decide_eq_true c2)
 refine⟨h.ref,fun m hm=>?_,h.ok.add (by omega) (by omega) (by omega) z0 hno⟩
 by_cases e1:m=i
 ·subst e1
  refine⟨addP P 640 128 (j+1) z,(pX_ne (by omega)).trans (pX_at hp),(add_out (off:=640) (s:=128) hb1' (by omega) hz (.inl (by decide))).trans p2,?_,?_⟩
  ·refine(add_read (off:=640) (s:=128) hb1' (by omega) hz).trans ?_
   rw[Tg_add,if_pos rfl,← p3];rfl
  ·rw[Hd_add,if_neg (by omega),← p4]
   exact hd_far fun o h1 _=>add_out (off:=640) (s:=128) hb1' (by omega) hz (.inr (by omega))
 by_cases e2:m=j
 ·subst e2
  refine⟨addP R 768 128 (i+1) z,pX_at ((pX_ne (by omega)).trans hr),(add_out (off:=768) (s:=128) hb2' (by omega) hz (.inl (by decide))).trans r2,?_,?_⟩
  ·rw[Tg_add,if_neg (by omega),← r3]
   exact tg_far fun o _ h2=>add_out (off:=768) (s:=128) hb2' (by omega) hz (.inl h2)
  ·refine(add_read (off:=768) (s:=128) hb2' (by omega) hz).trans ?_
   rw[Hd_add,if_pos rfl,← r4];rfl
 obtain⟨M,m1,m2,m3,m4⟩:=h.pg m hm
 refine⟨M,(pX_ne (by omega)).trans ((pX_ne (by omega)).trans m1),m2,?_,?_⟩
 ·rw[Tg_add,if_neg (by omega)];exact m3
 ·rw[Hd_add,if_neg (by omega)];exact m4
theorem pgL_zero{off n:Nat}(h:pgW P off 8=0):pgL P off n 0=[]:=by
 cases n with
 |zero=>rfl
 |succ n =>
  unfold pgL
  rw[Nat.zero_mul,Nat.add_zero,if_pos h]
theorem kn_new(h:chkR x k=true):Kn x k []:=by
 unfold chkR at h
 rw[Bool.and_eq_true,blt_iff,decide_eq_true_eq] at h
 refine⟨h.1,fun i hi=>?_,⟨fun c hc=>(by cases hc),List.Pairwise.nil⟩⟩
 have h1:=List.all_eq_true.1 h.2 i (List.mem_range.2 hi)
 unfold nodeR at h1
 cases hp:pgAt x.pages (i+2) with
 |none=>rw[hp] at h1;cases h1
 |some P =>
  rw[hp] at h1
  simp only[Bool.and_eq_true,Nat.beq_eq] at h1
  exact⟨P,rfl,h1.1,pgL_zero h1.2.1,pgL_zero h1.2.2⟩
end Go.AI
/- The law of ties between nodes: what stays, and what one act does. -/
namespace Go.AI
open Go.Proofs
variable {x:Ar}{tbl t' t'':List (Nat×AObj Ar)}{nx n' n'' j a s i k w z f g ty lo lo2 b P R off m:Nat}{L M:List (Nat×Nat)}{q:List Ti}
theorem pv_conv8{env:List (Nat×Value)}{x:Opd}{n:Nat}(hx:evo env x=some (.int .u8 (.ofNat n)))(hn:n<256):peval env (.conv .i64 x)=some (vI n):=by
 have h:wrapF .i64 (Int.ofNat n)=Int.ofNat n:=wrap64 (by simp only[zO];omega) (by simp only[zO];omega)
 simp only[peval,hx,h]
theorem pv_remN{env:List (Nat×Value)}{e:EqK}{x y:Opd}{a b:Nat}(hx:evo env x=some (vI a))(hy:evo env y=some (vI b))(hb:0<b):peval env (.bin .rem e x y)=some (vI (a % b)):=by
 obtain⟨c,rfl⟩:∃c,b=c+1:=⟨b-1,by omega⟩
 have h3:Nat.mod a (c+1)=a % (c+1):=rfl
 simp only[peval,hx,hy,binVal,intBin,divF,if_true,h3,Option.map]
theorem pv_remU8{env:List (Nat×Value)}{e:EqK}{x y:Opd}{a b:Nat}(hx:evo env x=some (.int .u8 (.ofNat a)))(hy:evo env y=some (.int .u8 (.ofNat (b+1)))):peval env (.bin .rem e x y)=some (.int .u8 (.ofNat (a % (b+1)))):=by
 have h3:Nat.mod a (b+1)=a % (b+1):=rfl
 simp only[peval,hx,hy,binVal,intBin,divF,if_true,h3,Option.map]
theorem pv_cvU64{env:List (Nat×Value)}{x:Opd}{v:Nat}(hx:evo env x=some (vI v))(hv:v<18446744073709551616):peval env (.conv .u64 x)=some (.int .u64 (.ofNat v)):=by
 simp only[peval,hx,wrapU_lt hv]
theorem pv_idxW{env:List (Nat×Value)}{x y:Opd}{e b n c i:Nat}(hx:evo env x=some (.slice (some ⟨b,0,none⟩) n c))(hy:evo env y=some (vI i))(h:i<n):peval env (.idxL e x y)=some (.pointer (some ⟨b,0+i*e,none⟩)):=by
 have h1:Nat.blt i n=true:=by rw[Nat.blt_eq];exact h
 have h2:natOf (vI i)=some i:=rfl
 simp only[peval,hx,hy,h2,h1,cond_true]
theorem nodes_get:∀{n s i:Nat},i<n→takeN (nodesC s n) (0+i*12) 12=some (ndN (s+i))
 |0,_,_,h=>absurd h (Nat.not_lt_zero _)
 |n+1,s,0,_=>rfl
 |n+1,s,i+1,h=>by
  have ih:=nodes_get (n:=n) (s:=s+1) (i:=i) (by omega)
  rw[show s+1+i=s+(i+1) by omega] at ih
  rw[show 0+(i+1)*12=0+i*12+1+1+1+1+1+1+1+1+1+1+1+1 by omega]
  exact ih
theorem untie_kn{hk:List (HookF Ar)}(hh:UHk hk){n:Nat}(hn:110≤n)(hk2:k≤12)(hi:i<k)(hj:j<k)(hl:look 2 tbl=some (.ext x))(h2:2<nx)(h:Kn x k q) :
  ∃u h',RW hk (n+7) 8 [vN i,vN j] ⟨tbl,nx⟩=some (u,h')∧(∃x',u=errV (if hasW (Tg q (i+1)) (j+1)=true then 0 else 8)∧Kx 2 tbl nx h'.tbl h'.next∧look 2 h'.tbl=some (.ext x')∧Kn x' k (if hasW (Tg q (i+1)) (j+1)=true then brF q (i+1) (j+1) else q)):=by
 obtain⟨P,p1,p2,p3,p4⟩:=h.pg i hi
 obtain⟨R,r1,r2,r3,r4⟩:=h.pg j hj
 have hne:hasW (tgP P) (j+1)=true→i≠j:=by
  rw[p3]
  intro hb
  obtain⟨z,hz⟩:=hasW_iff.1 hb
  have:=(h.ok.ok _ hz).1
  intro e;subst e;exact this rfl
 obtain⟨u,h',e1,e2,e3,e4⟩:=untie_run hh hn (by omega) (by omega) hl h2 h.ref p1 r1 p2 r2 (by rw[p3];exact h.ok.uni) hne (by rw[p3,r4,has_sym];exact id)
 refine⟨u,h',e1,_,by rw[e2,p3],e3,e4,?_⟩
 rw[p3]
 split
 ·rename_i hb;exact h.cut hi hj p1 r1 hb
 ·exact h
theorem tie_kn{hk:List (HookF Ar)}(hh:UHk hk){n:Nat}(hn:110≤n)(hk2:k≤12)(hi:i<k)(hj:j<k)(hz:z<18446744073709551616)(hl:look 2 tbl=some (.ext x))(h2:2<nx)(h:Kn x k q) :
  ∃u h',RW hk (n+7) 10 [vN i,vN j,.int .u64 (.ofNat z)] ⟨tbl,nx⟩=some (u,h')∧(∃x',u=errV (mkE q (i+1) (j+1) z)∧Kx 2 tbl nx h'.tbl h'.next∧look 2 h'.tbl=some (.ext x')∧Kn x' k (if mkE q (i+1) (j+1) z=0 then q++[(i+1,j+1,z)] else q)):=by
 obtain⟨P,p1,p2,p3,p4⟩:=h.pg i hi
 obtain⟨R,r1,r2,r3,r4⟩:=h.pg j hj
 obtain⟨u,h',e1,e2,e3,e4⟩:=tie_run (i:=i) (k:=j) (z:=z) hh hn (by omega) (by omega) hl h2 h.ref p1 r1 p2 r2 hz
 have he:tieE i j z (tgP P) (hdP R)=mkE q (i+1) (j+1) z:=by rw[p3,r4];exact tie_mk h.ok
 refine⟨u,h',e1,_,by rw[e2,he],e3,e4,?_⟩
 rw[← he]
 split
 ·rename_i hb;exact h.tie hk2 hi hj p1 r1 hz hb
 ·exact h
theorem tgt_kn{hk:List (HookF Ar)}(hh:THk hk){n:Nat}(hn:110≤n)(hk2:k≤12)(hi:i<k)(hl:look 2 tbl=some (.ext x))(h2:2<nx)(h:Kn x k q) :
  ∃u h',RW hk (n+4) 14 [vN i] ⟨tbl,nx⟩=some (u,h')∧(RowK nx h'.tbl h'.next u (Tg q (i+1))∧Kq tbl nx h'.tbl h'.next):=by
 obtain⟨P,p1,p2,p3,p4⟩:=h.pg i hi
 rw[← p3]
 exact targets_run hh hn (by omega) hl h2 h.ref p1
theorem hld_kn{hk:List (HookF Ar)}(hh:THk hk){n:Nat}(hn:110≤n)(hk2:k≤12)(hi:i<k)(hl:look 2 tbl=some (.ext x))(h2:2<nx)(h:Kn x k q) :
  ∃u h',RW hk (n+4) 16 [vN i] ⟨tbl,nx⟩=some (u,h')∧(RowK nx h'.tbl h'.next u (Hd q (i+1))∧Kq tbl nx h'.tbl h'.next):=by
 obtain⟨P,p1,p2,p3,p4⟩:=h.pg i hi
 rw[← p4]
 exact holders_run hh hn (by omega) hl h2 h.ref p1
theorem Kn.tlen(h:Kn x k q)(hi:i<k):(Tg q (i+1)).length≤8:=by
 obtain⟨P,p1,p2,p3,p4⟩:=h.pg i hi
 rw[← p3];exact pgL_len _ _
theorem Kn.hlen(h:Kn x k q)(hi:i<k):(Hd q (i+1)).length≤8:=by
 obtain⟨P,p1,p2,p3,p4⟩:=h.pg i hi
 rw[← p4];exact pgL_len _ _
abbrev ActK:=Bool×Nat×Nat×Nat
def actK(a:ActK):List Value:=[.bool a.1,.int .u8 (.ofNat a.2.1),.int .u8 (.ofNat a.2.2.1),.int .u64 (.ofNat a.2.2.2)]
def actsK:List ActK→List Value
 |[]=>[]
 |a::r=>actK a++actsK r
theorem actsK_len:∀l:List ActK,(actsK l).length=l.length*4
 |[]=>rfl
 |a::r=>by
  have:(actsK (a::r)).length=4+(actsK r).length:=by
   show(actK a++actsK r).length=_
   rw[List.length_append];rfl
  rw[this,actsK_len r,List.length_cons];omega
theorem actsK_get:∀{l:List ActK} {i:Nat} {a:ActK},l[i]? = some a→takeN (actsK l) (i*4) 4=some (actK a)
 |[],_,_,h=>by simp at h
 |b::r,0,a,h=>by
  simp only[List.getElem?_cons_zero,zI] at h;subst h
  rfl
 |b::r,i+1,a,h=>by
  have ih:=actsK_get (l:=r) (i:=i) (a:=a) (by simpa using h)
  rw[show(i+1)*4=i*4+1+1+1+1 by omega]
  exact ih
theorem winK_load{l:List ActK}{i:Nat}{a:ActK}(h0:look 0 tbl=some (.ro off (actsK l)))(h:l[i]? = some a):(⟨[],tbl,nx⟩:Mem Ar).load ⟨0,off+i*4,none⟩ 4=some (actK a):=by
 have hg:(⟨[],tbl,nx⟩:Mem Ar).get 0=some (.ro off (actsK l)):=h0
 have hb:Nat.ble off (off+i*4)=true:=by rw[Nat.ble_eq];omega
 have hs:Nat.sub (off+i*4) off=i*4:=by show off+i*4-off=i*4;omega
 simp only[Mem.load,hg,cellsO,winO,hb,cond_true,hs,actsK_get h]
structure TSt(off:Nat)(l:List ActK)(ka k lo:Nat)(x:Ar)(q:List Ti)(tb:List (Nat×AObj Ar))(nb:Nat):Prop where
 l0:look 0 tb=some (.ro off (actsK l))
 l2:look 2 tb=some (.ext x)
 lk:look ka tb=some (.grown 12 44 (nodesC 0 k))
 kn:Kn x k q
 h1:2<ka
 h2:ka<lo
 h3:lo≤nb
variable {l:List ActK}{ka:Nat}
theorem TSt.kq(h:TSt off l ka k lo x q tbl nx)(K:Kq tbl nx t' n'):TSt off l ka k lo x q t' n':=by
 have a:=h.h1
 have c:=h.h2
 have d:=h.h3
 exact⟨(K.2 0 (by omega)).trans h.l0,(K.2 2 (by omega)).trans h.l2,(K.2 ka (by omega)).trans h.lk,h.kn,a,c,Nat.le_trans d K.1⟩
theorem TSt.kx{x':Ar}{q':List Ti}(h:TSt off l ka k lo x q tbl nx)(K:Kx 2 tbl nx t' n')(hl:look 2 t'=some (.ext x'))(hk:Kn x' k q'):TSt off l ka k lo x' q' t' n':=by
 have a:=h.h1
 have c:=h.h2
 have d:=h.h3
 exact⟨(K.2 0 (by omega) (by decide)).trans h.l0,hl,(K.2 ka (by omega) (by omega)).trans h.lk,hk,a,c,Nat.le_trans d K.1⟩
theorem TSt.nd(h:TSt off l ka k lo x q tbl nx)(hi:i<k):(⟨[],tbl,nx⟩:Mem Ar).load ⟨ka,0+i*12,none⟩ 12=some (ndN i):=by
 have e:=nodes_get (s:=0) hi
 rw[Nat.zero_add i] at e
 exact mem_load h.lk rfl e
end Go.AI
/- The law of ties between nodes: each is answered as the document says. -/
namespace Go.AI
open Go.Proofs
variable {x:Ar}{tbl t' t'':List (Nat×AObj Ar)}{nx n' n'' j a s i k w z f g ty lo lo2 b P R off m ka:Nat}{L M:List (Nat×Nat)}{q:List Ti}{l:List ActK}
noncomputable def runNodes:List Value→Hp Ar→Option (Value×Hp Ar):=fun vs h=>run F1 cleanT (hookL h19a) 1000 7 vs h
noncomputable def hRT:List (HookF Ar):=(6,constH (.bool true))::(7,runNodes)::(52,recH)::(53,allW)::(75,putW)::(49,insertH 2 67)::hV4
theorem hRT_w:UHk hRT:=⟨⟨⟨⟨⟨⟨⟨⟨⟨⟨_,rfl⟩,rfl,rfl,rfl,rfl,rfl⟩,rfl,rfl,rfl,rfl⟩,⟨_,rfl⟩,rfl,rfl⟩,rfl⟩,rfl,rfl⟩,rfl,rfl⟩,⟨_,rfl⟩,rfl,rfl,rfl,rfl,rfl,rfl⟩,rfl,rfl,rfl⟩,rfl,rfl⟩
theorem WO.nst4{call:CallFn Ar}{env:List (Nat×Value)}{K:List (Nat×Value)→Mem Ar→Prop}{l:List (Option (Nat×Bool)×IOp)}{d:Nat}{y:Opd}{c1 c2 c3 c4 e1 e2 e3 e4:Value}(hy:evo ((d,.pointer (some ⟨nx,0,none⟩))::env) y=some (.agg ⟨[e1,e2,e3,e4]⟩))
  (k:WO call l ((d,.pointer (some ⟨nx,0,none⟩))::env) ⟨[],(nx,.cells [e1,e2,e3,e4])::tbl,nx+1⟩ K):WO call ((none,.new d true [c1,c2,c3,c4])::(none,.store 4 (.t d) y)::l) env ⟨[],tbl,nx⟩ K:=by
 refine WO.new (WO.step (i:=.store 4 (.t d) y) (v:=undef) (m':=⟨[],(nx,.cells [e1,e2,e3,e4])::tbl,nx+1⟩) ?_ k)
 have hm:=mem_store (nx:=nx+1) (vs:=[e1,e2,e3,e4]) (o:=0) (ob':=.cells [e1,e2,e3,e4]) (tbl:=(nx,AObj.cells [c1,c2,c3,c4])::tbl) (i:=nx) (by rw[zC,if_pos rfl]) rfl (zL rfl) rfl
 rw[updH] at hm
 exact estep_store (by show look d (_::_)=_;rw[zC,if_pos rfl]) hy rfl rfl hm
end Go.AI
