/- So many nodes made: what is known of them. -/
import Derived.Test.YtohdfkipbgnkoaaGreatDoorTw
import Derived.Test.YtohdfkipbgnkoaaGreatDoorKAy
import Derived.Test.YtohdfkipbgnkoaaGreatDoorKSp
noncomputable section
namespace Go.AI
open Go.Proofs
open Go.Fo (Wd Un Pre)
variable {x:Ar}{S:List Nat}
def D5(x:Ar)(a:Nat):Bool :=
 (match dX x (.ofNat a) with|some 0=>true|_=>false)&&(Nat.beq (Nat.mod a 4096) 0&&((match bt x.pages (Nat.div a 4096) with|some _=>true|none=>false)&&(Nat.blt a 4611686018427387904&&(!Nat.beq a 0&&(Nat.beq (wd x (a+40)) 0&&(Nat.beq (wd x (a+48)) 0&&(Nat.beq (wd x (a+56)) 0&&(Nat.beq (wd x (a+64)) 0&&Nat.beq (wd x (a+72)) 0))))))))
def CV(x:Ar)(S:List Nat):Bool:=Nat.blt x.refuse 9223372036854775808&&S.all (D5 x)
theorem yO(h:CV x S=true):TW x S:=by
 unfold CV at h;rw[Zi,aD,Zt] at h;have hn:∀a,a∈S→(dX x (.ofNat a)=some 0∧a % 4096=0∧(∃P,bt x.pages (a / 4096)=some P)∧a<4611686018427387904∧a≠0)∧wd x (a+40)=0∧wd x (a+48)=0∧wd x (a+56)=0∧wd x (a+64)=0∧wd x (a+72)=0:=by
  intro a ha;have h1:=List.all_eq_true.1 h.2 a ha;unfold D5 at h1;simp only[Zi,Zg] at h1;obtain⟨q1,q2,q3,q4,q5,q6,q7,q8,q9,q10⟩:=h1;refine⟨⟨?_,q2,?_,?_,?_⟩,q6,q7,q8,q9,q10⟩
  ·split at q1
   ·assumption
   ·cases q1
  ·change (match bt x.pages (a / 4096) with|some _=>true|none=>false)=true at q3;cases hp:bt x.pages (a / 4096) with
   |some P=>exact⟨P,rfl⟩
   |none=>rw[hp] at q3;cases q3
  ·rw[aD,Zt] at q4;exact q4
  ·intro e;rw[e] at q5;cases q5
 have hw:∀o a,a∈S→wd x (a+o)=0→wdS x S o a=0:=fun o a ha h0=>(cf ha).trans h0
 refine TW.of (kids:=fun _=>[]) (d:=fun _=>0) h.1 (fun a ha=>(hn a ha).1.2.2.2.1) (fun a ha=>?_) ?_
 ·obtain⟨⟨q1,q2,⟨P,q3⟩,_⟩,_⟩:=hn a ha;exact⟨⟨a / 4096,P,by omega,q3⟩,q1⟩
 ·have par0:∀a,a∈S→(wds x S).par a=0:=fun a ha=>hw 40 a ha (hn a ha).2.1
  refine⟨fun h0=>(hn 0 h0).1.2.2.2.2 rfl,(fun a _ b hb=>by cases hb),fun b hb h0=>absurd (par0 b hb) h0,(fun _ _=>by simp),fun b hb _=>rfl,fun b hb h0=>absurd (par0 b hb) h0,fun a ha=>hw 48 a ha (hn a ha).2.2.1,fun a ha=>hw 56 a ha (hn a ha).2.2.2.1,fun _ _=>trivial⟩
def bdB(x:Ar):Bool:=Nat.beq x.pages.length 30&&((match bt x.pages 0 with|some _=>true|none=>false)&&((match bt x.pages 1 with|some _=>true|none=>false)&&Nat.beq (de x (.ofNat 104) (.ofNat 8)) 6432341300767115597))
def Oi(x:Ar)(S:List Nat):Bool:=S.all fun a=>Nat.beq (wd x (a+80)) 0&&(Nat.beq (wd x (a+88)) 0&&Nat.beq (wd x (a+96)) 0)
def rrO:List Value:=[.pointer (some ⟨2,0,none⟩),vI 4096,vI 64,.pointer (some ⟨2,0,none⟩),vI 4096,vI 64]
def rbO:List Value:=[vI 1,vI 29,.pointer (some ⟨2,0,none⟩),vI 0,vI 256,.pointer (some ⟨2,0,none⟩),vI 0,vI 88,.pointer (some ⟨2,0,none⟩),vI 257,vI 29]
def fc(k off:Nat)(acts:List Value):Prop :=
 ∃(x:Ar) (S:List Nat) (ka:Nat) (rw:List Value) (tbl:LO) (nx:Nat),
  run F1 ac (ab cr) 1000 5 [vI k] ⟨[(0,.ro off acts)],1⟩=some (.tuple ⟨[.pointer (some ⟨249,0,none⟩),.slice (some ⟨ka,0,none⟩) S.length S.length,.bool true]⟩,⟨tbl,nx⟩) ∧
  aa 0 tbl=some (.ro off acts)∧aa 2 tbl=some (.ext x)∧aa 3 tbl=some (.cells (.pointer (some ⟨2,0,none⟩)::rbO))∧aa 241 tbl=some (.cells (.pointer (some ⟨3,0,none⟩)::rrO)) ∧
  aa 249 tbl=some (.cells (.pointer (some ⟨241,0,none⟩)::rw))∧aa ka tbl=some (.grown 1 3 (S.map nI))∧249<ka∧ka<nx∧CV x S=true∧bdB x=true∧Oi x S=true∧S.length=k∧S.Nodup
end Go.AI
namespace Go.AI
open Go.Proofs
def ly:Nat:=Nat.shiftLeft 0x1 324
def ls:Nat:=Nat.add (Nat.add (Nat.add (Nat.add (Nat.shiftLeft 0x6e01 1536) (Nat.shiftLeft 0x2 1292)) (Nat.shiftLeft 0x45444f4e 1088)) (Nat.shiftLeft 0x1 256)) 0x1000000004b4e4843
def mD:Nat:=Nat.add (Nat.add (Nat.add (Nat.add (Nat.shiftLeft 0x6e01 1536) (Nat.shiftLeft 0x3 1292)) (Nat.shiftLeft 0x45444f4e 1088)) (Nat.shiftLeft 0x2 256)) 0x2000000004b4e4843
def ot:Nat:=Nat.add (Nat.add (Nat.add (Nat.add (Nat.shiftLeft 0x6e01 1536) (Nat.shiftLeft 0x4 1292)) (Nat.shiftLeft 0x45444f4e 1088)) (Nat.shiftLeft 0x3 256)) 0x3000000004b4e4843
def ph:Nat:=Nat.add (Nat.add (Nat.add (Nat.add (Nat.shiftLeft 0x6e01 1536) (Nat.shiftLeft 0x5 1292)) (Nat.shiftLeft 0x45444f4e 1088)) (Nat.shiftLeft 0x4 256)) 0x4000000004b4e4843
def pP:Nat:=Nat.add (Nat.add (Nat.add (Nat.add (Nat.shiftLeft 0x6e01 1536) (Nat.shiftLeft 0x6 1292)) (Nat.shiftLeft 0x45444f4e 1088)) (Nat.shiftLeft 0x5 256)) 0x5000000004b4e4843
def rY:Nat:=Nat.add (Nat.add (Nat.add (Nat.add (Nat.shiftLeft 0x6e01 1536) (Nat.shiftLeft 0x7 1292)) (Nat.shiftLeft 0x45444f4e 1088)) (Nat.shiftLeft 0x6 256)) 0x6000000004b4e4843
def tT:Nat:=Nat.add (Nat.add (Nat.add (Nat.add (Nat.shiftLeft 0x6e01 1536) (Nat.shiftLeft 0x8 1292)) (Nat.shiftLeft 0x45444f4e 1088)) (Nat.shiftLeft 0x7 256)) 0x7000000004b4e4843
def LF:Nat:=Nat.add (Nat.shiftLeft 0x30303030303030303 2056) (Nat.shiftLeft 0x59444455424c494d0000000000000009 768)
def NV:Nat:=Nat.add (Nat.shiftLeft 0x30303 2056) (Nat.shiftLeft 0x59444455424c494d0000000000000003 768)
def O0:Nat:=Nat.add (Nat.add (Nat.add (Nat.shiftLeft 0x3 1292) (Nat.shiftLeft 0x45444f4e 1088)) (Nat.shiftLeft 0x2 256)) 0x2000000004b4e4843
def sJ:Nat:=Nat.add (Nat.add (Nat.add (Nat.add (Nat.shiftLeft 0x6e01 1536) (Nat.shiftLeft 0x9 1292)) (Nat.shiftLeft 0x45444f4e 1088)) (Nat.shiftLeft 0x8 256)) 0x8000000004b4e4843
def N0:Nat:=Nat.add (Nat.shiftLeft 0x303030303 2056) (Nat.shiftLeft 0x59444455424c494d0000000000000005 768)
def wy:Nat:=Nat.add (Nat.add (Nat.add (Nat.add (Nat.shiftLeft 0x6e01 1536) (Nat.shiftLeft 0xa 1292)) (Nat.shiftLeft 0x45444f4e 1088)) (Nat.shiftLeft 0x9 256)) 0x9000000004b4e4843
def AF:Nat:=Nat.add (Nat.add (Nat.add (Nat.add (Nat.shiftLeft 0x6e01 1536) (Nat.shiftLeft 0xb 1292)) (Nat.shiftLeft 0x45444f4e 1088)) (Nat.shiftLeft 0xa 256)) 0xa000000004b4e4843
def Jq:Nat:=Nat.add (Nat.shiftLeft 0x30303030303030303030303 2056) (Nat.shiftLeft 0x59444455424c494d000000000000000c 768)
def J1:Nat:=Nat.add (Nat.add (Nat.add (Nat.add (Nat.shiftLeft 0x6e01 1536) (Nat.shiftLeft 0xc 1292)) (Nat.shiftLeft 0x45444f4e 1088)) (Nat.shiftLeft 0xb 256)) 0xb000000004b4e4843
def Et:Value:=(.agg (.mk (ap [(vp 241 0),(vp 2 0),(vi 12448),(vi 32),(vw 2),(vp 2 0),(vi 12448),(vi 32),(vi 1024),(vp 2 0),(vi 12320),(vi 992)] [])))
def EO:Value:=(.agg (.mk (ap [(vp 241 0),(vp 2 0),(vi 8352),(vi 32),(vw 1),(vp 2 0),(vi 8352),(vi 32),(vi 1024),(vp 2 0),(vi 8224),(vi 992)] [])))
def MF:Value:=(.agg (.mk (ap [(vp 241 0),(vp 2 0),(vi 20640),(vi 32),(vw 4),(vp 2 0),(vi 20640),(vi 32),(vi 1024),(vp 2 0),(vi 20512),(vi 992)] [])))
def LR:Value:=(.agg (.mk (ap [(vp 241 0),(vp 2 0),(vi 16544),(vi 32),(vw 3),(vp 2 0),(vi 16544),(vi 32),(vi 1024),(vp 2 0),(vi 16416),(vi 992)] [])))
def Fj:Value:=(.agg (.mk (ap [(vp 241 0),(vp 2 0),(vi 32928),(vi 32),(vw 7),(vp 2 0),(vi 32928),(vi 32),(vi 1024),(vp 2 0),(vi 32800),(vi 992)] [])))
def pi:Value:=(.string (.mk (.mk [(UInt8.ofNat 110)])))
def Ci:Value:=(.agg (.mk [(vp 2 0),(vi 12320),(vi 992)]))
def KR:Value:=(.agg (.mk [(vi 12288),(vi 0),(vw 2),(vi 0)]))
def u7:Value:=(.tuple (.mk [(vp 249 0),(.bool true)]))
def xE:Value:=(.agg (.mk [(vp 2 0),(vi 36864),(vi 32)]))
def tr:Value:=(.agg (.mk [(.slice (some (.mk 4007 0 none)) 4 4)]))
def sw:Value:=(.slice (some (.mk 755 0 none)) 1 1)
def vy:Value:=(.agg (.mk [(vp 2 0),(vi 4096),(vi 64)]))
def FP:Value:=(.string (.mk (.mk (ru 24 (UInt8.ofNat 0) []))))
def vg:Value:=(.slice (some (.mk 4000 0 none)) 4 4)
def yY:Value:=(.tuple (.mk [EO,(vi 0)]))
def Ak:Value:=(.tuple (.mk [Et,(vi 0)]))
def zh:Value:=(.slice (some (.mk 1767 0 none)) 3 3)
def zM:Value:=(.slice (some (.mk 1261 0 none)) 2 2)
def gE:Value:=(.slice none 0 0)
def NQ:Value:=(.agg (.mk [(vp 241 0),(vp 2 0),(vi 12448),(vi 32),(vw 2)]))
def JH:Value:=(.slice (some (.mk 754 0 none)) 1 1)
def AO:Value:=(.agg (.mk (ap [(vp 241 0),(vp 2 0),(vi 45216),(vi 32),(vw 10),(vp 2 0),(vi 45216),(vi 32),(vi 1024),(vp 2 0),(vi 45088),(vi 992)] [])))
def zw:Value:=(.agg (.mk (ap [(vp 241 0),(vp 2 0),(vi 41120),(vi 32),(vw 9),(vp 2 0),(vi 41120),(vi 32),(vi 1024),(vp 2 0),(vi 40992),(vi 992)] [])))
def zy:Value:=(.agg (.mk (ap [(vp 241 0),(vp 2 0),(vi 37024),(vi 32),(vw 8),(vp 2 0),(vi 37024),(vi 32),(vi 1024),(vp 2 0),(vi 36896),(vi 992)] [])))
def E3:Value:=(.slice (some (.mk 2273 0 none)) 4 4)
def te:Value:=(.slice (some (.mk 3791 0 none)) 7 7)
def Jv:Value:=(.agg (.mk [(vi 36864),(vi 0),(vw 8),(vi 0)]))
def Ko:Value:=(.tuple (.mk [KR,(vi 0)]))
def zg:Value:=(.tuple (.mk [(vi 0),(.bool false)]))
def Jw:Value:=(.tuple (.mk [LR,(vi 0)]))
def JG:Value:=(.tuple (.mk [MF,(vi 0)]))
def JN:Value:=(.tuple (.mk [(vi 36864),(vi 0)]))
def O7:Value:=(.slice (some (.mk 1256 0 none)) 1 1)
def Ab:Value:=(.tuple (.mk [Fj,(vi 0)]))
def JP:Value:=(.tuple (.mk [FP,(vi 0)]))
def J9:Value:=(.tuple (.mk [xE,(vi 0)]))
def oK:Value:=(.pointer none)
def Fe:Value:=(.slice (some (.mk 3285 0 none)) 6 6)
def NW:Value:=(.slice (some (.mk 2272 0 none)) 1 1)
def NU:Value:=(.slice (some (.mk 1766 0 none)) 1 1)
def OQ:Value:=(.slice (some (.mk 1260 0 none)) 1 1)
def Od:Value:=(.agg (.mk [(vi 36864),(vi 0),(vw 0),(vi 0)]))
def Jt:Value:=(.slice (some (.mk 4007 0 none)) 4 4)
def J8:Value:=(.slice (some (.mk 3790 0 none)) 1 1)
def vR:Value:=(.agg (.mk [(vp 2 0),(vi 49152),(vi 32)]))
def uY:Value:=(.slice (some (.mk 5525 0 none)) 4 4)
def yW:Value:=(.slice (some (.mk 5518 0 none)) 4 4)
def At:Value:=(.slice (some (.mk 4803 0 none)) 9 9)
def Al:Value:=(.slice (some (.mk 4297 0 none)) 8 8)
def OC:Value:=(.tuple (.mk []))
def EM:Value:=(.slice (some (.mk 5309 0 none)) 10 10)
def gZ:AObj Ar:=(.cells (ap [(vp 241 0),(vi 1),(vi 29),(vi 1),(.int .i64 (.negSucc 0)),(.slice (some (.mk 231 0 none)) 1 1),gE,gE,gE,gE,gE,(vi 16),gE,gE] []))
def gY:AObj Ar:=(.cells (ap [(vp 2 0),(vi 1),(vi 29),(vp 2 0),(vi 0),(vi 256),(vp 2 0),(vi 0),(vi 88),(vp 2 0),(vi 257),(vi 29)] []))
def hJ:AObj Ar:=(.cells [(vp 3 0),(vp 2 0),(vi 4096),(vi 64),(vp 2 0),(vi 4096),(vi 64)])
def Li:AObj Ar:=(.ext (.mk (some LF::some ly::some ls::some mD::some ot::some ph::some pP::some rY::some tT::some 0::n20) false 0))
def HD:AObj Ar:=(.cells (ap [oK,oK,(vi 0),(vi 0),(vw 0),oK,(vi 0),(vi 0),(vi 0),oK,(vi 0),(vi 0)] []))
def g8:AObj Ar:=(.grown 3 177 [(vi 0),(vi 0),(.bool true)])
def NX:AObj Ar:=(.cells (ap [(vp 241 0),(vp 2 0),(vi 12448),(vi 32),(vw 2),(vp 2 0),(vi 12448),(vi 32),(vi 1024),(vp 2 0),(vi 12320),(vi 992)] []))
def NE:AObj Ar:=(.cells (ap [(vp 241 0),(vp 2 0),(vi 8352),(vi 32),(vw 1),(vp 2 0),(vi 8352),(vi 32),(vi 1024),(vp 2 0),(vi 8224),(vi 992)] []))
def Pw:AObj Ar:=(.ext (.mk (some NV::some ly::some ls::some O0::none::none::none::none::none::none::n20) false 0))
def Fv:AObj Ar:=(.grown 1 3 [(vi 8192),(vi 12288),(vi 16384),(vi 20480),(vi 24576),(vi 28672),(vi 32768)])
def Jr:AObj Ar:=(.ext (.mk (some N0::some ly::some ls::some mD::some ot::some ph::none::none::none::none::n20) false 0))
def OW:AObj Ar:=(.ext (.mk (some LF::some ly::some ls::some mD::some ot::some ph::some pP::some rY::some tT::some 147573952590939834435::n20) false 0))
def zZ:AObj Ar:=(.ext (.mk (some Jq::some ly::some ls::some mD::some ot::some ph::some pP::some rY::some tT::some sJ::some wy::some AF::some 0::none::n16) false 0))
def wY:AObj Ar:=(.cells [(vi 36864),(vi 0),(vw 8),(vi 0)])
def sR:AObj Ar:=(.cells [(vi 0),(vi 0),(vw 0),(vi 0)])
def NN:AObj Ar:=(.cells (ap [(vp 241 0),(vp 2 0),(vi 20640),(vi 32),(vw 4),(vp 2 0),(vi 20640),(vi 32),(vi 1024),(vp 2 0),(vi 20512),(vi 992)] []))
def OR:AObj Ar:=(.cells (ap [(vp 241 0),(vp 2 0),(vi 16544),(vi 32),(vw 3),(vp 2 0),(vi 16544),(vi 32),(vi 1024),(vp 2 0),(vi 16416),(vi 992)] []))
def Jp:AObj Ar:=(.cells (ap [(vp 241 0),(vp 2 0),(vi 32928),(vi 32),(vw 7),(vp 2 0),(vi 32928),(vi 32),(vi 1024),(vp 2 0),(vi 32800),(vi 992)] []))
def vE:AObj Ar:=(.grown 1 3 [(vi 8192),(vi 12288),(vi 16384),(vi 20480),(vi 24576),(vi 28672),(vi 32768),(vi 36864),(vi 40960),(vi 45056)])
def z9:AObj Ar:=(.grown 1 3 [(vi 4),(vi 4),(vi 8),(vi 8)])
def J2:AObj Ar:=(.cells [(vw 1263421507),(vw 0),(vw 8),(vw 0)])
def Ap:AObj Ar:=(.cells [(vi 4),(vi 4),(vi 8),(vi 8)])
def JQ:AObj Ar:=(.grown 1 3 [(vi 8192),(vi 12288),(vi 16384),(vi 20480)])
def M9:AObj Ar:=(.cells [(vi 12288),(vi 0),(vw 2),(vi 0)])
def N3:AObj Ar:=(.cells [(vp 2 0),(vi 12320),(vi 992)])
def NP:AObj Ar:=(.cells [Jt])
def uQ:AObj Ar:=(.cells [(vi 49152),(vi 0),(vw 11),(vi 0)])
def JF:AObj Ar:=(.cells [(vw 1263421507),(vw 0),(vw 11),(vw 0)])
def sP1(k off:Nat)(acts:List Value):Ms Ar:=⟨997,[(.ops (cdO F1 44 [1,1,1,0] 6)),
  (.code (cdF F1 44 [1,0,0,1,0,1])),
  (.ret 44 998 (some 63) [(62,pi),(61,Ci),(60,(vp 1103 9)),(59,OC),(58,(vw 2)),(57,Et),(56,(vi 0)),(55,(vi 12288)),(54,(vp 1066 0)),(53,NQ),(52,(vp 1103 0)),(51,(vp 1103 0)),(50,(vp 1103 0)),(49,(vi 0)),(48,Ci),(47,(vp 1103 9)),(46,(vi 0)),(45,Ci),(44,(vp 1103 9)),(13,(vi 0)),(12,(vp 1103 0)),(43,(vi 0)),(42,Et),(38,Ak),(41,Ak),(40,KR),(39,(vp 241 0)),(35,(.bool false)),(34,(vi 0)),(11,(vi 0)),(10,(vp 1066 0)),(33,(vi 0)),(32,KR),(27,Ko),(31,Ko),(30,(vw 2)),(29,(vi 0)),(28,(vp 241 0)),(22,(.bool false)),(25,(.bool false)),(24,(vi 1)),(23,pi),(18,(.bool false)),(20,(.bool false)),(19,(vw 2)),(14,(.bool false)),(16,(.bool false)),(15,(vp 241 0)),(9,(vi 0)),(8,(vp 756 0)),(0,(vp 241 0)),(1,(vi 0)),(2,(vw 2)),(3,pi)] [(1103,NX),(1066,M9),(756,HD)] 1254 (cdR F1 44)),
  (.ops []),
  (.code (cdF F1 18 [1,1,1,1,1,1,1,1,1,1])),
  (.ret 18 999 (some 29) [(28,(vw 2)),(27,(vi 2)),(26,(vi 1)),(25,(vp 241 0)),(24,(vp 249 0)),(23,(vp 249 0)),(22,(vp 249 0)),(8,(vi 1)),(20,(vi 1)),(19,(.bool true)),(18,(vi 1)),(42,(vi 1)),(7,sw),(41,sw),(40,JH),(39,(vi 8192)),(38,EO),(37,gE),(6,(.bool true)),(36,(.bool true)),(35,(.bool true)),(34,(vi 0)),(33,(.bool true)),(32,(.bool true)),(10,(vi 0)),(9,(vp 751 0)),(31,(vi 0)),(30,EO),(21,yY),(29,yY),(28,(vw 1)),(27,(vi 1)),(26,(vi 0)),(25,(vp 241 0)),(24,(vp 249 0)),(23,(vp 249 0)),(22,(vp 249 0)),(8,(vi 0)),(20,(vi 0)),(19,(.bool true)),(18,(vi 0)),(17,(vi k)),(16,(vi k)),(15,(vi k)),(7,gE),(6,(.bool true)),(5,(vp 249 0)),(14,(.bool true)),(13,(vp 249 0)),(11,u7),(12,u7),(4,(.bool false)),(3,gE),(2,oK),(0,(vi k))] [(751,NE)] 756 (cdR F1 18)),
  (.ops (cdO F1 5 [1,1,1,0,1,0,0,1,1,0,0,1,0] 8)),
  (.code (cdF F1 5 [1,1,1,0,1,0,0,1,1,0,0,1,1])),
  (.block 1),
  (.code (cdF F1 5 [1,1,1,0,1,0,0,1,1,1])),
  (.loop (cdF F1 5 [1,1,1,0,1,0,0]) 997),
  (.block 0),
  (.code (cdF F1 5 [1,1,1,1])),
  (.ret 5 1000 (some 0) [] [] 1 (cdR F1 5)),
  (.ops [])],.norm,
 [(31,O7),(30,(vb 1)),(29,(vi 1)),(28,pi),(27,(vi 160)),(26,Ci),(24,(.bool false)),(23,(vi 0)),(9,(vi 0)),(22,(vi 0)),(21,(vi 16)),(20,(vi 160)),(19,Ci),(14,(.bool false)),(18,(.bool false)),(17,(vi 16)),(16,(vi 1)),(15,pi),(10,(.bool false)),(13,(.bool false)),(12,(.bool true)),(11,(vi 16)),(8,(vi 0)),(4,(vp 1254 0)),(0,Ci),(1,(vi 160)),(2,(vi 16)),(3,pi)],
 ⟨[(1254,N3)],
 [(1256,(.cells [(vb 1)])),(755,(.grown 1 3 [(vi 8192)])),(754,(.cells [(vi 8192)])),(249,gZ),(241,hJ),(231,g8),(230,(.cells [(vi 0),(vi 0),(.bool true)])),(3,gY),(2,Pw),(0,(.ro off acts))],1257⟩⟩
def sP2(k off:Nat)(acts:List Value):Ms Ar:=⟨996,[(.code (cdF F1 72 [1,0,1,0,0,1])),
  (.loop (cdF F1 72 [1,0,1,0,0]) 991),
  (.block 0),
  (.code (cdF F1 72 [1,1])),
  (.ret 72 997 (some 35) [(34,(vi 0)),(33,vy),(32,(vp 241 4)),(31,(vp 241 0)),(30,(vp 241 0)),(8,(vp 2276 0)),(17,(.bool false)),(27,(.bool false)),(26,(.bool false)),(25,(vw 5)),(24,(.bool false)),(23,(.bool false)),(22,(.bool false)),(21,(vi 0)),(20,(.bool false)),(19,(.bool false)),(18,(vi 0)),(13,(.bool false)),(15,(.bool false)),(14,(vp 241 0)),(7,(vi 0)),(6,(vp 2275 0)),(0,(vp 241 0)),(1,(vi 0)),(2,(vw 5))] [(2276,sR),(2275,sR)] 2277 (cdR F1 72)),
  (.ops (cdO F1 39 [1,1,1,0,0] 6)),
  (.code (cdF F1 39 [1,1,1,0,1])),
  (.code (cdF F1 39 [1,1,1,1])),
  (.ret 39 998 (some 31) [(30,(vw 5)),(29,(vi 0)),(28,(vp 241 0)),(22,(.bool false)),(25,(.bool false)),(24,(vi 1)),(23,pi),(18,(.bool false)),(20,(.bool false)),(19,(vw 5)),(14,(.bool false)),(16,(.bool false)),(15,(vp 241 0)),(9,(vi 0)),(8,(vp 2274 0)),(0,(vp 241 0)),(1,(vi 0)),(2,(vw 5)),(3,pi)] [(2274,HD)] 2275 (cdR F1 39)),
  (.ops (cdO F1 18 [1,1,0] 4)),
  (.code (cdF F1 18 [1,1,1])),
  (.ret 18 999 (some 29) [(28,(vw 5)),(27,(vi 5)),(26,(vi 4)),(25,(vp 241 0)),(24,(vp 249 0)),(23,(vp 249 0)),(22,(vp 249 0)),(8,(vi 4)),(20,(vi 4)),(19,(.bool true)),(18,(vi 4)),(42,(vi 4)),(7,E3),(41,E3),(40,NW),(39,(vi 20480)),(38,MF),(37,zh),(6,(.bool true)),(36,(.bool true)),(35,(.bool true)),(34,(vi 0)),(33,(.bool true)),(32,(.bool true)),(10,(vi 0)),(9,(vp 2269 0)),(31,(vi 0)),(30,MF),(21,JG),(29,JG),(28,(vw 4)),(27,(vi 4)),(26,(vi 3)),(25,(vp 241 0)),(24,(vp 249 0)),(23,(vp 249 0)),(22,(vp 249 0)),(8,(vi 3)),(20,(vi 3)),(19,(.bool true)),(18,(vi 3)),(42,(vi 3)),(7,zh),(41,zh),(40,NU),(39,(vi 16384)),(38,LR),(37,zM),(6,(.bool true)),(36,(.bool true)),(35,(.bool true)),(34,(vi 0)),(33,(.bool true)),(32,(.bool true)),(10,(vi 0)),(9,(vp 1763 0)),(31,(vi 0)),(30,LR),(21,Jw),(29,Jw),(28,(vw 3)),(27,(vi 3)),(26,(vi 2)),(25,(vp 241 0)),(24,(vp 249 0)),(23,(vp 249 0)),(22,(vp 249 0)),(8,(vi 2)),(20,(vi 2)),(19,(.bool true)),(18,(vi 2)),(42,(vi 2)),(7,zM),(41,zM),(40,OQ),(39,(vi 12288)),(38,Et),(37,sw),(6,(.bool true)),(36,(.bool true)),(35,(.bool true)),(34,(vi 0)),(33,(.bool true)),(32,(.bool true)),(10,(vi 0)),(9,(vp 1257 0)),(31,(vi 0)),(30,Et),(21,Ak),(29,Ak),(28,(vw 2)),(27,(vi 2)),(26,(vi 1)),(25,(vp 241 0)),(24,(vp 249 0)),(23,(vp 249 0)),(22,(vp 249 0)),(8,(vi 1)),(20,(vi 1)),(19,(.bool true)),(18,(vi 1)),(42,(vi 1)),(7,sw),(41,sw),(40,JH),(39,(vi 8192)),(38,EO),(37,gE),(6,(.bool true)),(36,(.bool true)),(35,(.bool true)),(34,(vi 0)),(33,(.bool true)),(32,(.bool true)),(10,(vi 0)),(9,(vp 751 0)),(31,(vi 0)),(30,EO),(21,yY),(29,yY),(28,(vw 1)),(27,(vi 1)),(26,(vi 0)),(25,(vp 241 0)),(24,(vp 249 0)),(23,(vp 249 0)),(22,(vp 249 0)),(8,(vi 0)),(20,(vi 0)),(19,(.bool true)),(18,(vi 0)),(17,(vi k)),(16,(vi k)),(15,(vi k)),(7,gE),(6,(.bool true)),(5,(vp 249 0)),(14,(.bool true)),(13,(vp 249 0)),(11,u7),(12,u7),(4,(.bool false)),(3,gE),(2,oK),(0,(vi k))] [(2269,NN),(1763,OR),(1257,NX),(751,NE)] 2274 (cdR F1 18)),
  (.ops (cdO F1 5 [1,1,1,0,1,0,0,1,1,0,0,1,0] 8)),
  (.code (cdF F1 5 [1,1,1,0,1,0,0,1,1,0,0,1,1])),
  (.block 1),
  (.code (cdF F1 5 [1,1,1,0,1,0,0,1,1,1])),
  (.loop (cdF F1 5 [1,1,1,0,1,0,0]) 994),
  (.block 0),
  (.code (cdF F1 5 [1,1,1,1])),
  (.ret 5 1000 (some 0) [] [] 1 (cdR F1 5)),
  (.ops [])],.norm,
 [(10,(.bool true)),(9,(vi 4)),(6,(vi 4)),(12,(vi 4)),(11,(vi 3)),(16,(.bool false)),(15,(vi 0)),(14,(vi 3)),(13,vy),(10,(.bool true)),(9,(vi 3)),(8,(vi 0)),(7,(vi 0)),(5,(.bool false)),(4,(vi 0)),(2,(vp 2277 0)),(0,vy),(1,(vi 0))],
 ⟨[(2277,(.cells [(vp 2 0),(vi 4096),(vi 64)]))],
 [(2273,JQ),(2272,(.cells [(vi 20480)])),(1766,(.cells [(vi 16384)])),(1260,(.cells [(vi 12288)])),(754,(.cells [(vi 8192)])),(249,gZ),(241,hJ),(231,g8),(230,(.cells [(vi 0),(vi 0),(.bool true)])),(3,gY),(2,Jr),(0,(.ro off acts))],2290⟩⟩
def sP3(k off:Nat)(acts:List Value):Ms Ar:=⟨995,[(.ret 120 996 (some 0) [] [(3989,(.cells [(vp 2 0),(vi 36864),(vi 32)])),(3988,wY)] 4009 (cdR F1 120)),
  (.drc (cdD F1 75 [1,1,1,1,0]) (cdB F1 75 [1,1,1,1,0]) (List.drop 12 (cdD F1 75 [1,1,1,1,0])) 3990 11 (some 52) [(39,(.bool false)),(38,(vi 0)),(6,(vi 0)),(5,(vp 3989 0)),(37,(vi 0)),(36,xE),(31,J9),(35,J9),(34,(vi 36864)),(33,(vp 3988 0)),(32,(vp 2 0)),(10,(.bool false)),(30,(.bool false)),(29,(.bool false)),(28,(vi 4096)),(27,(vi 0)),(26,(vp 3988 1)),(25,(.bool false)),(24,(.bool false)),(23,(.bool false)),(22,(vi 0)),(21,(vp 3988 3)),(20,(.bool false)),(19,(.bool false)),(18,(.bool false)),(17,(vi 0)),(16,(vi 36864)),(15,(vp 3988 0)),(14,(.bool false)),(13,(.bool false)),(12,(vi 36864)),(11,(vp 3988 0)),(7,(.bool false)),(9,(.bool false)),(8,(vp 2 0)),(4,(vi 0)),(3,(vp 3988 0)),(0,(vp 2 0)),(1,Jv)] (.mk [(10,((some 51),vg)),(9,((some 50),(vw 0))),(8,((some 49),(vi 0))),(7,((some 48),(vp 3988 3))),(6,((some 47),(vw 8))),(5,((some 46),(vp 3988 2))),(4,((some 45),(vw 0))),(3,((some 44),(vi 0))),(2,((some 43),(vp 3988 1))),(1,((some 42),xE)),(0,((some 41),tr))] [(.mk [(3989,(.cells [(vp 2 0),(vi 36864),(vi 32)])),(3988,wY)] [(4007,z9),(4006,(.cells [])),(4004,Ap),(3791,Fv),(3790,(.cells [(vi 32768)])),(3284,(.cells [(vi 28672)])),(2778,(.cells [(vi 24576)])),(2272,(.cells [(vi 20480)])),(1766,(.cells [(vi 16384)])),(1260,(.cells [(vi 12288)])),(754,(.cells [(vi 8192)])),(249,gZ),(241,hJ),(231,g8),(230,(.cells [(vi 0),(vi 0),(.bool true)])),(3,gY),(2,Li),(0,(.ro off acts))] 4009),(.mk [(3989,(.cells [(vp 2 0),(vi 36864),(vi 32)])),(3988,wY)] [(3791,Fv),(3790,(.cells [(vi 32768)])),(3284,(.cells [(vi 28672)])),(2778,(.cells [(vi 24576)])),(2272,(.cells [(vi 20480)])),(1766,(.cells [(vi 16384)])),(1260,(.cells [(vi 12288)])),(754,(.cells [(vi 8192)])),(249,gZ),(241,hJ),(231,g8),(230,(.cells [(vi 0),(vi 0),(.bool true)])),(3,gY),(2,Li),(0,(.ro off acts))] 4003)] [0] [(10,(true,J2))] [(8,((.ld (.mk 3988 3 none) 1),[(vi 0)])),(6,((.ld (.mk 3988 2 none) 1),[(vw 8)])),(3,((.ld (.mk 3988 1 none) 1),[(vi 0)])),(1,((.ld (.mk 3989 0 none) 3),[(vp 2 0),(vi 36864),(vi 32)]))])),
  (.code (cdF F1 75 [1,0,0,1,0,1])),
  (.ret 75 997 (some 0) [] [(3794,wY),(3793,sR)] 3988 (cdR F1 75)),
  (.drc (cdD F1 39 [1,1,1,1,1,0]) (cdB F1 39 [1,1,1,1,1,0]) (List.drop 9 (cdD F1 39 [1,1,1,1,1,0])) 3979 8 (some 71) [(62,(vp 3794 2)),(61,(vw 8)),(60,Od),(59,(vi 0)),(58,(vi 36864)),(55,(.bool false)),(54,(vi 0)),(12,(vi 0)),(11,(vi 36864)),(53,(vi 0)),(52,(vi 36864)),(48,JN),(51,JN),(50,(vi 0)),(49,(vp 241 0)),(38,(.bool false)),(10,(.bool false)),(9,(vi 0)),(37,(.bool false)),(36,(vi 0)),(29,zg),(35,zg),(34,(vi 0)),(33,vy),(32,(vp 241 4)),(31,(vp 241 0)),(30,(vp 241 0)),(8,(vp 3794 0)),(17,(.bool false)),(27,(.bool false)),(26,(.bool false)),(25,(vw 8)),(24,(.bool false)),(23,(.bool false)),(22,(.bool false)),(21,(vi 0)),(20,(.bool false)),(19,(.bool false)),(18,(vi 0)),(13,(.bool false)),(15,(.bool false)),(14,(vp 241 0)),(7,(vi 0)),(6,(vp 3793 0)),(0,(vp 241 0)),(1,(vi 0)),(2,(vw 8))] (.mk [(7,((some 70),Jv)),(6,((some 69),(vp 2 0))),(5,((some 68),(vp 3 0))),(4,((some 67),(vp 3 0))),(3,((some 66),(vp 3 0))),(2,((some 65),(vp 241 0))),(1,((some 64),(vp 241 0))),(0,((some 63),(vp 241 0)))] [(.mk [(3794,wY),(3793,sR)] [(3791,Fv),(3790,(.cells [(vi 32768)])),(3284,(.cells [(vi 28672)])),(2778,(.cells [(vi 24576)])),(2272,(.cells [(vi 20480)])),(1766,(.cells [(vi 16384)])),(1260,(.cells [(vi 12288)])),(754,(.cells [(vi 8192)])),(249,gZ),(241,hJ),(231,g8),(230,(.cells [(vi 0),(vi 0),(.bool true)])),(3,gY),(2,Li),(0,(.ro off acts))] 3988)] [] [] [(7,((.ld (.mk 3794 0 none) 4),[(vi 36864),(vi 0),(vw 8),(vi 0)])),(6,((.ld (.mk 3 0 none) 1),[(vp 2 0)])),(3,((.ld (.mk 241 0 none) 1),[(vp 3 0)]))])),
  (.code (cdF F1 39 [1,1,1,1,1,1])),
  (.ret 39 998 (some 31) [(30,(vw 8)),(29,(vi 0)),(28,(vp 241 0)),(22,(.bool false)),(25,(.bool false)),(24,(vi 1)),(23,pi),(18,(.bool false)),(20,(.bool false)),(19,(vw 8)),(14,(.bool false)),(16,(.bool false)),(15,(vp 241 0)),(9,(vi 0)),(8,(vp 3792 0)),(0,(vp 241 0)),(1,(vi 0)),(2,(vw 8)),(3,pi)] [(3792,HD)] 3793 (cdR F1 39)),
  (.ops (cdO F1 18 [1,1,0] 4)),
  (.code (cdF F1 18 [1,1,1])),
  (.ret 18 999 (some 29) [(28,(vw 8)),(27,(vi 8)),(26,(vi 7)),(25,(vp 241 0)),(24,(vp 249 0)),(23,(vp 249 0)),(22,(vp 249 0)),(8,(vi 7)),(20,(vi 7)),(19,(.bool true)),(18,(vi 7)),(42,(vi 7)),(7,te),(41,te),(40,J8),(39,(vi 32768)),(38,Fj),(37,Fe),(6,(.bool true)),(36,(.bool true)),(35,(.bool true)),(34,(vi 0)),(33,(.bool true)),(32,(.bool true)),(10,(vi 0)),(9,(vp 3787 0)),(31,(vi 0)),(30,Fj),(21,Ab),(29,Ab),(28,(vw 7)),(27,(vi 7)),(26,(vi 6)),(25,(vp 241 0)),(24,(vp 249 0)),(23,(vp 249 0)),(22,(vp 249 0)),(8,(vi 6)),(20,(vi 6)),(19,(.bool true)),(17,(vi k)),(16,(vi k)),(15,(vi k)),(5,(vp 249 0)),(14,(.bool true)),(13,(vp 249 0)),(11,u7),(12,u7),(4,(.bool false)),(3,gE),(2,oK),(0,(vi k))] [(3787,Jp)] 3792 (cdR F1 18)),
  (.ops (cdO F1 5 [1,1,1,0,1,0,0,1,1,0,0,1,0] 8)),
  (.code (cdF F1 5 [1,1,1,0,1,0,0,1,1,0,0,1,1])),
  (.block 1),
  (.code (cdF F1 5 [1,1,1,0,1,0,0,1,1,1])),
  (.loop (cdF F1 5 [1,1,1,0,1,0,0]) 991),
  (.block 0),
  (.code (cdF F1 5 [1,1,1,1])),
  (.ret 5 1000 (some 0) [] [] 1 (cdR F1 5)),
  (.ops [])],.ret,
 [(6,(vi 0)),(45,(.bool false)),(44,(vi 4)),(54,(vi 4)),(53,(vi 0)),(52,(vw 0)),(51,(vi 3)),(50,xE),(49,tr),(12,(vw 0)),(11,(vi 3)),(48,(vw 0)),(47,(vp 4000 3)),(46,(vi 3)),(45,(.bool true)),(44,(vi 3)),(54,(vi 3)),(53,(vi 0)),(52,(vw 8)),(51,(vi 2)),(50,xE),(49,tr),(12,(vw 8)),(11,(vi 2)),(48,(vw 8)),(47,(vp 4000 2)),(46,(vi 2)),(45,(.bool true)),(43,(vi 4)),(42,vg),(40,(.bool false)),(39,(vi 0)),(10,(vi 0)),(9,FP),(38,(vi 0)),(37,FP),(32,JP),(36,JP),(35,(vi 24)),(34,tr),(33,xE),(22,(.bool false)),(21,(vi 4)),(31,(vi 4)),(30,(.bool false)),(29,(.bool true)),(28,(vw 0)),(27,(vi 3)),(26,tr),(8,(vw 0)),(7,(vi 3)),(25,(vw 0)),(24,(vp 4000 3)),(23,(vi 3)),(20,(vi 4)),(19,vg),(18,(.bool false)),(17,(vi 4)),(16,Jt),(15,(vp 4009 0)),(14,(vi 4)),(13,vg),(6,(vi 0)),(4,(vp 4010 0)),(3,(vp 4009 0)),(0,tr),(1,xE),(2,vg)],
 ⟨[(4010,(.cells [(vp 2 0),(vi 36864),(vi 32)])),(4009,NP)],
 [(4000,J2),(4007,z9),(4006,(.cells [])),(4004,Ap),(3791,Fv),(3790,(.cells [(vi 32768)])),(3284,(.cells [(vi 28672)])),(2778,(.cells [(vi 24576)])),(2272,(.cells [(vi 20480)])),(1766,(.cells [(vi 16384)])),(1260,(.cells [(vi 12288)])),(754,(.cells [(vi 8192)])),(249,gZ),(241,hJ),(231,g8),(230,(.cells [(vi 0),(vi 0),(.bool true)])),(3,gY),(2,OW),(0,(.ro off acts))],4102⟩⟩
def sP4(k off:Nat)(acts:List Value):Ms Ar:=⟨995,[(.ops (cdO F1 120 [1,1,0,1,0,0,1,1,0,0,0] 4)),
  (.code (cdF F1 120 [1,1,0,1,0,0,1,1,0,0,1])),
  (.block 1),
  (.code (cdF F1 120 [1,1,0,1,0,0,1,1,1])),
  (.loop (cdF F1 120 [1,1,0,1,0,0]) 991),
  (.block 0),
  (.code (cdF F1 120 [1,1,1])),
  (.ret 120 996 (some 0) [] [(5507,(.cells [(vp 2 0),(vi 49152),(vi 32)])),(5506,uQ)] 5527 (cdR F1 120)),
  (.drc (cdD F1 75 [1,1,1,1,0]) (cdB F1 75 [1,1,1,1,0]) (List.drop 12 (cdD F1 75 [1,1,1,1,0])) 5508 11 (some 52) [(39,(.bool false)),(38,(vi 0)),(6,(vi 0)),(5,(vp 5507 0)),(37,(vi 0)),(36,vR),(31,(.tuple (.mk [vR,(vi 0)]))),(35,(.tuple (.mk [vR,(vi 0)]))),(34,(vi 49152)),(33,(vp 5506 0)),(32,(vp 2 0)),(10,(.bool false)),(30,(.bool false)),(29,(.bool false)),(28,(vi 4096)),(27,(vi 0)),(26,(vp 5506 1)),(25,(.bool false)),(24,(.bool false)),(23,(.bool false)),(22,(vi 0)),(21,(vp 5506 3)),(20,(.bool false)),(19,(.bool false)),(18,(.bool false)),(17,(vi 0)),(16,(vi 49152)),(15,(vp 5506 0)),(14,(.bool false)),(13,(.bool false)),(12,(vi 49152)),(11,(vp 5506 0)),(7,(.bool false)),(9,(.bool false)),(8,(vp 2 0)),(4,(vi 0)),(3,(vp 5506 0)),(0,(vp 2 0)),(1,(.agg (.mk [(vi 49152),(vi 0),(vw 11),(vi 0)])))] (.mk [(10,((some 51),yW)),(9,((some 50),(vw 0))),(8,((some 49),(vi 0))),(7,((some 48),(vp 5506 3))),(6,((some 47),(vw 11))),(5,((some 46),(vp 5506 2))),(4,((some 45),(vw 0))),(3,((some 44),(vi 0))),(2,((some 43),(vp 5506 1))),(1,((some 42),vR)),(0,((some 41),(.agg (.mk [uY]))))] [(.mk [(5507,(.cells [(vp 2 0),(vi 49152),(vi 32)])),(5506,uQ)] [(5525,z9),(5524,(.cells [])),(5522,Ap),(5309,vE),(5308,(.cells [(vi 45056)])),(4802,(.cells [(vi 40960)])),(4296,(.cells [(vi 36864)])),(3790,(.cells [(vi 32768)])),(3284,(.cells [(vi 28672)])),(2778,(.cells [(vi 24576)])),(2272,(.cells [(vi 20480)])),(1766,(.cells [(vi 16384)])),(1260,(.cells [(vi 12288)])),(754,(.cells [(vi 8192)])),(249,gZ),(241,hJ),(231,g8),(230,(.cells [(vi 0),(vi 0),(.bool true)])),(3,gY),(2,zZ),(0,(.ro off acts))] 5527),(.mk [(5507,(.cells [(vp 2 0),(vi 49152),(vi 32)])),(5506,uQ)] [(5309,vE),(5308,(.cells [(vi 45056)])),(4802,(.cells [(vi 40960)])),(4296,(.cells [(vi 36864)])),(3790,(.cells [(vi 32768)])),(3284,(.cells [(vi 28672)])),(2778,(.cells [(vi 24576)])),(2272,(.cells [(vi 20480)])),(1766,(.cells [(vi 16384)])),(1260,(.cells [(vi 12288)])),(754,(.cells [(vi 8192)])),(249,gZ),(241,hJ),(231,g8),(230,(.cells [(vi 0),(vi 0),(.bool true)])),(3,gY),(2,zZ),(0,(.ro off acts))] 5521)] [0] [(10,(true,JF))] [(8,((.ld (.mk 5506 3 none) 1),[(vi 0)])),(6,((.ld (.mk 5506 2 none) 1),[(vw 11)])),(3,((.ld (.mk 5506 1 none) 1),[(vi 0)])),(1,((.ld (.mk 5507 0 none) 3),[(vp 2 0),(vi 49152),(vi 32)]))])),
  (.code (cdF F1 75 [1,0,0,1,0,1])),
  (.ret 75 997 (some 0) [] [(5312,uQ),(5311,sR)] 5506 (cdR F1 75)),
  (.drc (cdD F1 39 [1,1,1,1,1,0]) (cdB F1 39 [1,1,1,1,1,0]) (List.drop 9 (cdD F1 39 [1,1,1,1,1,0])) 5497 8 (some 71) [(62,(vp 5312 2)),(61,(vw 11)),(60,(.agg (.mk [(vi 49152),(vi 0),(vw 0),(vi 0)]))),(59,(vi 0)),(58,(vi 49152)),(55,(.bool false)),(54,(vi 0)),(12,(vi 0)),(11,(vi 49152)),(53,(vi 0)),(52,(vi 49152)),(48,(.tuple (.mk [(vi 49152),(vi 0)]))),(51,(.tuple (.mk [(vi 49152),(vi 0)]))),(50,(vi 0)),(49,(vp 241 0)),(38,(.bool false)),(10,(.bool false)),(9,(vi 0)),(37,(.bool false)),(36,(vi 0)),(29,zg),(35,zg),(34,(vi 0)),(33,vy),(32,(vp 241 4)),(31,(vp 241 0)),(30,(vp 241 0)),(8,(vp 5312 0)),(17,(.bool false)),(27,(.bool false)),(26,(.bool false)),(25,(vw 11)),(24,(.bool false)),(23,(.bool false)),(22,(.bool false)),(21,(vi 0)),(20,(.bool false)),(19,(.bool false)),(18,(vi 0)),(13,(.bool false)),(15,(.bool false)),(14,(vp 241 0)),(7,(vi 0)),(6,(vp 5311 0)),(0,(vp 241 0)),(1,(vi 0)),(2,(vw 11))] (.mk [(7,((some 70),(.agg (.mk [(vi 49152),(vi 0),(vw 11),(vi 0)])))),(6,((some 69),(vp 2 0))),(5,((some 68),(vp 3 0))),(4,((some 67),(vp 3 0))),(3,((some 66),(vp 3 0))),(2,((some 65),(vp 241 0))),(1,((some 64),(vp 241 0))),(0,((some 63),(vp 241 0)))] [(.mk [(5312,uQ),(5311,sR)] [(5309,vE),(5308,(.cells [(vi 45056)])),(4802,(.cells [(vi 40960)])),(4296,(.cells [(vi 36864)])),(3790,(.cells [(vi 32768)])),(3284,(.cells [(vi 28672)])),(2778,(.cells [(vi 24576)])),(2272,(.cells [(vi 20480)])),(1766,(.cells [(vi 16384)])),(1260,(.cells [(vi 12288)])),(754,(.cells [(vi 8192)])),(249,gZ),(241,hJ),(231,g8),(230,(.cells [(vi 0),(vi 0),(.bool true)])),(3,gY),(2,zZ),(0,(.ro off acts))] 5506)] [] [] [(7,((.ld (.mk 5312 0 none) 4),[(vi 49152),(vi 0),(vw 11),(vi 0)])),(6,((.ld (.mk 3 0 none) 1),[(vp 2 0)])),(3,((.ld (.mk 241 0 none) 1),[(vp 3 0)]))])),
  (.code (cdF F1 39 [1,1,1,1,1,1])),
  (.ret 39 998 (some 31) [(30,(vw 11)),(29,(vi 0)),(28,(vp 241 0)),(22,(.bool false)),(25,(.bool false)),(24,(vi 1)),(23,pi),(18,(.bool false)),(20,(.bool false)),(19,(vw 11)),(14,(.bool false)),(16,(.bool false)),(15,(vp 241 0)),(9,(vi 0)),(8,(vp 5310 0)),(0,(vp 241 0)),(1,(vi 0)),(2,(vw 11)),(3,pi)] [(5310,HD)] 5311 (cdR F1 39)),
  (.ops (cdO F1 18 [1,1,0] 4)),
  (.code (cdF F1 18 [1,1,1])),
  (.ret 18 999 (some 29) [(28,(vw 11)),(27,(vi 11)),(26,(vi 10)),(25,(vp 241 0)),(24,(vp 249 0)),(23,(vp 249 0)),(22,(vp 249 0)),(8,(vi 10)),(20,(vi 10)),(19,(.bool true)),(18,(vi 10)),(42,(vi 10)),(7,EM),(41,EM),(40,(.slice (some (.mk 5308 0 none)) 1 1)),(39,(vi 45056)),(38,AO),(37,At),(6,(.bool true)),(36,(.bool true)),(35,(.bool true)),(34,(vi 0)),(33,(.bool true)),(32,(.bool true)),(10,(vi 0)),(9,(vp 5305 0)),(31,(vi 0)),(30,AO),(21,(.tuple (.mk [AO,(vi 0)]))),(29,(.tuple (.mk [AO,(vi 0)]))),(28,(vw 10)),(27,(vi 10)),(26,(vi 9)),(25,(vp 241 0)),(24,(vp 249 0)),(23,(vp 249 0)),(22,(vp 249 0)),(8,(vi 9)),(20,(vi 9)),(19,(.bool true)),(18,(vi 9)),(42,(vi 9)),(7,At),(41,At),(40,(.slice (some (.mk 4802 0 none)) 1 1)),(39,(vi 40960)),(38,zw),(37,Al),(6,(.bool true)),(36,(.bool true)),(35,(.bool true)),(34,(vi 0)),(33,(.bool true)),(32,(.bool true)),(10,(vi 0)),(9,(vp 4799 0)),(31,(vi 0)),(30,zw),(21,(.tuple (.mk [zw,(vi 0)]))),(29,(.tuple (.mk [zw,(vi 0)]))),(28,(vw 9)),(27,(vi 9)),(26,(vi 8)),(25,(vp 241 0)),(24,(vp 249 0)),(23,(vp 249 0)),(22,(vp 249 0)),(8,(vi 8)),(20,(vi 8)),(19,(.bool true)),(18,(vi 8)),(42,(vi 8)),(7,Al),(41,Al),(40,(.slice (some (.mk 4296 0 none)) 1 1)),(39,(vi 36864)),(38,zy),(37,te),(6,(.bool true)),(36,(.bool true)),(35,(.bool true)),(34,(vi 0)),(33,(.bool true)),(32,(.bool true)),(10,(vi 0)),(9,(vp 4293 0)),(31,(vi 0)),(30,zy),(21,(.tuple (.mk [zy,(vi 0)]))),(29,(.tuple (.mk [zy,(vi 0)]))),(28,(vw 8)),(27,(vi 8)),(26,(vi 7)),(25,(vp 241 0)),(24,(vp 249 0)),(23,(vp 249 0)),(22,(vp 249 0)),(8,(vi 7)),(20,(vi 7)),(19,(.bool true)),(18,(vi 7)),(42,(vi 7)),(7,te),(41,te),(40,J8),(39,(vi 32768)),(38,Fj),(37,Fe),(6,(.bool true)),(36,(.bool true)),(35,(.bool true)),(34,(vi 0)),(33,(.bool true)),(32,(.bool true)),(10,(vi 0)),(9,(vp 3787 0)),(31,(vi 0)),(30,Fj),(21,Ab),(29,Ab),(28,(vw 7)),(27,(vi 7)),(26,(vi 6)),(25,(vp 241 0)),(24,(vp 249 0)),(23,(vp 249 0)),(22,(vp 249 0)),(8,(vi 6)),(20,(vi 6)),(19,(.bool true)),(17,(vi 12)),(16,(vi 12)),(15,(vi 12)),(5,(vp 249 0)),(14,(.bool true)),(13,(vp 249 0)),(11,u7),(12,u7),(4,(.bool false)),(3,gE),(2,oK),(0,(vi 12))] [(5305,(.cells (ap [(vp 241 0),(vp 2 0),(vi 45216),(vi 32),(vw 10),(vp 2 0),(vi 45216),(vi 32),(vi 1024),(vp 2 0),(vi 45088),(vi 992)] []))),(4799,(.cells (ap [(vp 241 0),(vp 2 0),(vi 41120),(vi 32),(vw 9),(vp 2 0),(vi 41120),(vi 32),(vi 1024),(vp 2 0),(vi 40992),(vi 992)] []))),(4293,(.cells (ap [(vp 241 0),(vp 2 0),(vi 37024),(vi 32),(vw 8),(vp 2 0),(vi 37024),(vi 32),(vi 1024),(vp 2 0),(vi 36896),(vi 992)] []))),(3787,Jp)] 5310 (cdR F1 18)),
  (.ops (cdO F1 5 [1,1,1,0,1,0,0,1,1,0,0,1,0] 8)),
  (.code (cdF F1 5 [1,1,1,0,1,0,0,1,1,0,0,1,1])),
  (.block 1),
  (.code (cdF F1 5 [1,1,1,0,1,0,0,1,1,1])),
  (.loop (cdF F1 5 [1,1,1,0,1,0,0]) 988),
  (.block 0),
  (.code (cdF F1 5 [1,1,1,1])),
  (.ret 5 1000 (some 0) [] [] 1 (cdR F1 5)),
  (.ops [])],.norm,
 [(7,(vi 3)),(25,(vw 0)),(24,(vp 5518 3)),(23,(vi 3)),(22,(.bool true)),(21,(vi 3)),(31,(vi 3)),(30,(.bool false)),(29,(.bool true)),(28,(vw 11)),(27,(vi 2)),(26,(.agg (.mk [uY]))),(8,(vw 11)),(7,(vi 2)),(25,(vw 11)),(24,(vp 5518 2)),(23,(vi 2)),(22,(.bool true)),(20,(vi 4)),(19,yW),(18,(.bool false)),(17,(vi 4)),(16,uY),(15,(vp 5527 0)),(14,(vi 4)),(13,yW),(6,(vi 0)),(4,(vp 5528 0)),(3,(vp 5527 0)),(0,(.agg (.mk [uY]))),(1,vR),(2,yW)],
 ⟨[(5528,(.cells [(vp 2 0),(vi 49152),(vi 32)])),(5527,(.cells [uY]))],
 [(5518,JF),(5525,z9),(5524,(.cells [])),(5522,Ap),(5309,vE),(5308,(.cells [(vi 45056)])),(4802,(.cells [(vi 40960)])),(4296,(.cells [(vi 36864)])),(3790,(.cells [(vi 32768)])),(3284,(.cells [(vi 28672)])),(2778,(.cells [(vi 24576)])),(2272,(.cells [(vi 20480)])),(1766,(.cells [(vi 16384)])),(1260,(.cells [(vi 12288)])),(754,(.cells [(vi 8192)])),(249,gZ),(241,hJ),(231,g8),(230,(.cells [(vi 0),(vi 0),(.bool true)])),(3,gY),(2,zZ),(0,(.ro off acts))],5532⟩⟩
end Go.AI
