/- So many nodes made: what is known of them. -/
import Derived.Test.YtodcomgkpifpfaaGreatDoorTw
import Derived.Test.YtodcomgkpifpfaaGreatDoorKAy
import Derived.Test.YtodcomgkpifpfaaGreatDoorKSp
noncomputable section
namespace Go.AI
open Go.Proofs
open Go.Fo (Wd Un Pre)
variable {x:Ar}{S:List Nat}
def nodeB(x:Ar)(a:Nat):Bool :=
 (match nodeE x (.ofNat a) with|some 0=>true|_=>false)&&(Nat.beq (Nat.mod a 4096) 0&&((match pgAt x.pages (Nat.div a 4096) with|some _=>true|none=>false)&&(Nat.blt a 4611686018427387904&&(!Nat.beq a 0&&(Nat.beq (wd x (a+40)) 0&&(Nat.beq (wd x (a+48)) 0&&(Nat.beq (wd x (a+56)) 0&&(Nat.beq (wd x (a+64)) 0&&Nat.beq (wd x (a+72)) 0))))))))
def chkB(x:Ar)(S:List Nat):Bool:=Nat.blt x.refuse 9223372036854775808&&S.all (nodeB x)
theorem chk_TW(h:chkB x S=true):TW x S:=by
 unfold chkB at h
 rw[Bool.and_eq_true,blt_iff,decide_eq_true_eq] at h
 have hn:∀a,a∈S→(nodeE x (.ofNat a)=some 0∧a % 4096=0∧(∃P,pgAt x.pages (a / 4096)=some P)∧a<4611686018427387904∧a≠0)∧wd x (a+40)=0∧wd x (a+48)=0∧wd x (a+56)=0∧wd x (a+64)=0∧wd x (a+72)=0:=by
  intro a ha
  have h1:=List.all_eq_true.1 h.2 a ha
  unfold nodeB at h1
  simp only[Bool.and_eq_true,Nat.beq_eq] at h1
  obtain⟨q1,q2,q3,q4,q5,q6,q7,q8,q9,q10⟩:=h1
  refine⟨⟨?_,q2,?_,?_,?_⟩,q6,q7,q8,q9,q10⟩
  ·split at q1
   ·assumption
   ·cases q1
  ·change (match pgAt x.pages (a / 4096) with|some _=>true|none=>false)=true at q3
   cases hp:pgAt x.pages (a / 4096) with
   |some P=>exact⟨P,rfl⟩
   |none=>rw[hp] at q3;cases q3
  ·rw[blt_iff,decide_eq_true_eq] at q4;exact q4
  ·intro e;rw[e] at q5;cases q5
 have hw:∀o a,a∈S→wd x (a+o)=0→wdS x S o a=0:=fun o a ha h0=>(wdS_in ha).trans h0
 refine TW.of (kids:=fun _=>[]) (d:=fun _=>0) h.1 (fun a ha=>(hn a ha).1.2.2.2.1) (fun a ha=>?_) ?_
 ·obtain⟨⟨q1,q2,⟨P,q3⟩,_⟩,_⟩:=hn a ha
  exact⟨⟨a / 4096,P,by omega,q3⟩,q1⟩
 ·have par0:∀a,a∈S→(wds x S).par a=0:=fun a ha=>hw 40 a ha (hn a ha).2.1
  refine⟨fun h0=>(hn 0 h0).1.2.2.2.2 rfl,(fun a _ b hb=>by cases hb),fun b hb h0=>absurd (par0 b hb) h0,(fun _ _=>by simp),fun b hb _=>rfl,fun b hb h0=>absurd (par0 b hb) h0,fun a ha=>hw 48 a ha (hn a ha).2.2.1,fun a ha=>hw 56 a ha (hn a ha).2.2.2.1,fun _ _=>trivial⟩
def rrO:List Value:=[.pointer (some ⟨2,0,none⟩),vI 4096,vI 64,.pointer (some ⟨2,0,none⟩),vI 4096,vI 64]
def rbO:List Value:=[vI 1,vI 29,.pointer (some ⟨2,0,none⟩),vI 0,vI 256,.pointer (some ⟨2,0,none⟩),vI 0,vI 88,.pointer (some ⟨2,0,none⟩),vI 257,vI 29]
def bdB(x:Ar):Bool:=Nat.beq x.pages.length 30&&((match pgAt x.pages 0 with|some _=>true|none=>false)&&((match pgAt x.pages 1 with|some _=>true|none=>false)&&Nat.beq (loadV x (.ofNat 104) (.ofNat 8)) 6432341300767115597))
def OpenOk(k off:Nat)(acts:List Value):Prop :=
 ∃(x:Ar) (S:List Nat) (ka:Nat) (rw:List Value) (tbl:List (Nat×AObj Ar)) (nx:Nat),
  run F1 cleanT (hookL h19a) 1000 6 [vI k] ⟨[(0,.ro off acts)],1⟩=some (.tuple ⟨[.pointer (some ⟨249,0,none⟩),.slice (some ⟨ka,0,none⟩) S.length S.length,.bool true]⟩,⟨tbl,nx⟩) ∧
  look 0 tbl=some (.ro off acts)∧look 2 tbl=some (.ext x)∧look 3 tbl=some (.cells (.pointer (some ⟨2,0,none⟩)::rbO))∧look 241 tbl=some (.cells (.pointer (some ⟨3,0,none⟩)::rrO)) ∧
  look 249 tbl=some (.cells (.pointer (some ⟨241,0,none⟩)::rw))∧look ka tbl=some (.grown 1 3 (S.map nI))∧249<ka∧ka<nx∧chkB x S=true∧bdB x=true∧S.length=k∧S.Nodup
end Go.AI
/- What the reckoning of Open shares. -/
namespace Go.AI
open Go.Proofs
def qOx0:Nat:=Nat.shiftLeft 0x1 324
def qOx1:Nat:=Nat.add (Nat.add (Nat.add (Nat.add (Nat.shiftLeft 0x6e01 1536) (Nat.shiftLeft 0x2 1292)) (Nat.shiftLeft 0x45444f4e 1088)) (Nat.shiftLeft 0x1 256)) 0x1000000004b4e4843
def qOx2:Nat:=Nat.add (Nat.add (Nat.add (Nat.add (Nat.shiftLeft 0x6e01 1536) (Nat.shiftLeft 0x3 1292)) (Nat.shiftLeft 0x45444f4e 1088)) (Nat.shiftLeft 0x2 256)) 0x2000000004b4e4843
def qOx3:Nat:=Nat.add (Nat.add (Nat.add (Nat.add (Nat.shiftLeft 0x6e01 1536) (Nat.shiftLeft 0x4 1292)) (Nat.shiftLeft 0x45444f4e 1088)) (Nat.shiftLeft 0x3 256)) 0x3000000004b4e4843
def qOx4:Nat:=Nat.add (Nat.add (Nat.add (Nat.add (Nat.shiftLeft 0x6e01 1536) (Nat.shiftLeft 0x5 1292)) (Nat.shiftLeft 0x45444f4e 1088)) (Nat.shiftLeft 0x4 256)) 0x4000000004b4e4843
def qOx5:Nat:=Nat.add (Nat.add (Nat.add (Nat.add (Nat.shiftLeft 0x6e01 1536) (Nat.shiftLeft 0x6 1292)) (Nat.shiftLeft 0x45444f4e 1088)) (Nat.shiftLeft 0x5 256)) 0x5000000004b4e4843
def qOx6:Nat:=Nat.add (Nat.add (Nat.add (Nat.add (Nat.shiftLeft 0x6e01 1536) (Nat.shiftLeft 0x7 1292)) (Nat.shiftLeft 0x45444f4e 1088)) (Nat.shiftLeft 0x6 256)) 0x6000000004b4e4843
def qOx7:Nat:=Nat.add (Nat.add (Nat.add (Nat.add (Nat.shiftLeft 0x6e01 1536) (Nat.shiftLeft 0x8 1292)) (Nat.shiftLeft 0x45444f4e 1088)) (Nat.shiftLeft 0x7 256)) 0x7000000004b4e4843
def qOx8:Nat:=Nat.add (Nat.shiftLeft 0x30303030303030303 2056) (Nat.shiftLeft 0x59444455424c494d0000000000000009 768)
def qOx9:Nat:=Nat.add (Nat.shiftLeft 0x30303 2056) (Nat.shiftLeft 0x59444455424c494d0000000000000003 768)
def qOx10:Nat:=Nat.add (Nat.add (Nat.add (Nat.shiftLeft 0x3 1292) (Nat.shiftLeft 0x45444f4e 1088)) (Nat.shiftLeft 0x2 256)) 0x2000000004b4e4843
def qOx11:Nat:=Nat.add (Nat.add (Nat.add (Nat.add (Nat.shiftLeft 0x6e01 1536) (Nat.shiftLeft 0x9 1292)) (Nat.shiftLeft 0x45444f4e 1088)) (Nat.shiftLeft 0x8 256)) 0x8000000004b4e4843
def qOx12:Nat:=Nat.add (Nat.shiftLeft 0x303030303 2056) (Nat.shiftLeft 0x59444455424c494d0000000000000005 768)
def qOx13:Nat:=Nat.add (Nat.add (Nat.add (Nat.add (Nat.shiftLeft 0x6e01 1536) (Nat.shiftLeft 0xa 1292)) (Nat.shiftLeft 0x45444f4e 1088)) (Nat.shiftLeft 0x9 256)) 0x9000000004b4e4843
def qOx14:Nat:=Nat.add (Nat.add (Nat.add (Nat.add (Nat.shiftLeft 0x6e01 1536) (Nat.shiftLeft 0xb 1292)) (Nat.shiftLeft 0x45444f4e 1088)) (Nat.shiftLeft 0xa 256)) 0xa000000004b4e4843
def qOx15:Nat:=Nat.add (Nat.shiftLeft 0x30303030303030303030303 2056) (Nat.shiftLeft 0x59444455424c494d000000000000000c 768)
def qOx16:Nat:=Nat.add (Nat.add (Nat.add (Nat.add (Nat.shiftLeft 0x6e01 1536) (Nat.shiftLeft 0xc 1292)) (Nat.shiftLeft 0x45444f4e 1088)) (Nat.shiftLeft 0xb 256)) 0xb000000004b4e4843
def vOx0:Value:=(.agg (.mk (ap [(vp 241 0),(vp 2 0),(vi 12448),(vi 32),(vw 2),(vp 2 0),(vi 12448),(vi 32),(vi 1024),(vp 2 0),(vi 12320),(vi 992)] [])))
def vOx1:Value:=(.agg (.mk (ap [(vp 241 0),(vp 2 0),(vi 8352),(vi 32),(vw 1),(vp 2 0),(vi 8352),(vi 32),(vi 1024),(vp 2 0),(vi 8224),(vi 992)] [])))
def vOx2:Value:=(.agg (.mk (ap [(vp 241 0),(vp 2 0),(vi 20640),(vi 32),(vw 4),(vp 2 0),(vi 20640),(vi 32),(vi 1024),(vp 2 0),(vi 20512),(vi 992)] [])))
def vOx3:Value:=(.agg (.mk (ap [(vp 241 0),(vp 2 0),(vi 16544),(vi 32),(vw 3),(vp 2 0),(vi 16544),(vi 32),(vi 1024),(vp 2 0),(vi 16416),(vi 992)] [])))
def vOx4:Value:=(.agg (.mk (ap [(vp 241 0),(vp 2 0),(vi 32928),(vi 32),(vw 7),(vp 2 0),(vi 32928),(vi 32),(vi 1024),(vp 2 0),(vi 32800),(vi 992)] [])))
def vOx5:Value:=(.string (.mk (.mk [(UInt8.ofNat 110)])))
def vOx6:Value:=(.agg (.mk [(vp 2 0),(vi 12320),(vi 992)]))
def vOx7:Value:=(.agg (.mk [(vi 12288),(vi 0),(vw 2),(vi 0)]))
def vOx8:Value:=(.tuple (.mk [(vp 249 0),(.bool true)]))
def vOx9:Value:=(.agg (.mk [(vp 2 0),(vi 36864),(vi 32)]))
def vOx10:Value:=(.agg (.mk [(.slice (some (.mk 4007 0 none)) 4 4)]))
def vOx11:Value:=(.slice (some (.mk 755 0 none)) 1 1)
def vOx12:Value:=(.agg (.mk [(vp 2 0),(vi 4096),(vi 64)]))
def vOx13:Value:=(.string (.mk (.mk (ru 24 (UInt8.ofNat 0) []))))
def vOx14:Value:=(.slice (some (.mk 4000 0 none)) 4 4)
def vOx15:Value:=(.tuple (.mk [vOx1,(vi 0)]))
def vOx16:Value:=(.tuple (.mk [vOx0,(vi 0)]))
def vOx17:Value:=(.slice (some (.mk 1767 0 none)) 3 3)
def vOx18:Value:=(.slice (some (.mk 1261 0 none)) 2 2)
def vOx19:Value:=(.slice none 0 0)
def vOx20:Value:=(.agg (.mk [(vp 241 0),(vp 2 0),(vi 12448),(vi 32),(vw 2)]))
def vOx21:Value:=(.slice (some (.mk 754 0 none)) 1 1)
def vOx22:Value:=(.agg (.mk (ap [(vp 241 0),(vp 2 0),(vi 45216),(vi 32),(vw 10),(vp 2 0),(vi 45216),(vi 32),(vi 1024),(vp 2 0),(vi 45088),(vi 992)] [])))
def vOx23:Value:=(.agg (.mk (ap [(vp 241 0),(vp 2 0),(vi 41120),(vi 32),(vw 9),(vp 2 0),(vi 41120),(vi 32),(vi 1024),(vp 2 0),(vi 40992),(vi 992)] [])))
def vOx24:Value:=(.agg (.mk (ap [(vp 241 0),(vp 2 0),(vi 37024),(vi 32),(vw 8),(vp 2 0),(vi 37024),(vi 32),(vi 1024),(vp 2 0),(vi 36896),(vi 992)] [])))
def vOx25:Value:=(.slice (some (.mk 2273 0 none)) 4 4)
def vOx26:Value:=(.slice (some (.mk 3791 0 none)) 7 7)
def vOx27:Value:=(.agg (.mk [(vi 36864),(vi 0),(vw 8),(vi 0)]))
def vOx28:Value:=(.tuple (.mk [vOx7,(vi 0)]))
def vOx29:Value:=(.tuple (.mk [(vi 0),(.bool false)]))
def vOx30:Value:=(.tuple (.mk [vOx3,(vi 0)]))
def vOx31:Value:=(.tuple (.mk [vOx2,(vi 0)]))
def vOx32:Value:=(.tuple (.mk [(vi 36864),(vi 0)]))
def vOx33:Value:=(.slice (some (.mk 1256 0 none)) 1 1)
def vOx34:Value:=(.tuple (.mk [vOx4,(vi 0)]))
def vOx35:Value:=(.tuple (.mk [vOx13,(vi 0)]))
def vOx36:Value:=(.tuple (.mk [vOx9,(vi 0)]))
def vOx37:Value:=(.pointer none)
def vOx38:Value:=(.slice (some (.mk 3285 0 none)) 6 6)
def vOx39:Value:=(.slice (some (.mk 2272 0 none)) 1 1)
def vOx40:Value:=(.slice (some (.mk 1766 0 none)) 1 1)
def vOx41:Value:=(.slice (some (.mk 1260 0 none)) 1 1)
def vOx42:Value:=(.agg (.mk [(vi 36864),(vi 0),(vw 0),(vi 0)]))
def vOx43:Value:=(.slice (some (.mk 4007 0 none)) 4 4)
def vOx44:Value:=(.slice (some (.mk 3790 0 none)) 1 1)
def vOx45:Value:=(.agg (.mk [(vp 2 0),(vi 49152),(vi 32)]))
def vOx46:Value:=(.slice (some (.mk 5525 0 none)) 4 4)
def vOx47:Value:=(.slice (some (.mk 5518 0 none)) 4 4)
def vOx48:Value:=(.slice (some (.mk 4803 0 none)) 9 9)
def vOx49:Value:=(.slice (some (.mk 4297 0 none)) 8 8)
def vOx50:Value:=(.tuple (.mk []))
def vOx51:Value:=(.slice (some (.mk 5309 0 none)) 10 10)
def oOx0:AObj Ar:=(.cells (ap [(vp 241 0),(vi 1),(vi 29),(vi 1),(.int .i64 (.negSucc 0)),(.slice (some (.mk 231 0 none)) 1 1),vOx19,vOx19,vOx19,vOx19,vOx19,(vi 16),vOx19,vOx19] []))
def oOx1:AObj Ar:=(.cells (ap [(vp 2 0),(vi 1),(vi 29),(vp 2 0),(vi 0),(vi 256),(vp 2 0),(vi 0),(vi 88),(vp 2 0),(vi 257),(vi 29)] []))
def oOx2:AObj Ar:=(.cells [(vp 3 0),(vp 2 0),(vi 4096),(vi 64),(vp 2 0),(vi 4096),(vi 64)])
def oOx3:AObj Ar:=(.ext (.mk (some qOx8::some qOx0::some qOx1::some qOx2::some qOx3::some qOx4::some qOx5::some qOx6::some qOx7::some 0::n20) false 0))
def oOx4:AObj Ar:=(.cells (ap [vOx37,vOx37,(vi 0),(vi 0),(vw 0),vOx37,(vi 0),(vi 0),(vi 0),vOx37,(vi 0),(vi 0)] []))
def oOx5:AObj Ar:=(.grown 3 186 [(vi 0),(vi 0),(.bool true)])
def oOx6:AObj Ar:=(.cells (ap [(vp 241 0),(vp 2 0),(vi 12448),(vi 32),(vw 2),(vp 2 0),(vi 12448),(vi 32),(vi 1024),(vp 2 0),(vi 12320),(vi 992)] []))
def oOx7:AObj Ar:=(.cells (ap [(vp 241 0),(vp 2 0),(vi 8352),(vi 32),(vw 1),(vp 2 0),(vi 8352),(vi 32),(vi 1024),(vp 2 0),(vi 8224),(vi 992)] []))
def oOx8:AObj Ar:=(.ext (.mk (some qOx9::some qOx0::some qOx1::some qOx10::none::none::none::none::none::none::n20) false 0))
def oOx9:AObj Ar:=(.grown 1 3 [(vi 8192),(vi 12288),(vi 16384),(vi 20480),(vi 24576),(vi 28672),(vi 32768)])
def oOx10:AObj Ar:=(.ext (.mk (some qOx12::some qOx0::some qOx1::some qOx2::some qOx3::some qOx4::none::none::none::none::n20) false 0))
def oOx11:AObj Ar:=(.ext (.mk (some qOx8::some qOx0::some qOx1::some qOx2::some qOx3::some qOx4::some qOx5::some qOx6::some qOx7::some 147573952590939834435::n20) false 0))
def oOx12:AObj Ar:=(.ext (.mk (some qOx15::some qOx0::some qOx1::some qOx2::some qOx3::some qOx4::some qOx5::some qOx6::some qOx7::some qOx11::some qOx13::some qOx14::some 0::none::n16) false 0))
def oOx13:AObj Ar:=(.cells [(vi 36864),(vi 0),(vw 8),(vi 0)])
def oOx14:AObj Ar:=(.cells [(vi 0),(vi 0),(vw 0),(vi 0)])
def oOx15:AObj Ar:=(.cells (ap [(vp 241 0),(vp 2 0),(vi 20640),(vi 32),(vw 4),(vp 2 0),(vi 20640),(vi 32),(vi 1024),(vp 2 0),(vi 20512),(vi 992)] []))
def oOx16:AObj Ar:=(.cells (ap [(vp 241 0),(vp 2 0),(vi 16544),(vi 32),(vw 3),(vp 2 0),(vi 16544),(vi 32),(vi 1024),(vp 2 0),(vi 16416),(vi 992)] []))
def oOx17:AObj Ar:=(.cells (ap [(vp 241 0),(vp 2 0),(vi 32928),(vi 32),(vw 7),(vp 2 0),(vi 32928),(vi 32),(vi 1024),(vp 2 0),(vi 32800),(vi 992)] []))
def oOx18:AObj Ar:=(.grown 1 3 [(vi 8192),(vi 12288),(vi 16384),(vi 20480),(vi 24576),(vi 28672),(vi 32768),(vi 36864),(vi 40960),(vi 45056)])
def oOx19:AObj Ar:=(.grown 1 3 [(vi 4),(vi 4),(vi 8),(vi 8)])
def oOx20:AObj Ar:=(.cells [(vw 1263421507),(vw 0),(vw 8),(vw 0)])
def oOx21:AObj Ar:=(.cells [(vi 4),(vi 4),(vi 8),(vi 8)])
def oOx22:AObj Ar:=(.grown 1 3 [(vi 8192),(vi 12288),(vi 16384),(vi 20480)])
def oOx23:AObj Ar:=(.cells [(vi 12288),(vi 0),(vw 2),(vi 0)])
def oOx24:AObj Ar:=(.cells [(vp 2 0),(vi 12320),(vi 992)])
def oOx25:AObj Ar:=(.cells [vOx43])
def oOx26:AObj Ar:=(.cells [(vi 49152),(vi 0),(vw 11),(vi 0)])
def oOx27:AObj Ar:=(.cells [(vw 1263421507),(vw 0),(vw 11),(vw 0)])
def sP1(k off:Nat)(acts:List Value):Ms Ar:=⟨997,[(.ops (cdO F1 52 [1,1,1,0] 6)),
  (.code (cdF F1 52 [1,0,0,1,0,1])),
  (.ret 52 998 (some 63) [(62,vOx5),(61,vOx6),(60,(vp 1103 9)),(59,vOx50),(58,(vw 2)),(57,vOx0),(56,(vi 0)),(55,(vi 12288)),(54,(vp 1066 0)),(53,vOx20),(52,(vp 1103 0)),(51,(vp 1103 0)),(50,(vp 1103 0)),(49,(vi 0)),(48,vOx6),(47,(vp 1103 9)),(46,(vi 0)),(45,vOx6),(44,(vp 1103 9)),(13,(vi 0)),(12,(vp 1103 0)),(43,(vi 0)),(42,vOx0),(38,vOx16),(41,vOx16),(40,vOx7),(39,(vp 241 0)),(35,(.bool false)),(34,(vi 0)),(11,(vi 0)),(10,(vp 1066 0)),(33,(vi 0)),(32,vOx7),(27,vOx28),(31,vOx28),(30,(vw 2)),(29,(vi 0)),(28,(vp 241 0)),(22,(.bool false)),(25,(.bool false)),(24,(vi 1)),(23,vOx5),(18,(.bool false)),(20,(.bool false)),(19,(vw 2)),(14,(.bool false)),(16,(.bool false)),(15,(vp 241 0)),(9,(vi 0)),(8,(vp 756 0)),(0,(vp 241 0)),(1,(vi 0)),(2,(vw 2)),(3,vOx5)] [(1103,oOx6),(1066,oOx23),(756,oOx4)] 1254 (cdR F1 52)),
  (.ops []),
  (.code (cdF F1 25 [1,1,1,1,1,1,1,1,1,1])),
  (.ret 25 999 (some 29) [(28,(vw 2)),(27,(vi 2)),(26,(vi 1)),(25,(vp 241 0)),(24,(vp 249 0)),(23,(vp 249 0)),(22,(vp 249 0)),(8,(vi 1)),(20,(vi 1)),(19,(.bool true)),(18,(vi 1)),(42,(vi 1)),(7,vOx11),(41,vOx11),(40,vOx21),(39,(vi 8192)),(38,vOx1),(37,vOx19),(6,(.bool true)),(36,(.bool true)),(35,(.bool true)),(34,(vi 0)),(33,(.bool true)),(32,(.bool true)),(10,(vi 0)),(9,(vp 751 0)),(31,(vi 0)),(30,vOx1),(21,vOx15),(29,vOx15),(28,(vw 1)),(27,(vi 1)),(26,(vi 0)),(25,(vp 241 0)),(24,(vp 249 0)),(23,(vp 249 0)),(22,(vp 249 0)),(8,(vi 0)),(20,(vi 0)),(19,(.bool true)),(18,(vi 0)),(17,(vi k)),(16,(vi k)),(15,(vi k)),(7,vOx19),(6,(.bool true)),(5,(vp 249 0)),(14,(.bool true)),(13,(vp 249 0)),(11,vOx8),(12,vOx8),(4,(.bool false)),(3,vOx19),(2,vOx37),(0,(vi k))] [(751,oOx7)] 756 (cdR F1 25)),
  (.ops (cdO F1 6 [1,1,1,0,1,0,0,1,1,0,0,1,0] 8)),
  (.code (cdF F1 6 [1,1,1,0,1,0,0,1,1,0,0,1,1])),
  (.block 1),
  (.code (cdF F1 6 [1,1,1,0,1,0,0,1,1,1])),
  (.loop (cdF F1 6 [1,1,1,0,1,0,0]) 997),
  (.block 0),
  (.code (cdF F1 6 [1,1,1,1])),
  (.ret 6 1000 (some 0) [] [] 1 (cdR F1 6)),
  (.ops [])],.norm,
 [(31,vOx33),(30,(vb 1)),(29,(vi 1)),(28,vOx5),(27,(vi 160)),(26,vOx6),(24,(.bool false)),(23,(vi 0)),(9,(vi 0)),(22,(vi 0)),(21,(vi 16)),(20,(vi 160)),(19,vOx6),(14,(.bool false)),(18,(.bool false)),(17,(vi 16)),(16,(vi 1)),(15,vOx5),(10,(.bool false)),(13,(.bool false)),(12,(.bool true)),(11,(vi 16)),(8,(vi 0)),(4,(vp 1254 0)),(0,vOx6),(1,(vi 160)),(2,(vi 16)),(3,vOx5)],
 ⟨[(1254,oOx24)],
 [(1256,(.cells [(vb 1)])),(755,(.grown 1 3 [(vi 8192)])),(754,(.cells [(vi 8192)])),(249,oOx0),(241,oOx2),(231,oOx5),(230,(.cells [(vi 0),(vi 0),(.bool true)])),(3,oOx1),(2,oOx8),(0,(.ro off acts))],1257⟩⟩
def sP2(k off:Nat)(acts:List Value):Ms Ar:=⟨996,[(.code (cdF F1 71 [1,0,1,0,0,1])),
  (.loop (cdF F1 71 [1,0,1,0,0]) 991),
  (.block 0),
  (.code (cdF F1 71 [1,1])),
  (.ret 71 997 (some 35) [(34,(vi 0)),(33,vOx12),(32,(vp 241 4)),(31,(vp 241 0)),(30,(vp 241 0)),(8,(vp 2276 0)),(17,(.bool false)),(27,(.bool false)),(26,(.bool false)),(25,(vw 5)),(24,(.bool false)),(23,(.bool false)),(22,(.bool false)),(21,(vi 0)),(20,(.bool false)),(19,(.bool false)),(18,(vi 0)),(13,(.bool false)),(15,(.bool false)),(14,(vp 241 0)),(7,(vi 0)),(6,(vp 2275 0)),(0,(vp 241 0)),(1,(vi 0)),(2,(vw 5))] [(2276,oOx14),(2275,oOx14)] 2277 (cdR F1 71)),
  (.ops (cdO F1 46 [1,1,1,0,0] 6)),
  (.code (cdF F1 46 [1,1,1,0,1])),
  (.code (cdF F1 46 [1,1,1,1])),
  (.ret 46 998 (some 31) [(30,(vw 5)),(29,(vi 0)),(28,(vp 241 0)),(22,(.bool false)),(25,(.bool false)),(24,(vi 1)),(23,vOx5),(18,(.bool false)),(20,(.bool false)),(19,(vw 5)),(14,(.bool false)),(16,(.bool false)),(15,(vp 241 0)),(9,(vi 0)),(8,(vp 2274 0)),(0,(vp 241 0)),(1,(vi 0)),(2,(vw 5)),(3,vOx5)] [(2274,oOx4)] 2275 (cdR F1 46)),
  (.ops (cdO F1 25 [1,1,0] 4)),
  (.code (cdF F1 25 [1,1,1])),
  (.ret 25 999 (some 29) [(28,(vw 5)),(27,(vi 5)),(26,(vi 4)),(25,(vp 241 0)),(24,(vp 249 0)),(23,(vp 249 0)),(22,(vp 249 0)),(8,(vi 4)),(20,(vi 4)),(19,(.bool true)),(18,(vi 4)),(42,(vi 4)),(7,vOx25),(41,vOx25),(40,vOx39),(39,(vi 20480)),(38,vOx2),(37,vOx17),(6,(.bool true)),(36,(.bool true)),(35,(.bool true)),(34,(vi 0)),(33,(.bool true)),(32,(.bool true)),(10,(vi 0)),(9,(vp 2269 0)),(31,(vi 0)),(30,vOx2),(21,vOx31),(29,vOx31),(28,(vw 4)),(27,(vi 4)),(26,(vi 3)),(25,(vp 241 0)),(24,(vp 249 0)),(23,(vp 249 0)),(22,(vp 249 0)),(8,(vi 3)),(20,(vi 3)),(19,(.bool true)),(18,(vi 3)),(42,(vi 3)),(7,vOx17),(41,vOx17),(40,vOx40),(39,(vi 16384)),(38,vOx3),(37,vOx18),(6,(.bool true)),(36,(.bool true)),(35,(.bool true)),(34,(vi 0)),(33,(.bool true)),(32,(.bool true)),(10,(vi 0)),(9,(vp 1763 0)),(31,(vi 0)),(30,vOx3),(21,vOx30),(29,vOx30),(28,(vw 3)),(27,(vi 3)),(26,(vi 2)),(25,(vp 241 0)),(24,(vp 249 0)),(23,(vp 249 0)),(22,(vp 249 0)),(8,(vi 2)),(20,(vi 2)),(19,(.bool true)),(18,(vi 2)),(42,(vi 2)),(7,vOx18),(41,vOx18),(40,vOx41),(39,(vi 12288)),(38,vOx0),(37,vOx11),(6,(.bool true)),(36,(.bool true)),(35,(.bool true)),(34,(vi 0)),(33,(.bool true)),(32,(.bool true)),(10,(vi 0)),(9,(vp 1257 0)),(31,(vi 0)),(30,vOx0),(21,vOx16),(29,vOx16),(28,(vw 2)),(27,(vi 2)),(26,(vi 1)),(25,(vp 241 0)),(24,(vp 249 0)),(23,(vp 249 0)),(22,(vp 249 0)),(8,(vi 1)),(20,(vi 1)),(19,(.bool true)),(18,(vi 1)),(42,(vi 1)),(7,vOx11),(41,vOx11),(40,vOx21),(39,(vi 8192)),(38,vOx1),(37,vOx19),(6,(.bool true)),(36,(.bool true)),(35,(.bool true)),(34,(vi 0)),(33,(.bool true)),(32,(.bool true)),(10,(vi 0)),(9,(vp 751 0)),(31,(vi 0)),(30,vOx1),(21,vOx15),(29,vOx15),(28,(vw 1)),(27,(vi 1)),(26,(vi 0)),(25,(vp 241 0)),(24,(vp 249 0)),(23,(vp 249 0)),(22,(vp 249 0)),(8,(vi 0)),(20,(vi 0)),(19,(.bool true)),(18,(vi 0)),(17,(vi k)),(16,(vi k)),(15,(vi k)),(7,vOx19),(6,(.bool true)),(5,(vp 249 0)),(14,(.bool true)),(13,(vp 249 0)),(11,vOx8),(12,vOx8),(4,(.bool false)),(3,vOx19),(2,vOx37),(0,(vi k))] [(2269,oOx15),(1763,oOx16),(1257,oOx6),(751,oOx7)] 2274 (cdR F1 25)),
  (.ops (cdO F1 6 [1,1,1,0,1,0,0,1,1,0,0,1,0] 8)),
  (.code (cdF F1 6 [1,1,1,0,1,0,0,1,1,0,0,1,1])),
  (.block 1),
  (.code (cdF F1 6 [1,1,1,0,1,0,0,1,1,1])),
  (.loop (cdF F1 6 [1,1,1,0,1,0,0]) 994),
  (.block 0),
  (.code (cdF F1 6 [1,1,1,1])),
  (.ret 6 1000 (some 0) [] [] 1 (cdR F1 6)),
  (.ops [])],.norm,
 [(10,(.bool true)),(9,(vi 4)),(6,(vi 4)),(12,(vi 4)),(11,(vi 3)),(16,(.bool false)),(15,(vi 0)),(14,(vi 3)),(13,vOx12),(10,(.bool true)),(9,(vi 3)),(8,(vi 0)),(7,(vi 0)),(5,(.bool false)),(4,(vi 0)),(2,(vp 2277 0)),(0,vOx12),(1,(vi 0))],
 ⟨[(2277,(.cells [(vp 2 0),(vi 4096),(vi 64)]))],
 [(2273,oOx22),(2272,(.cells [(vi 20480)])),(1766,(.cells [(vi 16384)])),(1260,(.cells [(vi 12288)])),(754,(.cells [(vi 8192)])),(249,oOx0),(241,oOx2),(231,oOx5),(230,(.cells [(vi 0),(vi 0),(.bool true)])),(3,oOx1),(2,oOx10),(0,(.ro off acts))],2290⟩⟩
def sP3(k off:Nat)(acts:List Value):Ms Ar:=⟨995,[(.ret 125 996 (some 0) [] [(3989,(.cells [(vp 2 0),(vi 36864),(vi 32)])),(3988,oOx13)] 4009 (cdR F1 125)),
  (.drc (cdD F1 74 [1,1,1,1,0]) (cdB F1 74 [1,1,1,1,0]) (List.drop 12 (cdD F1 74 [1,1,1,1,0])) 3990 11 (some 52) [(39,(.bool false)),(38,(vi 0)),(6,(vi 0)),(5,(vp 3989 0)),(37,(vi 0)),(36,vOx9),(31,vOx36),(35,vOx36),(34,(vi 36864)),(33,(vp 3988 0)),(32,(vp 2 0)),(10,(.bool false)),(30,(.bool false)),(29,(.bool false)),(28,(vi 4096)),(27,(vi 0)),(26,(vp 3988 1)),(25,(.bool false)),(24,(.bool false)),(23,(.bool false)),(22,(vi 0)),(21,(vp 3988 3)),(20,(.bool false)),(19,(.bool false)),(18,(.bool false)),(17,(vi 0)),(16,(vi 36864)),(15,(vp 3988 0)),(14,(.bool false)),(13,(.bool false)),(12,(vi 36864)),(11,(vp 3988 0)),(7,(.bool false)),(9,(.bool false)),(8,(vp 2 0)),(4,(vi 0)),(3,(vp 3988 0)),(0,(vp 2 0)),(1,vOx27)] (.mk [(10,((some 51),vOx14)),(9,((some 50),(vw 0))),(8,((some 49),(vi 0))),(7,((some 48),(vp 3988 3))),(6,((some 47),(vw 8))),(5,((some 46),(vp 3988 2))),(4,((some 45),(vw 0))),(3,((some 44),(vi 0))),(2,((some 43),(vp 3988 1))),(1,((some 42),vOx9)),(0,((some 41),vOx10))] [(.mk [(3989,(.cells [(vp 2 0),(vi 36864),(vi 32)])),(3988,oOx13)] [(4007,oOx19),(4006,(.cells [])),(4004,oOx21),(3791,oOx9),(3790,(.cells [(vi 32768)])),(3284,(.cells [(vi 28672)])),(2778,(.cells [(vi 24576)])),(2272,(.cells [(vi 20480)])),(1766,(.cells [(vi 16384)])),(1260,(.cells [(vi 12288)])),(754,(.cells [(vi 8192)])),(249,oOx0),(241,oOx2),(231,oOx5),(230,(.cells [(vi 0),(vi 0),(.bool true)])),(3,oOx1),(2,oOx3),(0,(.ro off acts))] 4009),(.mk [(3989,(.cells [(vp 2 0),(vi 36864),(vi 32)])),(3988,oOx13)] [(3791,oOx9),(3790,(.cells [(vi 32768)])),(3284,(.cells [(vi 28672)])),(2778,(.cells [(vi 24576)])),(2272,(.cells [(vi 20480)])),(1766,(.cells [(vi 16384)])),(1260,(.cells [(vi 12288)])),(754,(.cells [(vi 8192)])),(249,oOx0),(241,oOx2),(231,oOx5),(230,(.cells [(vi 0),(vi 0),(.bool true)])),(3,oOx1),(2,oOx3),(0,(.ro off acts))] 4003)] [0] [(10,(true,oOx20))] [(8,((.mk 3988 3 none),(1,[(vi 0)]))),(6,((.mk 3988 2 none),(1,[(vw 8)]))),(3,((.mk 3988 1 none),(1,[(vi 0)]))),(1,((.mk 3989 0 none),(3,[(vp 2 0),(vi 36864),(vi 32)])))])),
  (.code (cdF F1 74 [1,0,0,1,0,1])),
  (.ret 74 997 (some 0) [] [(3794,oOx13),(3793,oOx14)] 3988 (cdR F1 74)),
  (.drc (cdD F1 46 [1,1,1,1,1,0]) (cdB F1 46 [1,1,1,1,1,0]) (List.drop 9 (cdD F1 46 [1,1,1,1,1,0])) 3979 8 (some 71) [(62,(vp 3794 2)),(61,(vw 8)),(60,vOx42),(59,(vi 0)),(58,(vi 36864)),(55,(.bool false)),(54,(vi 0)),(12,(vi 0)),(11,(vi 36864)),(53,(vi 0)),(52,(vi 36864)),(48,vOx32),(51,vOx32),(50,(vi 0)),(49,(vp 241 0)),(38,(.bool false)),(10,(.bool false)),(9,(vi 0)),(37,(.bool false)),(36,(vi 0)),(29,vOx29),(35,vOx29),(34,(vi 0)),(33,vOx12),(32,(vp 241 4)),(31,(vp 241 0)),(30,(vp 241 0)),(8,(vp 3794 0)),(17,(.bool false)),(27,(.bool false)),(26,(.bool false)),(25,(vw 8)),(24,(.bool false)),(23,(.bool false)),(22,(.bool false)),(21,(vi 0)),(20,(.bool false)),(19,(.bool false)),(18,(vi 0)),(13,(.bool false)),(15,(.bool false)),(14,(vp 241 0)),(7,(vi 0)),(6,(vp 3793 0)),(0,(vp 241 0)),(1,(vi 0)),(2,(vw 8))] (.mk [(7,((some 70),vOx27)),(6,((some 69),(vp 2 0))),(5,((some 68),(vp 3 0))),(4,((some 67),(vp 3 0))),(3,((some 66),(vp 3 0))),(2,((some 65),(vp 241 0))),(1,((some 64),(vp 241 0))),(0,((some 63),(vp 241 0)))] [(.mk [(3794,oOx13),(3793,oOx14)] [(3791,oOx9),(3790,(.cells [(vi 32768)])),(3284,(.cells [(vi 28672)])),(2778,(.cells [(vi 24576)])),(2272,(.cells [(vi 20480)])),(1766,(.cells [(vi 16384)])),(1260,(.cells [(vi 12288)])),(754,(.cells [(vi 8192)])),(249,oOx0),(241,oOx2),(231,oOx5),(230,(.cells [(vi 0),(vi 0),(.bool true)])),(3,oOx1),(2,oOx3),(0,(.ro off acts))] 3988)] [] [] [(7,((.mk 3794 0 none),(4,[(vi 36864),(vi 0),(vw 8),(vi 0)]))),(6,((.mk 3 0 none),(1,[(vp 2 0)]))),(3,((.mk 241 0 none),(1,[(vp 3 0)])))])),
  (.code (cdF F1 46 [1,1,1,1,1,1])),
  (.ret 46 998 (some 31) [(30,(vw 8)),(29,(vi 0)),(28,(vp 241 0)),(22,(.bool false)),(25,(.bool false)),(24,(vi 1)),(23,vOx5),(18,(.bool false)),(20,(.bool false)),(19,(vw 8)),(14,(.bool false)),(16,(.bool false)),(15,(vp 241 0)),(9,(vi 0)),(8,(vp 3792 0)),(0,(vp 241 0)),(1,(vi 0)),(2,(vw 8)),(3,vOx5)] [(3792,oOx4)] 3793 (cdR F1 46)),
  (.ops (cdO F1 25 [1,1,0] 4)),
  (.code (cdF F1 25 [1,1,1])),
  (.ret 25 999 (some 29) [(28,(vw 8)),(27,(vi 8)),(26,(vi 7)),(25,(vp 241 0)),(24,(vp 249 0)),(23,(vp 249 0)),(22,(vp 249 0)),(8,(vi 7)),(20,(vi 7)),(19,(.bool true)),(18,(vi 7)),(42,(vi 7)),(7,vOx26),(41,vOx26),(40,vOx44),(39,(vi 32768)),(38,vOx4),(37,vOx38),(6,(.bool true)),(36,(.bool true)),(35,(.bool true)),(34,(vi 0)),(33,(.bool true)),(32,(.bool true)),(10,(vi 0)),(9,(vp 3787 0)),(31,(vi 0)),(30,vOx4),(21,vOx34),(29,vOx34),(28,(vw 7)),(27,(vi 7)),(26,(vi 6)),(25,(vp 241 0)),(24,(vp 249 0)),(23,(vp 249 0)),(22,(vp 249 0)),(8,(vi 6)),(20,(vi 6)),(19,(.bool true)),(17,(vi k)),(16,(vi k)),(15,(vi k)),(5,(vp 249 0)),(14,(.bool true)),(13,(vp 249 0)),(11,vOx8),(12,vOx8),(4,(.bool false)),(3,vOx19),(2,vOx37),(0,(vi k))] [(3787,oOx17)] 3792 (cdR F1 25)),
  (.ops (cdO F1 6 [1,1,1,0,1,0,0,1,1,0,0,1,0] 8)),
  (.code (cdF F1 6 [1,1,1,0,1,0,0,1,1,0,0,1,1])),
  (.block 1),
  (.code (cdF F1 6 [1,1,1,0,1,0,0,1,1,1])),
  (.loop (cdF F1 6 [1,1,1,0,1,0,0]) 991),
  (.block 0),
  (.code (cdF F1 6 [1,1,1,1])),
  (.ret 6 1000 (some 0) [] [] 1 (cdR F1 6)),
  (.ops [])],.ret,
 [(6,(vi 0)),(45,(.bool false)),(44,(vi 4)),(54,(vi 4)),(53,(vi 0)),(52,(vw 0)),(51,(vi 3)),(50,vOx9),(49,vOx10),(12,(vw 0)),(11,(vi 3)),(48,(vw 0)),(47,(vp 4000 3)),(46,(vi 3)),(45,(.bool true)),(44,(vi 3)),(54,(vi 3)),(53,(vi 0)),(52,(vw 8)),(51,(vi 2)),(50,vOx9),(49,vOx10),(12,(vw 8)),(11,(vi 2)),(48,(vw 8)),(47,(vp 4000 2)),(46,(vi 2)),(45,(.bool true)),(43,(vi 4)),(42,vOx14),(40,(.bool false)),(39,(vi 0)),(10,(vi 0)),(9,vOx13),(38,(vi 0)),(37,vOx13),(32,vOx35),(36,vOx35),(35,(vi 24)),(34,vOx10),(33,vOx9),(22,(.bool false)),(21,(vi 4)),(31,(vi 4)),(30,(.bool false)),(29,(.bool true)),(28,(vw 0)),(27,(vi 3)),(26,vOx10),(8,(vw 0)),(7,(vi 3)),(25,(vw 0)),(24,(vp 4000 3)),(23,(vi 3)),(20,(vi 4)),(19,vOx14),(18,(.bool false)),(17,(vi 4)),(16,vOx43),(15,(vp 4009 0)),(14,(vi 4)),(13,vOx14),(6,(vi 0)),(4,(vp 4010 0)),(3,(vp 4009 0)),(0,vOx10),(1,vOx9),(2,vOx14)],
 ⟨[(4010,(.cells [(vp 2 0),(vi 36864),(vi 32)])),(4009,oOx25)],
 [(4000,oOx20),(4007,oOx19),(4006,(.cells [])),(4004,oOx21),(3791,oOx9),(3790,(.cells [(vi 32768)])),(3284,(.cells [(vi 28672)])),(2778,(.cells [(vi 24576)])),(2272,(.cells [(vi 20480)])),(1766,(.cells [(vi 16384)])),(1260,(.cells [(vi 12288)])),(754,(.cells [(vi 8192)])),(249,oOx0),(241,oOx2),(231,oOx5),(230,(.cells [(vi 0),(vi 0),(.bool true)])),(3,oOx1),(2,oOx11),(0,(.ro off acts))],4102⟩⟩
def sP4(k off:Nat)(acts:List Value):Ms Ar:=⟨995,[(.ops (cdO F1 125 [1,1,0,1,0,0,1,1,0,0,0] 4)),
  (.code (cdF F1 125 [1,1,0,1,0,0,1,1,0,0,1])),
  (.block 1),
  (.code (cdF F1 125 [1,1,0,1,0,0,1,1,1])),
  (.loop (cdF F1 125 [1,1,0,1,0,0]) 991),
  (.block 0),
  (.code (cdF F1 125 [1,1,1])),
  (.ret 125 996 (some 0) [] [(5507,(.cells [(vp 2 0),(vi 49152),(vi 32)])),(5506,oOx26)] 5527 (cdR F1 125)),
  (.drc (cdD F1 74 [1,1,1,1,0]) (cdB F1 74 [1,1,1,1,0]) (List.drop 12 (cdD F1 74 [1,1,1,1,0])) 5508 11 (some 52) [(39,(.bool false)),(38,(vi 0)),(6,(vi 0)),(5,(vp 5507 0)),(37,(vi 0)),(36,vOx45),(31,(.tuple (.mk [vOx45,(vi 0)]))),(35,(.tuple (.mk [vOx45,(vi 0)]))),(34,(vi 49152)),(33,(vp 5506 0)),(32,(vp 2 0)),(10,(.bool false)),(30,(.bool false)),(29,(.bool false)),(28,(vi 4096)),(27,(vi 0)),(26,(vp 5506 1)),(25,(.bool false)),(24,(.bool false)),(23,(.bool false)),(22,(vi 0)),(21,(vp 5506 3)),(20,(.bool false)),(19,(.bool false)),(18,(.bool false)),(17,(vi 0)),(16,(vi 49152)),(15,(vp 5506 0)),(14,(.bool false)),(13,(.bool false)),(12,(vi 49152)),(11,(vp 5506 0)),(7,(.bool false)),(9,(.bool false)),(8,(vp 2 0)),(4,(vi 0)),(3,(vp 5506 0)),(0,(vp 2 0)),(1,(.agg (.mk [(vi 49152),(vi 0),(vw 11),(vi 0)])))] (.mk [(10,((some 51),vOx47)),(9,((some 50),(vw 0))),(8,((some 49),(vi 0))),(7,((some 48),(vp 5506 3))),(6,((some 47),(vw 11))),(5,((some 46),(vp 5506 2))),(4,((some 45),(vw 0))),(3,((some 44),(vi 0))),(2,((some 43),(vp 5506 1))),(1,((some 42),vOx45)),(0,((some 41),(.agg (.mk [vOx46]))))] [(.mk [(5507,(.cells [(vp 2 0),(vi 49152),(vi 32)])),(5506,oOx26)] [(5525,oOx19),(5524,(.cells [])),(5522,oOx21),(5309,oOx18),(5308,(.cells [(vi 45056)])),(4802,(.cells [(vi 40960)])),(4296,(.cells [(vi 36864)])),(3790,(.cells [(vi 32768)])),(3284,(.cells [(vi 28672)])),(2778,(.cells [(vi 24576)])),(2272,(.cells [(vi 20480)])),(1766,(.cells [(vi 16384)])),(1260,(.cells [(vi 12288)])),(754,(.cells [(vi 8192)])),(249,oOx0),(241,oOx2),(231,oOx5),(230,(.cells [(vi 0),(vi 0),(.bool true)])),(3,oOx1),(2,oOx12),(0,(.ro off acts))] 5527),(.mk [(5507,(.cells [(vp 2 0),(vi 49152),(vi 32)])),(5506,oOx26)] [(5309,oOx18),(5308,(.cells [(vi 45056)])),(4802,(.cells [(vi 40960)])),(4296,(.cells [(vi 36864)])),(3790,(.cells [(vi 32768)])),(3284,(.cells [(vi 28672)])),(2778,(.cells [(vi 24576)])),(2272,(.cells [(vi 20480)])),(1766,(.cells [(vi 16384)])),(1260,(.cells [(vi 12288)])),(754,(.cells [(vi 8192)])),(249,oOx0),(241,oOx2),(231,oOx5),(230,(.cells [(vi 0),(vi 0),(.bool true)])),(3,oOx1),(2,oOx12),(0,(.ro off acts))] 5521)] [0] [(10,(true,oOx27))] [(8,((.mk 5506 3 none),(1,[(vi 0)]))),(6,((.mk 5506 2 none),(1,[(vw 11)]))),(3,((.mk 5506 1 none),(1,[(vi 0)]))),(1,((.mk 5507 0 none),(3,[(vp 2 0),(vi 49152),(vi 32)])))])),
  (.code (cdF F1 74 [1,0,0,1,0,1])),
  (.ret 74 997 (some 0) [] [(5312,oOx26),(5311,oOx14)] 5506 (cdR F1 74)),
  (.drc (cdD F1 46 [1,1,1,1,1,0]) (cdB F1 46 [1,1,1,1,1,0]) (List.drop 9 (cdD F1 46 [1,1,1,1,1,0])) 5497 8 (some 71) [(62,(vp 5312 2)),(61,(vw 11)),(60,(.agg (.mk [(vi 49152),(vi 0),(vw 0),(vi 0)]))),(59,(vi 0)),(58,(vi 49152)),(55,(.bool false)),(54,(vi 0)),(12,(vi 0)),(11,(vi 49152)),(53,(vi 0)),(52,(vi 49152)),(48,(.tuple (.mk [(vi 49152),(vi 0)]))),(51,(.tuple (.mk [(vi 49152),(vi 0)]))),(50,(vi 0)),(49,(vp 241 0)),(38,(.bool false)),(10,(.bool false)),(9,(vi 0)),(37,(.bool false)),(36,(vi 0)),(29,vOx29),(35,vOx29),(34,(vi 0)),(33,vOx12),(32,(vp 241 4)),(31,(vp 241 0)),(30,(vp 241 0)),(8,(vp 5312 0)),(17,(.bool false)),(27,(.bool false)),(26,(.bool false)),(25,(vw 11)),(24,(.bool false)),(23,(.bool false)),(22,(.bool false)),(21,(vi 0)),(20,(.bool false)),(19,(.bool false)),(18,(vi 0)),(13,(.bool false)),(15,(.bool false)),(14,(vp 241 0)),(7,(vi 0)),(6,(vp 5311 0)),(0,(vp 241 0)),(1,(vi 0)),(2,(vw 11))] (.mk [(7,((some 70),(.agg (.mk [(vi 49152),(vi 0),(vw 11),(vi 0)])))),(6,((some 69),(vp 2 0))),(5,((some 68),(vp 3 0))),(4,((some 67),(vp 3 0))),(3,((some 66),(vp 3 0))),(2,((some 65),(vp 241 0))),(1,((some 64),(vp 241 0))),(0,((some 63),(vp 241 0)))] [(.mk [(5312,oOx26),(5311,oOx14)] [(5309,oOx18),(5308,(.cells [(vi 45056)])),(4802,(.cells [(vi 40960)])),(4296,(.cells [(vi 36864)])),(3790,(.cells [(vi 32768)])),(3284,(.cells [(vi 28672)])),(2778,(.cells [(vi 24576)])),(2272,(.cells [(vi 20480)])),(1766,(.cells [(vi 16384)])),(1260,(.cells [(vi 12288)])),(754,(.cells [(vi 8192)])),(249,oOx0),(241,oOx2),(231,oOx5),(230,(.cells [(vi 0),(vi 0),(.bool true)])),(3,oOx1),(2,oOx12),(0,(.ro off acts))] 5506)] [] [] [(7,((.mk 5312 0 none),(4,[(vi 49152),(vi 0),(vw 11),(vi 0)]))),(6,((.mk 3 0 none),(1,[(vp 2 0)]))),(3,((.mk 241 0 none),(1,[(vp 3 0)])))])),
  (.code (cdF F1 46 [1,1,1,1,1,1])),
  (.ret 46 998 (some 31) [(30,(vw 11)),(29,(vi 0)),(28,(vp 241 0)),(22,(.bool false)),(25,(.bool false)),(24,(vi 1)),(23,vOx5),(18,(.bool false)),(20,(.bool false)),(19,(vw 11)),(14,(.bool false)),(16,(.bool false)),(15,(vp 241 0)),(9,(vi 0)),(8,(vp 5310 0)),(0,(vp 241 0)),(1,(vi 0)),(2,(vw 11)),(3,vOx5)] [(5310,oOx4)] 5311 (cdR F1 46)),
  (.ops (cdO F1 25 [1,1,0] 4)),
  (.code (cdF F1 25 [1,1,1])),
  (.ret 25 999 (some 29) [(28,(vw 11)),(27,(vi 11)),(26,(vi 10)),(25,(vp 241 0)),(24,(vp 249 0)),(23,(vp 249 0)),(22,(vp 249 0)),(8,(vi 10)),(20,(vi 10)),(19,(.bool true)),(18,(vi 10)),(42,(vi 10)),(7,vOx51),(41,vOx51),(40,(.slice (some (.mk 5308 0 none)) 1 1)),(39,(vi 45056)),(38,vOx22),(37,vOx48),(6,(.bool true)),(36,(.bool true)),(35,(.bool true)),(34,(vi 0)),(33,(.bool true)),(32,(.bool true)),(10,(vi 0)),(9,(vp 5305 0)),(31,(vi 0)),(30,vOx22),(21,(.tuple (.mk [vOx22,(vi 0)]))),(29,(.tuple (.mk [vOx22,(vi 0)]))),(28,(vw 10)),(27,(vi 10)),(26,(vi 9)),(25,(vp 241 0)),(24,(vp 249 0)),(23,(vp 249 0)),(22,(vp 249 0)),(8,(vi 9)),(20,(vi 9)),(19,(.bool true)),(18,(vi 9)),(42,(vi 9)),(7,vOx48),(41,vOx48),(40,(.slice (some (.mk 4802 0 none)) 1 1)),(39,(vi 40960)),(38,vOx23),(37,vOx49),(6,(.bool true)),(36,(.bool true)),(35,(.bool true)),(34,(vi 0)),(33,(.bool true)),(32,(.bool true)),(10,(vi 0)),(9,(vp 4799 0)),(31,(vi 0)),(30,vOx23),(21,(.tuple (.mk [vOx23,(vi 0)]))),(29,(.tuple (.mk [vOx23,(vi 0)]))),(28,(vw 9)),(27,(vi 9)),(26,(vi 8)),(25,(vp 241 0)),(24,(vp 249 0)),(23,(vp 249 0)),(22,(vp 249 0)),(8,(vi 8)),(20,(vi 8)),(19,(.bool true)),(18,(vi 8)),(42,(vi 8)),(7,vOx49),(41,vOx49),(40,(.slice (some (.mk 4296 0 none)) 1 1)),(39,(vi 36864)),(38,vOx24),(37,vOx26),(6,(.bool true)),(36,(.bool true)),(35,(.bool true)),(34,(vi 0)),(33,(.bool true)),(32,(.bool true)),(10,(vi 0)),(9,(vp 4293 0)),(31,(vi 0)),(30,vOx24),(21,(.tuple (.mk [vOx24,(vi 0)]))),(29,(.tuple (.mk [vOx24,(vi 0)]))),(28,(vw 8)),(27,(vi 8)),(26,(vi 7)),(25,(vp 241 0)),(24,(vp 249 0)),(23,(vp 249 0)),(22,(vp 249 0)),(8,(vi 7)),(20,(vi 7)),(19,(.bool true)),(18,(vi 7)),(42,(vi 7)),(7,vOx26),(41,vOx26),(40,vOx44),(39,(vi 32768)),(38,vOx4),(37,vOx38),(6,(.bool true)),(36,(.bool true)),(35,(.bool true)),(34,(vi 0)),(33,(.bool true)),(32,(.bool true)),(10,(vi 0)),(9,(vp 3787 0)),(31,(vi 0)),(30,vOx4),(21,vOx34),(29,vOx34),(28,(vw 7)),(27,(vi 7)),(26,(vi 6)),(25,(vp 241 0)),(24,(vp 249 0)),(23,(vp 249 0)),(22,(vp 249 0)),(8,(vi 6)),(20,(vi 6)),(19,(.bool true)),(17,(vi 12)),(16,(vi 12)),(15,(vi 12)),(5,(vp 249 0)),(14,(.bool true)),(13,(vp 249 0)),(11,vOx8),(12,vOx8),(4,(.bool false)),(3,vOx19),(2,vOx37),(0,(vi 12))] [(5305,(.cells (ap [(vp 241 0),(vp 2 0),(vi 45216),(vi 32),(vw 10),(vp 2 0),(vi 45216),(vi 32),(vi 1024),(vp 2 0),(vi 45088),(vi 992)] []))),(4799,(.cells (ap [(vp 241 0),(vp 2 0),(vi 41120),(vi 32),(vw 9),(vp 2 0),(vi 41120),(vi 32),(vi 1024),(vp 2 0),(vi 40992),(vi 992)] []))),(4293,(.cells (ap [(vp 241 0),(vp 2 0),(vi 37024),(vi 32),(vw 8),(vp 2 0),(vi 37024),(vi 32),(vi 1024),(vp 2 0),(vi 36896),(vi 992)] []))),(3787,oOx17)] 5310 (cdR F1 25)),
  (.ops (cdO F1 6 [1,1,1,0,1,0,0,1,1,0,0,1,0] 8)),
  (.code (cdF F1 6 [1,1,1,0,1,0,0,1,1,0,0,1,1])),
  (.block 1),
  (.code (cdF F1 6 [1,1,1,0,1,0,0,1,1,1])),
  (.loop (cdF F1 6 [1,1,1,0,1,0,0]) 988),
  (.block 0),
  (.code (cdF F1 6 [1,1,1,1])),
  (.ret 6 1000 (some 0) [] [] 1 (cdR F1 6)),
  (.ops [])],.norm,
 [(7,(vi 3)),(25,(vw 0)),(24,(vp 5518 3)),(23,(vi 3)),(22,(.bool true)),(21,(vi 3)),(31,(vi 3)),(30,(.bool false)),(29,(.bool true)),(28,(vw 11)),(27,(vi 2)),(26,(.agg (.mk [vOx46]))),(8,(vw 11)),(7,(vi 2)),(25,(vw 11)),(24,(vp 5518 2)),(23,(vi 2)),(22,(.bool true)),(20,(vi 4)),(19,vOx47),(18,(.bool false)),(17,(vi 4)),(16,vOx46),(15,(vp 5527 0)),(14,(vi 4)),(13,vOx47),(6,(vi 0)),(4,(vp 5528 0)),(3,(vp 5527 0)),(0,(.agg (.mk [vOx46]))),(1,vOx45),(2,vOx47)],
 ⟨[(5528,(.cells [(vp 2 0),(vi 49152),(vi 32)])),(5527,(.cells [vOx46]))],
 [(5518,oOx27),(5525,oOx19),(5524,(.cells [])),(5522,oOx21),(5309,oOx18),(5308,(.cells [(vi 45056)])),(4802,(.cells [(vi 40960)])),(4296,(.cells [(vi 36864)])),(3790,(.cells [(vi 32768)])),(3284,(.cells [(vi 28672)])),(2778,(.cells [(vi 24576)])),(2272,(.cells [(vi 20480)])),(1766,(.cells [(vi 16384)])),(1260,(.cells [(vi 12288)])),(754,(.cells [(vi 8192)])),(249,oOx0),(241,oOx2),(231,oOx5),(230,(.cells [(vi 0),(vi 0),(.bool true)])),(3,oOx1),(2,oOx12),(0,(.ro off acts))],5532⟩⟩
end Go.AI
