/- So many nodes made, and found: what is known of them. -/
import Derived.Test.YthoiknijhfnadaaGreatDoorKAy
import Derived.Test.YthoiknijhfnadaaGreatDoorKNd
noncomputable section
namespace Go.AI
open Go.Proofs
def nodesC:Nat→Nat→List Value
 |_,0=>[]
 |i,n+1=>ndN i++nodesC (i+1) n
def nodeR(x:Ar)(i:Nat):Bool :=
 match pgAt x.pages (i+2) with
 |some P=>Nat.beq (pgW P 32 8) (i+1)&&(Nat.beq (pgW P 640 8) 0&&Nat.beq (pgW P 768 8) 0)
 |none=>false
def chkR(x:Ar)(k:Nat):Bool:=Nat.blt x.refuse 9223372036854775808&&(List.range k).all (nodeR x)
def NodesOk(k off:Nat)(acts:List Value):Prop :=
 ∃(x:Ar) (ka:Nat) (tbl:List (Nat×AObj Ar)) (nx:Nat),
  run F1 cleanT (hookL h19a) 1000 7 [vI k] ⟨[(0,.ro off acts)],1⟩=some (.tuple ⟨[.slice (some ⟨ka,0,none⟩) k k,.bool true]⟩,⟨tbl,nx⟩) ∧
  look 0 tbl=some (.ro off acts)∧look 2 tbl=some (.ext x)∧look ka tbl=some (.grown 12 44 (nodesC 0 k))∧2<ka∧ka<nx∧chkR x k=true
end Go.AI
/- What the reckoning of Open shares. -/
namespace Go.AI
open Go.Proofs
def qOx0:Nat:=Nat.shiftLeft 0x1 324
def qOx1:Nat:=Nat.add (Nat.add (Nat.add (Nat.add (Nat.shiftLeft 0x6e01 1536) (Nat.shiftLeft 0x2 1292)) (Nat.shiftLeft 0x45444f4e 1088)) (Nat.shiftLeft 0x1 256)) 0x1000000004b4e4843
def qOx2:Nat:=Nat.add (Nat.add (Nat.add (Nat.add (Nat.shiftLeft 0x6e01 1536) (Nat.shiftLeft 0x3 1292)) (Nat.shiftLeft 0x45444f4e 1088)) (Nat.shiftLeft 0x2 256)) 0x2000000004b4e4843
def qOx3:Nat:=Nat.add (Nat.add (Nat.add (Nat.add (Nat.shiftLeft 0x6e01 1536) (Nat.shiftLeft 0x4 1292)) (Nat.shiftLeft 0x45444f4e 1088)) (Nat.shiftLeft 0x3 256)) 0x3000000004b4e4843
def qOx4:Nat:=Nat.add (Nat.add (Nat.add (Nat.add (Nat.shiftLeft 0x6e01 1536) (Nat.shiftLeft 0x5 1292)) (Nat.shiftLeft 0x45444f4e 1088)) (Nat.shiftLeft 0x4 256)) 0x4000000004b4e4843
def qOx5:Nat:=Nat.add (Nat.add (Nat.add (Nat.add (Nat.shiftLeft 0x6e01 1536) (Nat.shiftLeft 0x6 1292)) (Nat.shiftLeft 0x45444f4e 1088)) (Nat.shiftLeft 0x5 256)) 0x5000000004b4e4843
def qOx6:Nat:=Nat.add (Nat.add (Nat.add (Nat.add (Nat.shiftLeft 0x6e01 1536) (Nat.shiftLeft 0x7 1292)) (Nat.shiftLeft 0x45444f4e 1088)) (Nat.shiftLeft 0x6 256)) 0x6000000004b4e4843
def qOx7:Nat:=Nat.add (Nat.add (Nat.add (Nat.add (Nat.shiftLeft 0x6e01 1536) (Nat.shiftLeft 0x8 1292)) (Nat.shiftLeft 0x45444f4e 1088)) (Nat.shiftLeft 0x7 256)) 0x7000000004b4e4843
def qOx8:Nat:=Nat.add (Nat.shiftLeft 0x30303030303030303 2056) (Nat.shiftLeft 0x59444455424c494d0000000000000009 768)
def qOx9:Nat:=Nat.add (Nat.shiftLeft 0x30303 2056) (Nat.shiftLeft 0x59444455424c494d0000000000000003 768)
def qOx10:Nat:=Nat.add (Nat.add (Nat.add (Nat.shiftLeft 0x3 1292) (Nat.shiftLeft 0x45444f4e 1088)) (Nat.shiftLeft 0x2 256)) 0x2000000004b4e4843
def qOx11:Nat:=Nat.add (Nat.add (Nat.add (Nat.add (Nat.shiftLeft 0x6e01 1536) (Nat.shiftLeft 0x9 1292)) (Nat.shiftLeft 0x45444f4e 1088)) (Nat.shiftLeft 0x8 256)) 0x8000000004b4e4843
def qOx12:Nat:=Nat.add (Nat.shiftLeft 0x303030303 2056) (Nat.shiftLeft 0x59444455424c494d0000000000000005 768)
def qOx13:Nat:=Nat.add (Nat.add (Nat.add (Nat.add (Nat.shiftLeft 0x6e01 1536) (Nat.shiftLeft 0xa 1292)) (Nat.shiftLeft 0x45444f4e 1088)) (Nat.shiftLeft 0x9 256)) 0x9000000004b4e4843
def qOx14:Nat:=Nat.add (Nat.add (Nat.add (Nat.add (Nat.shiftLeft 0x6e01 1536) (Nat.shiftLeft 0xb 1292)) (Nat.shiftLeft 0x45444f4e 1088)) (Nat.shiftLeft 0xa 256)) 0xa000000004b4e4843
def qOx15:Nat:=Nat.add (Nat.shiftLeft 0x30303030303030303030303 2056) (Nat.shiftLeft 0x59444455424c494d000000000000000c 768)
def qOx16:Nat:=Nat.add (Nat.add (Nat.add (Nat.add (Nat.shiftLeft 0x6e01 1536) (Nat.shiftLeft 0xc 1292)) (Nat.shiftLeft 0x45444f4e 1088)) (Nat.shiftLeft 0xb 256)) 0xb000000004b4e4843
def vOx0:Value:=(.agg (.mk (ap [(vp 241 0),(vp 2 0),(vi 12448),(vi 32),(vw 2),(vp 2 0),(vi 12448),(vi 32),(vi 1024),(vp 2 0),(vi 12320),(vi 992)] [])))
def vOx1:Value:=(.agg (.mk (ap [(vp 241 0),(vp 2 0),(vi 8352),(vi 32),(vw 1),(vp 2 0),(vi 8352),(vi 32),(vi 1024),(vp 2 0),(vi 8224),(vi 992)] [])))
def vOx2:Value:=(.agg (.mk (ap [(vp 241 0),(vp 2 0),(vi 20640),(vi 32),(vw 4),(vp 2 0),(vi 20640),(vi 32),(vi 1024),(vp 2 0),(vi 20512),(vi 992)] [])))
def vOx3:Value:=(.agg (.mk (ap [(vp 241 0),(vp 2 0),(vi 16544),(vi 32),(vw 3),(vp 2 0),(vi 16544),(vi 32),(vi 1024),(vp 2 0),(vi 16416),(vi 992)] [])))
def vOx4:Value:=(.agg (.mk (ap [(vp 241 0),(vp 2 0),(vi 32928),(vi 32),(vw 7),(vp 2 0),(vi 32928),(vi 32),(vi 1024),(vp 2 0),(vi 32800),(vi 992)] [])))
def vOx5:Value:=(.agg (.mk (ap [(vp 241 0),(vp 2 0),(vi 28832),(vi 32),(vw 6),(vp 2 0),(vi 28832),(vi 32),(vi 1024),(vp 2 0),(vi 28704),(vi 992)] [])))
def vOx6:Value:=(.string (.mk (.mk [(UInt8.ofNat 110)])))
def vOx7:Value:=(.agg (.mk [(vp 2 0),(vi 12320),(vi 992)]))
def vOx8:Value:=(.agg (.mk [(vp 2 0),(vi 36864),(vi 32)]))
def vOx9:Value:=(.agg (.mk [(.slice (some (.mk 4007 0 none)) 4 4)]))
def vOx10:Value:=(.agg (.mk [(vi 12288),(vi 0),(vw 2),(vi 0)]))
def vOx11:Value:=(.tuple (.mk [(vp 249 0),(.bool true)]))
def vOx12:Value:=(.agg (.mk [(vp 2 0),(vi 4096),(vi 64)]))
def vOx13:Value:=(.slice (some (.mk 755 0 none)) 1 1)
def vOx14:Value:=(.string (.mk (.mk (ru 24 (UInt8.ofNat 0) []))))
def vOx15:Value:=(.slice none 0 0)
def vOx16:Value:=(.slice (some (.mk 4000 0 none)) 4 4)
def vOx17:Value:=(.tuple (.mk [vOx1,(vi 0)]))
def vOx18:Value:=(.tuple (.mk [vOx0,(vi 0)]))
def vOx19:Value:=(.slice (some (.mk 1767 0 none)) 3 3)
def vOx20:Value:=(.slice (some (.mk 1261 0 none)) 2 2)
def vOx21:Value:=(.slice (some (.mk 3285 0 none)) 6 6)
def vOx22:Value:=(.agg (.mk [(vp 241 0),(vp 2 0),(vi 12448),(vi 32),(vw 2)]))
def vOx23:Value:=(.slice (some (.mk 754 0 none)) 1 1)
def vOx24:Value:=(.agg (.mk (ap [(vp 241 0),(vp 2 0),(vi 45216),(vi 32),(vw 10),(vp 2 0),(vi 45216),(vi 32),(vi 1024),(vp 2 0),(vi 45088),(vi 992)] [])))
def vOx25:Value:=(.agg (.mk (ap [(vp 241 0),(vp 2 0),(vi 41120),(vi 32),(vw 9),(vp 2 0),(vi 41120),(vi 32),(vi 1024),(vp 2 0),(vi 40992),(vi 992)] [])))
def vOx26:Value:=(.agg (.mk (ap [(vp 241 0),(vp 2 0),(vi 37024),(vi 32),(vw 8),(vp 2 0),(vi 37024),(vi 32),(vi 1024),(vp 2 0),(vi 36896),(vi 992)] [])))
def vOx27:Value:=(.slice (some (.mk 2273 0 none)) 4 4)
def vOx28:Value:=(.tuple (.mk [vOx10,(vi 0)]))
def vOx29:Value:=(.agg (.mk [(vi 36864),(vi 0),(vw 8),(vi 0)]))
def vOx30:Value:=(.slice (some (.mk 3791 0 none)) 7 7)
def vOx31:Value:=(.tuple (.mk [(vi 0),(.bool false)]))
def vOx32:Value:=(.tuple (.mk [vOx3,(vi 0)]))
def vOx33:Value:=(.tuple (.mk [vOx2,(vi 0)]))
def vOx34:Value:=(.tuple (.mk [(vi 36864),(vi 0)]))
def vOx35:Value:=(.tuple (.mk [vOx5,(vi 0)]))
def vOx36:Value:=(.tuple (.mk [vOx4,(vi 0)]))
def vOx37:Value:=(.tuple (.mk [vOx14,(vi 0)]))
def vOx38:Value:=(.tuple (.mk [vOx8,(vi 0)]))
def vOx39:Value:=(.pointer none)
def vOx40:Value:=(.slice (some (.mk 2272 0 none)) 1 1)
def vOx41:Value:=(.slice (some (.mk 1766 0 none)) 1 1)
def vOx42:Value:=(.slice (some (.mk 1260 0 none)) 1 1)
def vOx43:Value:=(.agg (.mk [(vi 36864),(vi 0),(vw 0),(vi 0)]))
def vOx44:Value:=(.slice (some (.mk 5525 0 none)) 4 4)
def vOx45:Value:=(.slice (some (.mk 4007 0 none)) 4 4)
def vOx46:Value:=(.slice (some (.mk 3790 0 none)) 1 1)
def vOx47:Value:=(.slice (some (.mk 3284 0 none)) 1 1)
def vOx48:Value:=(.slice (some (.mk 2779 0 none)) 5 5)
def vOx49:Value:=(.agg (.mk [(vp 2 0),(vi 49152),(vi 32)]))
def vOx50:Value:=(.slice (some (.mk 5518 0 none)) 4 4)
def vOx51:Value:=(.tuple (.mk []))
def oOx0:AObj Ar:=(.cells (ap [(vp 241 0),(vi 1),(vi 29),(vi 1),(.int .i64 (.negSucc 0)),(.slice (some (.mk 231 0 none)) 1 1),vOx15,vOx15,vOx15,vOx15,vOx15,(vi 16),vOx15,vOx15] []))
def oOx1:AObj Ar:=(.cells (ap [(vp 2 0),(vi 1),(vi 29),(vp 2 0),(vi 0),(vi 256),(vp 2 0),(vi 0),(vi 88),(vp 2 0),(vi 257),(vi 29)] []))
def oOx2:AObj Ar:=(.cells [(vp 3 0),(vp 2 0),(vi 4096),(vi 64),(vp 2 0),(vi 4096),(vi 64)])
def oOx3:AObj Ar:=(.ext (.mk (some qOx8::some qOx0::some qOx1::some qOx2::some qOx3::some qOx4::some qOx5::some qOx6::some qOx7::some 0::n20) false 0))
def oOx4:AObj Ar:=(.cells (ap [(vp 241 0),(vp 2 0),(vi 8352),(vi 32),(vw 1),(vp 2 0),(vi 8352),(vi 32),(vi 1024),(vp 2 0),(vi 8224),(vi 992)] []))
def oOx5:AObj Ar:=(.cells (ap [(vp 241 0),(vp 2 0),(vi 12448),(vi 32),(vw 2),(vp 2 0),(vi 12448),(vi 32),(vi 1024),(vp 2 0),(vi 12320),(vi 992)] []))
def oOx6:AObj Ar:=(.cells (ap [vOx39,vOx39,(vi 0),(vi 0),(vw 0),vOx39,(vi 0),(vi 0),(vi 0),vOx39,(vi 0),(vi 0)] []))
def oOx7:AObj Ar:=(.cells (ap [(vp 241 0),(vp 2 0),(vi 16544),(vi 32),(vw 3),(vp 2 0),(vi 16544),(vi 32),(vi 1024),(vp 2 0),(vi 16416),(vi 992)] []))
def oOx8:AObj Ar:=(.grown 3 251 [(vi 0),(vi 0),(.bool true)])
def oOx9:AObj Ar:=(.cells (ap [(vp 241 0),(vp 2 0),(vi 20640),(vi 32),(vw 4),(vp 2 0),(vi 20640),(vi 32),(vi 1024),(vp 2 0),(vi 20512),(vi 992)] []))
def oOx10:AObj Ar:=(.ext (.mk (some qOx9::some qOx0::some qOx1::some qOx10::none::none::none::none::none::none::n20) false 0))
def oOx11:AObj Ar:=(.grown 1 3 [(vi 8192),(vi 12288),(vi 16384),(vi 20480),(vi 24576),(vi 28672),(vi 32768)])
def oOx12:AObj Ar:=(.ext (.mk (some qOx12::some qOx0::some qOx1::some qOx2::some qOx3::some qOx4::none::none::none::none::n20) false 0))
def oOx13:AObj Ar:=(.cells (ap [(vp 241 0),(vp 2 0),(vi 28832),(vi 32),(vw 6),(vp 2 0),(vi 28832),(vi 32),(vi 1024),(vp 2 0),(vi 28704),(vi 992)] []))
def oOx14:AObj Ar:=(.cells (ap [(vp 241 0),(vp 2 0),(vi 32928),(vi 32),(vw 7),(vp 2 0),(vi 32928),(vi 32),(vi 1024),(vp 2 0),(vi 32800),(vi 992)] []))
def oOx15:AObj Ar:=(.ext (.mk (some qOx8::some qOx0::some qOx1::some qOx2::some qOx3::some qOx4::some qOx5::some qOx6::some qOx7::some 147573952590939834435::n20) false 0))
def oOx16:AObj Ar:=(.ext (.mk (some qOx15::some qOx0::some qOx1::some qOx2::some qOx3::some qOx4::some qOx5::some qOx6::some qOx7::some qOx11::some qOx13::some qOx14::some 0::none::n16) false 0))
def oOx17:AObj Ar:=(.cells (ap [(vp 241 0),(vp 2 0),(vi 24736),(vi 32),(vw 5),(vp 2 0),(vi 24736),(vi 32),(vi 1024),(vp 2 0),(vi 24608),(vi 992)] []))
def oOx18:AObj Ar:=(.cells [(vi 36864),(vi 0),(vw 8),(vi 0)])
def oOx19:AObj Ar:=(.cells [(vi 0),(vi 0),(vw 0),(vi 0)])
def oOx20:AObj Ar:=(.cells (ap [(vp 241 0),(vp 2 0),(vi 37024),(vi 32),(vw 8),(vp 2 0),(vi 37024),(vi 32),(vi 1024),(vp 2 0),(vi 36896),(vi 992)] []))
def oOx21:AObj Ar:=(.cells (ap [(vp 241 0),(vp 2 0),(vi 41120),(vi 32),(vw 9),(vp 2 0),(vi 41120),(vi 32),(vi 1024),(vp 2 0),(vi 40992),(vi 992)] []))
def oOx22:AObj Ar:=(.grown 1 3 [(vi 8192),(vi 12288),(vi 16384),(vi 20480),(vi 24576),(vi 28672),(vi 32768),(vi 36864),(vi 40960),(vi 45056)])
def oOx23:AObj Ar:=(.cells (ap [(vp 241 0),(vp 2 0),(vi 45216),(vi 32),(vw 10),(vp 2 0),(vi 45216),(vi 32),(vi 1024),(vp 2 0),(vi 45088),(vi 992)] []))
def oOx24:AObj Ar:=(.grown 1 3 [(vi 4),(vi 4),(vi 8),(vi 8)])
def oOx25:AObj Ar:=(.cells [(vw 1263421507),(vw 0),(vw 8),(vw 0)])
def oOx26:AObj Ar:=(.cells [(vi 4),(vi 4),(vi 8),(vi 8)])
def oOx27:AObj Ar:=(.grown 1 3 [(vi 8192),(vi 12288),(vi 16384),(vi 20480)])
def oOx28:AObj Ar:=(.cells [(vi 12288),(vi 0),(vw 2),(vi 0)])
def oOx29:AObj Ar:=(.cells [(vp 2 0),(vi 12320),(vi 992)])
def oOx30:AObj Ar:=(.cells (ap [(vp 241 0),(vp 2 0),(vi 49312),(vi 32),(vw 11),(vp 2 0),(vi 49312),(vi 32),(vi 1024),(vp 2 0),(vi 49184),(vi 992)] []))
def oOx31:AObj Ar:=(.cells [vOx45])
def oOx32:AObj Ar:=(.cells [(vi 49152),(vi 0),(vw 11),(vi 0)])
def oOx33:AObj Ar:=(.cells [(vw 1263421507),(vw 0),(vw 11),(vw 0)])
def sP1(k off:Nat)(acts:List Value):Ms Ar:=⟨996,[(.code (cdF F1 99 [1,1,1])),
  (.ret 99 997 (some 63) [(62,vOx6),(61,vOx7),(60,(vp 1103 9)),(59,vOx51),(58,(vw 2)),(57,vOx0),(56,(vi 0)),(55,(vi 12288)),(54,(vp 1066 0)),(53,vOx22),(52,(vp 1103 0)),(51,(vp 1103 0)),(50,(vp 1103 0)),(49,(vi 0)),(48,vOx7),(47,(vp 1103 9)),(46,(vi 0)),(45,vOx7),(44,(vp 1103 9)),(13,(vi 0)),(12,(vp 1103 0)),(43,(vi 0)),(42,vOx0),(38,vOx18),(41,vOx18),(40,vOx10),(39,(vp 241 0)),(35,(.bool false)),(34,(vi 0)),(11,(vi 0)),(10,(vp 1066 0)),(33,(vi 0)),(32,vOx10),(27,vOx28),(31,vOx28),(30,(vw 2)),(29,(vi 0)),(28,(vp 241 0)),(22,(.bool false)),(25,(.bool false)),(24,(vi 1)),(23,vOx6),(18,(.bool false)),(20,(.bool false)),(19,(vw 2)),(14,(.bool false)),(16,(.bool false)),(15,(vp 241 0)),(9,(vi 0)),(8,(vp 756 0)),(0,(vp 241 0)),(1,(vi 0)),(2,(vw 2)),(3,vOx6)] [(1103,oOx5),(1066,oOx28),(756,oOx6)] 1254 (cdR F1 99)),
  (.ops []),
  (.code (cdF F1 58 [1,1,1,1,1,1,1,1,1,1])),
  (.ret 58 998 (some 29) [(28,(vw 2)),(27,(vi 2)),(26,(vi 1)),(25,(vp 241 0)),(24,(vp 249 0)),(23,(vp 249 0)),(22,(vp 249 0)),(8,(vi 1)),(20,(vi 1)),(19,(.bool true)),(18,(vi 1)),(42,(vi 1)),(7,vOx13),(41,vOx13),(40,vOx23),(39,(vi 8192)),(38,vOx1),(37,vOx15),(6,(.bool true)),(36,(.bool true)),(35,(.bool true)),(34,(vi 0)),(33,(.bool true)),(32,(.bool true)),(10,(vi 0)),(9,(vp 751 0)),(31,(vi 0)),(30,vOx1),(21,vOx17),(29,vOx17),(28,(vw 1)),(27,(vi 1)),(26,(vi 0)),(25,(vp 241 0)),(24,(vp 249 0)),(23,(vp 249 0)),(22,(vp 249 0)),(8,(vi 0)),(20,(vi 0)),(19,(.bool true)),(18,(vi 0)),(17,(vi k)),(16,(vi k)),(15,(vi k)),(7,vOx15),(6,(.bool true)),(5,(vp 249 0)),(14,(.bool true)),(13,(vp 249 0)),(11,vOx11),(12,vOx11),(4,(.bool false)),(3,vOx15),(2,vOx39),(0,(vi k))] [(751,oOx4)] 756 (cdR F1 58)),
  (.ops (cdO F1 34 [1,1,1,0,1,0,0,1,1,0,0,1,0] 8)),
  (.code (cdF F1 34 [1,1,1,0,1,0,0,1,1,0,0,1,1])),
  (.block 1),
  (.code (cdF F1 34 [1,1,1,0,1,0,0,1,1,1])),
  (.loop (cdF F1 34 [1,1,1,0,1,0,0]) 996),
  (.block 0),
  (.code (cdF F1 34 [1,1,1,1])),
  (.ret 34 999 (some 14) [(13,(vi k)),(3,(.bool false)),(2,vOx15),(0,(vi k))] [] 1 (cdR F1 34)),
  (.ops (cdO F1 7 [1,0] 2)),
  (.code (cdF F1 7 [1,1])),
  (.ret 7 1000 (some 0) [] [] 1 (cdR F1 7)),
  (.ops [])],.norm,
 [(24,(.bool false)),(23,(vi 0)),(9,(vi 0)),(22,(vi 0)),(21,(vi 16)),(20,(vi 160)),(19,vOx7),(14,(.bool false)),(18,(.bool false)),(17,(vi 16)),(16,(vi 1)),(15,vOx6),(10,(.bool false)),(13,(.bool false)),(12,(.bool true)),(11,(vi 16)),(8,(vi 0)),(4,(vp 1254 0)),(0,vOx7),(1,(vi 160)),(2,(vi 16)),(3,vOx6)],
 ⟨[(1254,oOx29)],
 [(755,(.grown 1 3 [(vi 8192)])),(754,(.cells [(vi 8192)])),(249,oOx0),(241,oOx2),(231,oOx8),(230,(.cells [(vi 0),(vi 0),(.bool true)])),(3,oOx1),(2,oOx10),(0,(.ro off acts))],1256⟩⟩
def sP2(k off:Nat)(acts:List Value):Ms Ar:=⟨995,[(.code (cdF F1 134 [1,0,1,0,0])),
  (.loop (cdF F1 134 [1,0,1,0,0]) 990),
  (.block 0),
  (.code (cdF F1 134 [1,1])),
  (.ret 134 996 (some 35) [(34,(vi 0)),(33,vOx12),(32,(vp 241 4)),(31,(vp 241 0)),(30,(vp 241 0)),(8,(vp 2276 0)),(17,(.bool false)),(27,(.bool false)),(26,(.bool false)),(25,(vw 5)),(24,(.bool false)),(23,(.bool false)),(22,(.bool false)),(21,(vi 0)),(20,(.bool false)),(19,(.bool false)),(18,(vi 0)),(13,(.bool false)),(15,(.bool false)),(14,(vp 241 0)),(7,(vi 0)),(6,(vp 2275 0)),(0,(vp 241 0)),(1,(vi 0)),(2,(vw 5))] [(2276,oOx19),(2275,oOx19)] 2277 (cdR F1 134)),
  (.ops (cdO F1 95 [1,1,1,0,0] 6)),
  (.code (cdF F1 95 [1,1,1,0,1])),
  (.code (cdF F1 95 [1,1,1,1])),
  (.ret 95 997 (some 31) [(30,(vw 5)),(29,(vi 0)),(28,(vp 241 0)),(22,(.bool false)),(25,(.bool false)),(24,(vi 1)),(23,vOx6),(18,(.bool false)),(20,(.bool false)),(19,(vw 5)),(14,(.bool false)),(16,(.bool false)),(15,(vp 241 0)),(9,(vi 0)),(8,(vp 2274 0)),(0,(vp 241 0)),(1,(vi 0)),(2,(vw 5)),(3,vOx6)] [(2274,oOx6)] 2275 (cdR F1 95)),
  (.ops (cdO F1 58 [1,1,0] 4)),
  (.code (cdF F1 58 [1,1,1])),
  (.ret 58 998 (some 29) [(28,(vw 5)),(27,(vi 5)),(26,(vi 4)),(25,(vp 241 0)),(24,(vp 249 0)),(23,(vp 249 0)),(22,(vp 249 0)),(8,(vi 4)),(20,(vi 4)),(19,(.bool true)),(18,(vi 4)),(42,(vi 4)),(7,vOx27),(41,vOx27),(40,vOx40),(39,(vi 20480)),(38,vOx2),(37,vOx19),(6,(.bool true)),(36,(.bool true)),(35,(.bool true)),(34,(vi 0)),(33,(.bool true)),(32,(.bool true)),(10,(vi 0)),(9,(vp 2269 0)),(31,(vi 0)),(30,vOx2),(21,vOx33),(29,vOx33),(28,(vw 4)),(27,(vi 4)),(26,(vi 3)),(25,(vp 241 0)),(24,(vp 249 0)),(23,(vp 249 0)),(22,(vp 249 0)),(8,(vi 3)),(20,(vi 3)),(19,(.bool true)),(18,(vi 3)),(42,(vi 3)),(7,vOx19),(41,vOx19),(40,vOx41),(39,(vi 16384)),(38,vOx3),(37,vOx20),(6,(.bool true)),(36,(.bool true)),(35,(.bool true)),(34,(vi 0)),(33,(.bool true)),(32,(.bool true)),(10,(vi 0)),(9,(vp 1763 0)),(31,(vi 0)),(30,vOx3),(21,vOx32),(29,vOx32),(28,(vw 3)),(27,(vi 3)),(26,(vi 2)),(25,(vp 241 0)),(24,(vp 249 0)),(23,(vp 249 0)),(22,(vp 249 0)),(8,(vi 2)),(20,(vi 2)),(19,(.bool true)),(18,(vi 2)),(42,(vi 2)),(7,vOx20),(41,vOx20),(40,vOx42),(39,(vi 12288)),(38,vOx0),(37,vOx13),(6,(.bool true)),(36,(.bool true)),(35,(.bool true)),(34,(vi 0)),(33,(.bool true)),(32,(.bool true)),(10,(vi 0)),(9,(vp 1257 0)),(31,(vi 0)),(30,vOx0),(21,vOx18),(29,vOx18),(28,(vw 2)),(27,(vi 2)),(26,(vi 1)),(25,(vp 241 0)),(24,(vp 249 0)),(23,(vp 249 0)),(22,(vp 249 0)),(8,(vi 1)),(20,(vi 1)),(19,(.bool true)),(18,(vi 1)),(42,(vi 1)),(7,vOx13),(41,vOx13),(40,vOx23),(39,(vi 8192)),(38,vOx1),(37,vOx15),(6,(.bool true)),(36,(.bool true)),(35,(.bool true)),(34,(vi 0)),(33,(.bool true)),(32,(.bool true)),(10,(vi 0)),(9,(vp 751 0)),(31,(vi 0)),(30,vOx1),(21,vOx17),(29,vOx17),(28,(vw 1)),(27,(vi 1)),(26,(vi 0)),(25,(vp 241 0)),(24,(vp 249 0)),(23,(vp 249 0)),(22,(vp 249 0)),(8,(vi 0)),(20,(vi 0)),(19,(.bool true)),(18,(vi 0)),(17,(vi k)),(16,(vi k)),(15,(vi k)),(7,vOx15),(6,(.bool true)),(5,(vp 249 0)),(14,(.bool true)),(13,(vp 249 0)),(11,vOx11),(12,vOx11),(4,(.bool false)),(3,vOx15),(2,vOx39),(0,(vi k))] [(2269,oOx9),(1763,oOx7),(1257,oOx5),(751,oOx4)] 2274 (cdR F1 58)),
  (.ops (cdO F1 34 [1,1,1,0,1,0,0,1,1,0,0,1,0] 8)),
  (.code (cdF F1 34 [1,1,1,0,1,0,0,1,1,0,0,1,1])),
  (.block 1),
  (.code (cdF F1 34 [1,1,1,0,1,0,0,1,1,1])),
  (.loop (cdF F1 34 [1,1,1,0,1,0,0]) 993),
  (.block 0),
  (.code (cdF F1 34 [1,1,1,1])),
  (.ret 34 999 (some 14) [(13,(vi k)),(3,(.bool false)),(2,vOx15),(0,(vi k))] [] 1 (cdR F1 34)),
  (.ops (cdO F1 7 [1,0] 2)),
  (.code (cdF F1 7 [1,1])),
  (.ret 7 1000 (some 0) [] [] 1 (cdR F1 7)),
  (.ops [])],.norm,
 [(6,(vi 4)),(12,(vi 4)),(11,(vi 3)),(16,(.bool false)),(15,(vi 0)),(14,(vi 3)),(13,vOx12),(10,(.bool true)),(9,(vi 3)),(6,(vi 3)),(12,(vi 3)),(11,(vi 2)),(16,(.bool false)),(15,(vi 0)),(14,(vi 2)),(13,vOx12),(10,(.bool true)),(9,(vi 2)),(8,(vi 0)),(7,(vi 0)),(5,(.bool false)),(4,(vi 0)),(2,(vp 2277 0)),(0,vOx12),(1,(vi 0))],
 ⟨[(2277,(.cells [(vp 2 0),(vi 4096),(vi 64)]))],
 [(2273,oOx27),(2272,(.cells [(vi 20480)])),(1766,(.cells [(vi 16384)])),(1260,(.cells [(vi 12288)])),(754,(.cells [(vi 8192)])),(249,oOx0),(241,oOx2),(231,oOx8),(230,(.cells [(vi 0),(vi 0),(.bool true)])),(3,oOx1),(2,oOx12),(0,(.ro off acts))],2290⟩⟩
def sP3(k off:Nat)(acts:List Value):Ms Ar:=⟨994,[(.code (cdF F1 75 [1,1,1,1,0,1,0,0,1,1])),
  (.loop (cdF F1 75 [1,1,1,1,0,1,0,0]) 989),
  (.block 2),
  (.code (cdF F1 75 [1,1,1,1,1])),
  (.ret 75 995 (some 0) [] [(3989,(.cells [(vp 2 0),(vi 36864),(vi 32)])),(3988,oOx18)] 4009 (cdR F1 75)),
  (.drc (cdD F1 137 [1,1,1,1,0]) (cdB F1 137 [1,1,1,1,0]) (List.drop 12 (cdD F1 137 [1,1,1,1,0])) 3990 11 (some 52) [(39,(.bool false)),(38,(vi 0)),(6,(vi 0)),(5,(vp 3989 0)),(37,(vi 0)),(36,vOx8),(31,vOx38),(35,vOx38),(34,(vi 36864)),(33,(vp 3988 0)),(32,(vp 2 0)),(10,(.bool false)),(30,(.bool false)),(29,(.bool false)),(28,(vi 4096)),(27,(vi 0)),(26,(vp 3988 1)),(25,(.bool false)),(24,(.bool false)),(23,(.bool false)),(22,(vi 0)),(21,(vp 3988 3)),(20,(.bool false)),(19,(.bool false)),(18,(.bool false)),(17,(vi 0)),(16,(vi 36864)),(15,(vp 3988 0)),(14,(.bool false)),(13,(.bool false)),(12,(vi 36864)),(11,(vp 3988 0)),(7,(.bool false)),(9,(.bool false)),(8,(vp 2 0)),(4,(vi 0)),(3,(vp 3988 0)),(0,(vp 2 0)),(1,vOx29)] (.mk [(10,((some 51),vOx16)),(9,((some 50),(vw 0))),(8,((some 49),(vi 0))),(7,((some 48),(vp 3988 3))),(6,((some 47),(vw 8))),(5,((some 46),(vp 3988 2))),(4,((some 45),(vw 0))),(3,((some 44),(vi 0))),(2,((some 43),(vp 3988 1))),(1,((some 42),vOx8)),(0,((some 41),vOx9))] [(.mk [(3989,(.cells [(vp 2 0),(vi 36864),(vi 32)])),(3988,oOx18)] [(4007,oOx24),(4006,(.cells [])),(4004,oOx26),(3791,oOx11),(3790,(.cells [(vi 32768)])),(3284,(.cells [(vi 28672)])),(2778,(.cells [(vi 24576)])),(2272,(.cells [(vi 20480)])),(1766,(.cells [(vi 16384)])),(1260,(.cells [(vi 12288)])),(754,(.cells [(vi 8192)])),(249,oOx0),(241,oOx2),(231,oOx8),(230,(.cells [(vi 0),(vi 0),(.bool true)])),(3,oOx1),(2,oOx3),(0,(.ro off acts))] 4009),(.mk [(3989,(.cells [(vp 2 0),(vi 36864),(vi 32)])),(3988,oOx18)] [(3791,oOx11),(3790,(.cells [(vi 32768)])),(3284,(.cells [(vi 28672)])),(2778,(.cells [(vi 24576)])),(2272,(.cells [(vi 20480)])),(1766,(.cells [(vi 16384)])),(1260,(.cells [(vi 12288)])),(754,(.cells [(vi 8192)])),(249,oOx0),(241,oOx2),(231,oOx8),(230,(.cells [(vi 0),(vi 0),(.bool true)])),(3,oOx1),(2,oOx3),(0,(.ro off acts))] 4003)] [0] [(10,(true,oOx25))] [(8,((.ld (.mk 3988 3 none) 1),[(vi 0)])),(6,((.ld (.mk 3988 2 none) 1),[(vw 8)])),(3,((.ld (.mk 3988 1 none) 1),[(vi 0)])),(1,((.ld (.mk 3989 0 none) 3),[(vp 2 0),(vi 36864),(vi 32)]))])),
  (.code (cdF F1 137 [1,0,0,1,0,1])),
  (.ret 137 996 (some 0) [] [(3794,oOx18),(3793,oOx19)] 3988 (cdR F1 137)),
  (.drc (cdD F1 95 [1,1,1,1,1,0]) (cdB F1 95 [1,1,1,1,1,0]) (List.drop 9 (cdD F1 95 [1,1,1,1,1,0])) 3979 8 (some 71) [(62,(vp 3794 2)),(61,(vw 8)),(60,vOx43),(59,(vi 0)),(58,(vi 36864)),(55,(.bool false)),(54,(vi 0)),(12,(vi 0)),(11,(vi 36864)),(53,(vi 0)),(52,(vi 36864)),(48,vOx34),(51,vOx34),(50,(vi 0)),(49,(vp 241 0)),(38,(.bool false)),(10,(.bool false)),(9,(vi 0)),(37,(.bool false)),(36,(vi 0)),(29,vOx31),(35,vOx31),(34,(vi 0)),(33,vOx12),(32,(vp 241 4)),(31,(vp 241 0)),(30,(vp 241 0)),(8,(vp 3794 0)),(17,(.bool false)),(27,(.bool false)),(26,(.bool false)),(25,(vw 8)),(24,(.bool false)),(23,(.bool false)),(22,(.bool false)),(21,(vi 0)),(20,(.bool false)),(19,(.bool false)),(18,(vi 0)),(13,(.bool false)),(15,(.bool false)),(14,(vp 241 0)),(7,(vi 0)),(6,(vp 3793 0)),(0,(vp 241 0)),(1,(vi 0)),(2,(vw 8))] (.mk [(7,((some 70),vOx29)),(6,((some 69),(vp 2 0))),(5,((some 68),(vp 3 0))),(4,((some 67),(vp 3 0))),(3,((some 66),(vp 3 0))),(2,((some 65),(vp 241 0))),(1,((some 64),(vp 241 0))),(0,((some 63),(vp 241 0)))] [(.mk [(3794,oOx18),(3793,oOx19)] [(3791,oOx11),(3790,(.cells [(vi 32768)])),(3284,(.cells [(vi 28672)])),(2778,(.cells [(vi 24576)])),(2272,(.cells [(vi 20480)])),(1766,(.cells [(vi 16384)])),(1260,(.cells [(vi 12288)])),(754,(.cells [(vi 8192)])),(249,oOx0),(241,oOx2),(231,oOx8),(230,(.cells [(vi 0),(vi 0),(.bool true)])),(3,oOx1),(2,oOx3),(0,(.ro off acts))] 3988)] [] [] [(7,((.ld (.mk 3794 0 none) 4),[(vi 36864),(vi 0),(vw 8),(vi 0)])),(6,((.ld (.mk 3 0 none) 1),[(vp 2 0)])),(3,((.ld (.mk 241 0 none) 1),[(vp 3 0)]))])),
  (.code (cdF F1 95 [1,1,1,1,1,1])),
  (.ret 95 997 (some 31) [(30,(vw 8)),(29,(vi 0)),(28,(vp 241 0)),(22,(.bool false)),(25,(.bool false)),(24,(vi 1)),(23,vOx6),(18,(.bool false)),(20,(.bool false)),(19,(vw 8)),(14,(.bool false)),(16,(.bool false)),(15,(vp 241 0)),(9,(vi 0)),(8,(vp 3792 0)),(0,(vp 241 0)),(1,(vi 0)),(2,(vw 8)),(3,vOx6)] [(3792,oOx6)] 3793 (cdR F1 95)),
  (.ops (cdO F1 58 [1,1,0] 4)),
  (.code (cdF F1 58 [1,1,1])),
  (.ret 58 998 (some 29) [(28,(vw 8)),(27,(vi 8)),(26,(vi 7)),(25,(vp 241 0)),(24,(vp 249 0)),(23,(vp 249 0)),(22,(vp 249 0)),(8,(vi 7)),(20,(vi 7)),(19,(.bool true)),(18,(vi 7)),(42,(vi 7)),(7,vOx30),(41,vOx30),(40,vOx46),(39,(vi 32768)),(38,vOx4),(37,vOx21),(6,(.bool true)),(36,(.bool true)),(35,(.bool true)),(34,(vi 0)),(33,(.bool true)),(32,(.bool true)),(10,(vi 0)),(9,(vp 3787 0)),(31,(vi 0)),(30,vOx4),(21,vOx36),(29,vOx36),(28,(vw 7)),(27,(vi 7)),(26,(vi 6)),(25,(vp 241 0)),(24,(vp 249 0)),(23,(vp 249 0)),(22,(vp 249 0)),(8,(vi 6)),(20,(vi 6)),(19,(.bool true)),(18,(vi 6)),(42,(vi 6)),(7,vOx21),(41,vOx21),(40,vOx47),(39,(vi 28672)),(38,vOx5),(37,vOx48),(6,(.bool true)),(36,(.bool true)),(35,(.bool true)),(34,(vi 0)),(33,(.bool true)),(32,(.bool true)),(10,(vi 0)),(9,(vp 3281 0)),(31,(vi 0)),(30,vOx5),(21,vOx35),(29,vOx35),(28,(vw 6)),(27,(vi 6)),(26,(vi 5)),(25,(vp 241 0)),(24,(vp 249 0)),(23,(vp 249 0)),(22,(vp 249 0)),(8,(vi 5)),(20,(vi 5)),(19,(.bool true)),(17,(vi k)),(16,(vi k)),(15,(vi k)),(5,(vp 249 0)),(14,(.bool true)),(13,(vp 249 0)),(11,vOx11),(12,vOx11),(4,(.bool false)),(3,vOx15),(2,vOx39),(0,(vi k))] [(3787,oOx14),(3281,oOx13)] 3792 (cdR F1 58)),
  (.ops (cdO F1 34 [1,1,1,0,1,0,0,1,1,0,0,1,0] 8)),
  (.code (cdF F1 34 [1,1,1,0,1,0,0,1,1,0,0,1,1])),
  (.block 1),
  (.code (cdF F1 34 [1,1,1,0,1,0,0,1,1,1])),
  (.loop (cdF F1 34 [1,1,1,0,1,0,0]) 990),
  (.block 0),
  (.code (cdF F1 34 [1,1,1,1])),
  (.ret 34 999 (some 14) [(13,(vi k)),(3,(.bool false)),(2,vOx15),(0,(vi k))] [] 1 (cdR F1 34)),
  (.ops (cdO F1 7 [1,0] 2)),
  (.code (cdF F1 7 [1,1])),
  (.ret 7 1000 (some 0) [] [] 1 (cdR F1 7)),
  (.ops [])],(.exit 2),
 [(45,(.bool false)),(44,(vi 4)),(54,(vi 4)),(53,(vi 0)),(52,(vw 0)),(51,(vi 3)),(50,vOx8),(49,vOx9),(12,(vw 0)),(11,(vi 3)),(48,(vw 0)),(47,(vp 4000 3)),(46,(vi 3)),(45,(.bool true)),(44,(vi 3)),(54,(vi 3)),(53,(vi 0)),(52,(vw 8)),(51,(vi 2)),(50,vOx8),(49,vOx9),(12,(vw 8)),(11,(vi 2)),(48,(vw 8)),(47,(vp 4000 2)),(46,(vi 2)),(45,(.bool true)),(44,(vi 2)),(54,(vi 2)),(53,(vi 0)),(52,(vw 0)),(51,(vi 1)),(50,vOx8),(49,vOx9),(12,(vw 0)),(11,(vi 1)),(48,(vw 0)),(47,(vp 4000 1)),(46,(vi 1)),(45,(.bool true)),(43,(vi 4)),(42,vOx16),(40,(.bool false)),(39,(vi 0)),(10,(vi 0)),(9,vOx14),(38,(vi 0)),(37,vOx14),(32,vOx37),(36,vOx37),(35,(vi 24)),(34,vOx9),(33,vOx8),(22,(.bool false)),(21,(vi 4)),(31,(vi 4)),(30,(.bool false)),(29,(.bool true)),(28,(vw 0)),(27,(vi 3)),(26,vOx9),(8,(vw 0)),(7,(vi 3)),(25,(vw 0)),(24,(vp 4000 3)),(23,(vi 3)),(20,(vi 4)),(19,vOx16),(18,(.bool false)),(17,(vi 4)),(16,vOx45),(15,(vp 4009 0)),(14,(vi 4)),(13,vOx16),(6,(vi 0)),(4,(vp 4010 0)),(3,(vp 4009 0)),(0,vOx9),(1,vOx8),(2,vOx16)],
 ⟨[(4010,(.cells [(vp 2 0),(vi 36864),(vi 32)])),(4009,oOx31)],
 [(4000,oOx25),(4007,oOx24),(4006,(.cells [])),(4004,oOx26),(3791,oOx11),(3790,(.cells [(vi 32768)])),(3284,(.cells [(vi 28672)])),(2778,(.cells [(vi 24576)])),(2272,(.cells [(vi 20480)])),(1766,(.cells [(vi 16384)])),(1260,(.cells [(vi 12288)])),(754,(.cells [(vi 8192)])),(249,oOx0),(241,oOx2),(231,oOx8),(230,(.cells [(vi 0),(vi 0),(.bool true)])),(3,oOx1),(2,oOx15),(0,(.ro off acts))],4102⟩⟩
def sP4(k off:Nat)(acts:List Value):Ms Ar:=⟨994,[(.code (cdF F1 75 [1,1,0,1,0,0,1,1])),
  (.loop (cdF F1 75 [1,1,0,1,0,0]) 990),
  (.block 0),
  (.code (cdF F1 75 [1,1,1])),
  (.ret 75 995 (some 0) [] [(5507,(.cells [(vp 2 0),(vi 49152),(vi 32)])),(5506,oOx32)] 5527 (cdR F1 75)),
  (.drc (cdD F1 137 [1,1,1,1,0]) (cdB F1 137 [1,1,1,1,0]) (List.drop 12 (cdD F1 137 [1,1,1,1,0])) 5508 11 (some 52) [(39,(.bool false)),(38,(vi 0)),(6,(vi 0)),(5,(vp 5507 0)),(37,(vi 0)),(36,vOx49),(31,(.tuple (.mk [vOx49,(vi 0)]))),(35,(.tuple (.mk [vOx49,(vi 0)]))),(34,(vi 49152)),(33,(vp 5506 0)),(32,(vp 2 0)),(10,(.bool false)),(30,(.bool false)),(29,(.bool false)),(28,(vi 4096)),(27,(vi 0)),(26,(vp 5506 1)),(25,(.bool false)),(24,(.bool false)),(23,(.bool false)),(22,(vi 0)),(21,(vp 5506 3)),(20,(.bool false)),(19,(.bool false)),(18,(.bool false)),(17,(vi 0)),(16,(vi 49152)),(15,(vp 5506 0)),(14,(.bool false)),(13,(.bool false)),(12,(vi 49152)),(11,(vp 5506 0)),(7,(.bool false)),(9,(.bool false)),(8,(vp 2 0)),(4,(vi 0)),(3,(vp 5506 0)),(0,(vp 2 0)),(1,(.agg (.mk [(vi 49152),(vi 0),(vw 11),(vi 0)])))] (.mk [(10,((some 51),vOx50)),(9,((some 50),(vw 0))),(8,((some 49),(vi 0))),(7,((some 48),(vp 5506 3))),(6,((some 47),(vw 11))),(5,((some 46),(vp 5506 2))),(4,((some 45),(vw 0))),(3,((some 44),(vi 0))),(2,((some 43),(vp 5506 1))),(1,((some 42),vOx49)),(0,((some 41),(.agg (.mk [vOx44]))))] [(.mk [(5507,(.cells [(vp 2 0),(vi 49152),(vi 32)])),(5506,oOx32)] [(5525,oOx24),(5524,(.cells [])),(5522,oOx26),(5309,oOx22),(5308,(.cells [(vi 45056)])),(4802,(.cells [(vi 40960)])),(4296,(.cells [(vi 36864)])),(3790,(.cells [(vi 32768)])),(3284,(.cells [(vi 28672)])),(2778,(.cells [(vi 24576)])),(2272,(.cells [(vi 20480)])),(1766,(.cells [(vi 16384)])),(1260,(.cells [(vi 12288)])),(754,(.cells [(vi 8192)])),(249,oOx0),(241,oOx2),(231,oOx8),(230,(.cells [(vi 0),(vi 0),(.bool true)])),(3,oOx1),(2,oOx16),(0,(.ro off acts))] 5527),(.mk [(5507,(.cells [(vp 2 0),(vi 49152),(vi 32)])),(5506,oOx32)] [(5309,oOx22),(5308,(.cells [(vi 45056)])),(4802,(.cells [(vi 40960)])),(4296,(.cells [(vi 36864)])),(3790,(.cells [(vi 32768)])),(3284,(.cells [(vi 28672)])),(2778,(.cells [(vi 24576)])),(2272,(.cells [(vi 20480)])),(1766,(.cells [(vi 16384)])),(1260,(.cells [(vi 12288)])),(754,(.cells [(vi 8192)])),(249,oOx0),(241,oOx2),(231,oOx8),(230,(.cells [(vi 0),(vi 0),(.bool true)])),(3,oOx1),(2,oOx16),(0,(.ro off acts))] 5521)] [0] [(10,(true,oOx33))] [(8,((.ld (.mk 5506 3 none) 1),[(vi 0)])),(6,((.ld (.mk 5506 2 none) 1),[(vw 11)])),(3,((.ld (.mk 5506 1 none) 1),[(vi 0)])),(1,((.ld (.mk 5507 0 none) 3),[(vp 2 0),(vi 49152),(vi 32)]))])),
  (.code (cdF F1 137 [1,0,0,1,0,1])),
  (.ret 137 996 (some 0) [] [(5312,oOx32),(5311,oOx19)] 5506 (cdR F1 137)),
  (.drc (cdD F1 95 [1,1,1,1,1,0]) (cdB F1 95 [1,1,1,1,1,0]) (List.drop 9 (cdD F1 95 [1,1,1,1,1,0])) 5497 8 (some 71) [(62,(vp 5312 2)),(61,(vw 11)),(60,(.agg (.mk [(vi 49152),(vi 0),(vw 0),(vi 0)]))),(59,(vi 0)),(58,(vi 49152)),(55,(.bool false)),(54,(vi 0)),(12,(vi 0)),(11,(vi 49152)),(53,(vi 0)),(52,(vi 49152)),(48,(.tuple (.mk [(vi 49152),(vi 0)]))),(51,(.tuple (.mk [(vi 49152),(vi 0)]))),(50,(vi 0)),(49,(vp 241 0)),(38,(.bool false)),(10,(.bool false)),(9,(vi 0)),(37,(.bool false)),(36,(vi 0)),(29,vOx31),(35,vOx31),(34,(vi 0)),(33,vOx12),(32,(vp 241 4)),(31,(vp 241 0)),(30,(vp 241 0)),(8,(vp 5312 0)),(17,(.bool false)),(27,(.bool false)),(26,(.bool false)),(25,(vw 11)),(24,(.bool false)),(23,(.bool false)),(22,(.bool false)),(21,(vi 0)),(20,(.bool false)),(19,(.bool false)),(18,(vi 0)),(13,(.bool false)),(15,(.bool false)),(14,(vp 241 0)),(7,(vi 0)),(6,(vp 5311 0)),(0,(vp 241 0)),(1,(vi 0)),(2,(vw 11))] (.mk [(7,((some 70),(.agg (.mk [(vi 49152),(vi 0),(vw 11),(vi 0)])))),(6,((some 69),(vp 2 0))),(5,((some 68),(vp 3 0))),(4,((some 67),(vp 3 0))),(3,((some 66),(vp 3 0))),(2,((some 65),(vp 241 0))),(1,((some 64),(vp 241 0))),(0,((some 63),(vp 241 0)))] [(.mk [(5312,oOx32),(5311,oOx19)] [(5309,oOx22),(5308,(.cells [(vi 45056)])),(4802,(.cells [(vi 40960)])),(4296,(.cells [(vi 36864)])),(3790,(.cells [(vi 32768)])),(3284,(.cells [(vi 28672)])),(2778,(.cells [(vi 24576)])),(2272,(.cells [(vi 20480)])),(1766,(.cells [(vi 16384)])),(1260,(.cells [(vi 12288)])),(754,(.cells [(vi 8192)])),(249,oOx0),(241,oOx2),(231,oOx8),(230,(.cells [(vi 0),(vi 0),(.bool true)])),(3,oOx1),(2,oOx16),(0,(.ro off acts))] 5506)] [] [] [(7,((.ld (.mk 5312 0 none) 4),[(vi 49152),(vi 0),(vw 11),(vi 0)])),(6,((.ld (.mk 3 0 none) 1),[(vp 2 0)])),(3,((.ld (.mk 241 0 none) 1),[(vp 3 0)]))])),
  (.code (cdF F1 95 [1,1,1,1,1,1])),
  (.ret 95 997 (some 31) [(30,(vw 11)),(29,(vi 0)),(28,(vp 241 0)),(22,(.bool false)),(25,(.bool false)),(24,(vi 1)),(23,vOx6),(18,(.bool false)),(20,(.bool false)),(19,(vw 11)),(14,(.bool false)),(16,(.bool false)),(15,(vp 241 0)),(9,(vi 0)),(8,(vp 5310 0)),(0,(vp 241 0)),(1,(vi 0)),(2,(vw 11)),(3,vOx6)] [(5310,oOx6)] 5311 (cdR F1 95)),
  (.ops (cdO F1 58 [1,1,0] 4)),
  (.code (cdF F1 58 [1,1,1])),
  (.ret 58 998 (some 29) [(28,(vw 11)),(27,(vi 11)),(26,(vi 10)),(25,(vp 241 0)),(24,(vp 249 0)),(23,(vp 249 0)),(22,(vp 249 0)),(8,(vi 10)),(20,(vi 10)),(19,(.bool true)),(18,(vi 10)),(42,(vi 10)),(7,(.slice (some (.mk 5309 0 none)) 10 10)),(41,(.slice (some (.mk 5309 0 none)) 10 10)),(40,(.slice (some (.mk 5308 0 none)) 1 1)),(39,(vi 45056)),(38,vOx24),(37,(.slice (some (.mk 4803 0 none)) 9 9)),(6,(.bool true)),(36,(.bool true)),(35,(.bool true)),(34,(vi 0)),(33,(.bool true)),(32,(.bool true)),(10,(vi 0)),(9,(vp 5305 0)),(31,(vi 0)),(30,vOx24),(21,(.tuple (.mk [vOx24,(vi 0)]))),(29,(.tuple (.mk [vOx24,(vi 0)]))),(28,(vw 10)),(27,(vi 10)),(26,(vi 9)),(25,(vp 241 0)),(24,(vp 249 0)),(23,(vp 249 0)),(22,(vp 249 0)),(8,(vi 9)),(20,(vi 9)),(19,(.bool true)),(18,(vi 9)),(42,(vi 9)),(7,(.slice (some (.mk 4803 0 none)) 9 9)),(41,(.slice (some (.mk 4803 0 none)) 9 9)),(40,(.slice (some (.mk 4802 0 none)) 1 1)),(39,(vi 40960)),(38,vOx25),(37,(.slice (some (.mk 4297 0 none)) 8 8)),(6,(.bool true)),(36,(.bool true)),(35,(.bool true)),(34,(vi 0)),(33,(.bool true)),(32,(.bool true)),(10,(vi 0)),(9,(vp 4799 0)),(31,(vi 0)),(30,vOx25),(21,(.tuple (.mk [vOx25,(vi 0)]))),(29,(.tuple (.mk [vOx25,(vi 0)]))),(28,(vw 9)),(27,(vi 9)),(26,(vi 8)),(25,(vp 241 0)),(24,(vp 249 0)),(23,(vp 249 0)),(22,(vp 249 0)),(8,(vi 8)),(20,(vi 8)),(19,(.bool true)),(18,(vi 8)),(42,(vi 8)),(7,(.slice (some (.mk 4297 0 none)) 8 8)),(41,(.slice (some (.mk 4297 0 none)) 8 8)),(40,(.slice (some (.mk 4296 0 none)) 1 1)),(39,(vi 36864)),(38,vOx26),(37,vOx30),(6,(.bool true)),(36,(.bool true)),(35,(.bool true)),(34,(vi 0)),(33,(.bool true)),(32,(.bool true)),(10,(vi 0)),(9,(vp 4293 0)),(31,(vi 0)),(30,vOx26),(21,(.tuple (.mk [vOx26,(vi 0)]))),(29,(.tuple (.mk [vOx26,(vi 0)]))),(28,(vw 8)),(27,(vi 8)),(26,(vi 7)),(25,(vp 241 0)),(24,(vp 249 0)),(23,(vp 249 0)),(22,(vp 249 0)),(8,(vi 7)),(20,(vi 7)),(19,(.bool true)),(18,(vi 7)),(42,(vi 7)),(7,vOx30),(41,vOx30),(40,vOx46),(39,(vi 32768)),(38,vOx4),(37,vOx21),(6,(.bool true)),(36,(.bool true)),(35,(.bool true)),(34,(vi 0)),(33,(.bool true)),(32,(.bool true)),(10,(vi 0)),(9,(vp 3787 0)),(31,(vi 0)),(30,vOx4),(21,vOx36),(29,vOx36),(28,(vw 7)),(27,(vi 7)),(26,(vi 6)),(25,(vp 241 0)),(24,(vp 249 0)),(23,(vp 249 0)),(22,(vp 249 0)),(8,(vi 6)),(20,(vi 6)),(19,(.bool true)),(18,(vi 6)),(42,(vi 6)),(7,vOx21),(41,vOx21),(40,vOx47),(39,(vi 28672)),(38,vOx5),(37,vOx48),(6,(.bool true)),(36,(.bool true)),(35,(.bool true)),(34,(vi 0)),(33,(.bool true)),(32,(.bool true)),(10,(vi 0)),(9,(vp 3281 0)),(31,(vi 0)),(30,vOx5),(21,vOx35),(29,vOx35),(28,(vw 6)),(27,(vi 6)),(26,(vi 5)),(25,(vp 241 0)),(24,(vp 249 0)),(23,(vp 249 0)),(22,(vp 249 0)),(8,(vi 5)),(20,(vi 5)),(19,(.bool true)),(17,(vi 12)),(16,(vi 12)),(15,(vi 12)),(5,(vp 249 0)),(14,(.bool true)),(13,(vp 249 0)),(11,vOx11),(12,vOx11),(4,(.bool false)),(3,vOx15),(2,vOx39),(0,(vi 12))] [(5305,oOx23),(4799,oOx21),(4293,oOx20),(3787,oOx14),(3281,oOx13)] 5310 (cdR F1 58)),
  (.ops (cdO F1 34 [1,1,1,0,1,0,0,1,1,0,0,1,0] 8)),
  (.code (cdF F1 34 [1,1,1,0,1,0,0,1,1,0,0,1,1])),
  (.block 1),
  (.code (cdF F1 34 [1,1,1,0,1,0,0,1,1,1])),
  (.loop (cdF F1 34 [1,1,1,0,1,0,0]) 987),
  (.block 0),
  (.code (cdF F1 34 [1,1,1,1])),
  (.ret 34 999 (some 14) [(13,(vi 12)),(3,(.bool false)),(2,vOx15),(0,(vi 12))] [] 1 (cdR F1 34)),
  (.ops (cdO F1 7 [1,0] 2)),
  (.code (cdF F1 7 [1,1])),
  (.ret 7 1000 (some 0) [] [] 1 (cdR F1 7)),
  (.ops [])],.norm,
 [(22,(.bool true)),(21,(vi 3)),(31,(vi 3)),(30,(.bool false)),(29,(.bool true)),(28,(vw 11)),(27,(vi 2)),(26,(.agg (.mk [vOx44]))),(8,(vw 11)),(7,(vi 2)),(25,(vw 11)),(24,(vp 5518 2)),(23,(vi 2)),(22,(.bool true)),(21,(vi 2)),(31,(vi 2)),(30,(.bool false)),(29,(.bool true)),(28,(vw 0)),(27,(vi 1)),(26,(.agg (.mk [vOx44]))),(8,(vw 0)),(7,(vi 1)),(25,(vw 0)),(24,(vp 5518 1)),(23,(vi 1)),(22,(.bool true)),(20,(vi 4)),(19,vOx50),(18,(.bool false)),(17,(vi 4)),(16,vOx44),(15,(vp 5527 0)),(14,(vi 4)),(13,vOx50),(6,(vi 0)),(4,(vp 5528 0)),(3,(vp 5527 0)),(0,(.agg (.mk [vOx44]))),(1,vOx49),(2,vOx50)],
 ⟨[(5528,(.cells [(vp 2 0),(vi 49152),(vi 32)])),(5527,(.cells [vOx44]))],
 [(5518,oOx33),(5525,oOx24),(5524,(.cells [])),(5522,oOx26),(5309,oOx22),(5308,(.cells [(vi 45056)])),(4802,(.cells [(vi 40960)])),(4296,(.cells [(vi 36864)])),(3790,(.cells [(vi 32768)])),(3284,(.cells [(vi 28672)])),(2778,(.cells [(vi 24576)])),(2272,(.cells [(vi 20480)])),(1766,(.cells [(vi 16384)])),(1260,(.cells [(vi 12288)])),(754,(.cells [(vi 8192)])),(249,oOx0),(241,oOx2),(231,oOx8),(230,(.cells [(vi 0),(vi 0),(.bool true)])),(3,oOx1),(2,oOx16),(0,(.ro off acts))],5532⟩⟩
end Go.AI
