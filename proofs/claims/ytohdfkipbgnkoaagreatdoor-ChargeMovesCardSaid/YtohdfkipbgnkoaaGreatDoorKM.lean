/- A chapter's example, reckoned by the kernel piece by piece. -/
import Derived.Test.YtohdfkipbgnkoaaGreatDoorKAy
set_option maxRecDepth 1000000
noncomputable section
namespace Go.AI
open Go.Proofs
def Og:Ms Ar:=⟨1000,[],.norm,
 [(0,(.bool true))],
 ⟨[],
 [],2473⟩⟩
theorem N4:bQ F1 ac (ab Fu) 28000 (Ms.call 1000 177 ⟨[],0⟩:Ms Ar)=some (Og:Ms Ar):=by kernel_rfl
theorem r16:∃h',run F1 ac (ab Fu) 1000 177 [] (⟨[],0⟩:Hp Ar)=some (.bool true,h'):=by
 have h0:=Ms.e (F:=F1) (clean:=ac) (hook:=ab Fu) 1000 177 (⟨[],0⟩:Hp Ar);rw[aE N4] at h0;exact⟨_,h0.symm.trans (Ms.a rfl)⟩
end Go.AI
namespace Go.AI
open Go.Proofs
def Ns:Ms Ar:=⟨1000,[],.norm,
 [(0,(.bool true))],
 ⟨[],
 [],904⟩⟩
theorem Ow:bQ F1 ac (ab Fc) 16000 (Ms.call 1000 97 ⟨[],0⟩:Ms Ar)=some (Ns:Ms Ar):=by kernel_rfl
theorem r18:∃h',run F1 ac (ab Fc) 1000 97 [] (⟨[],0⟩:Hp Ar)=some (.bool true,h'):=by
 have h0:=Ms.e (F:=F1) (clean:=ac) (hook:=ab Fc) 1000 97 (⟨[],0⟩:Hp Ar);rw[aE Ow] at h0;exact⟨_,h0.symm.trans (Ms.a rfl)⟩
end Go.AI
namespace Go.AI
open Go.Proofs
def EY:Nat:=Nat.shiftLeft 0x1 324
def J5:Nat:=Nat.add (Nat.add (Nat.add (Nat.add (Nat.shiftLeft 0x6e01 1536) (Nat.shiftLeft 0x2 1292)) (Nat.shiftLeft 0x45444f4e 1088)) (Nat.shiftLeft 0x1 256)) 0x1000000004b4e4843
def Jo:Nat:=Nat.add (Nat.shiftLeft 0x303030303 2056) (Nat.shiftLeft 0x59444455424c494d0000000000000005 768)
def JV:Nat:=Nat.add (Nat.add (Nat.add (Nat.add (Nat.shiftLeft 0x6e01 1536) (Nat.shiftLeft 0x4 1292)) (Nat.shiftLeft 0x45444f4e 1088)) (Nat.shiftLeft 0x3 256)) 0x3000000004b4e4843
def Kl:Nat:=Nat.add (Nat.add (Nat.add (Nat.add (Nat.shiftLeft 0x6e01 1536) (Nat.shiftLeft 0x5 1292)) (Nat.shiftLeft 0x45444f4e 1088)) (Nat.shiftLeft 0x4 256)) 0x4000000004b4e4843
def zG:Value:=(.agg (.mk (ap [(vp 240 0),(vp 1 0),(vi 12448),(vi 32),(vw 2),(vp 1 0),(vi 12448),(vi 32),(vi 1024),(vp 1 0),(vi 12320),(vi 992)] [])))
def zx:Value:=(.agg (.mk (ap [(vp 240 0),(vp 1 0),(vi 8352),(vi 32),(vw 1),(vp 1 0),(vi 8352),(vi 32),(vi 1024),(vp 1 0),(vi 8224),(vi 992)] [])))
def h9:Value:=(.agg (.mk [(vp 240 0)]))
def sa:Value:=(.agg (.mk [(vp 1 0),(vi 12320),(vi 992)]))
def qQ:Value:=(.slice (some (.mk 2272 0 none)) 4 4)
def vS:Value:=(.agg (.mk [(vi 8192),(vi 0),(vw 1),(vi 0)]))
def wc:Value:=(.string (.mk (.mk [(UInt8.ofNat 110)])))
def AD:Value:=(.agg (.mk [(vi 12288),(vi 0),(vw 2),(vi 0)]))
def zX:Value:=(.agg (.mk [(vp 1 0),(vi 8224),(vi 992)]))
def lO:Value:=(.slice none 0 0)
def yh:Value:=(.agg (.mk [(vp 1 0),(vi 8352),(vi 32)]))
def E9:AObj Ar:=(.cells (ap [(vp 240 0),(vi 1),(vi 29),(vi 1),(.int .i64 (.negSucc 0)),(.slice (some (.mk 230 0 none)) 1 1),lO,lO,lO,lO,lO,(vi 16),lO,lO] []))
def FX:AObj Ar:=(.cells (ap [(.pointer none),(.pointer none),(vi 0),(vi 0),(vw 0),(.pointer none),(vi 0),(vi 0),(vi 0),(.pointer none),(vi 0),(vi 0)] []))
def FL:AObj Ar:=(.cells (ap [(vp 1 0),(vi 1),(vi 29),(vp 1 0),(vi 0),(vi 256),(vp 1 0),(vi 0),(vi 88),(vp 1 0),(vi 257),(vi 29)] []))
def Gm:AObj Ar:=(.cells [(vp 2 0),(vp 1 0),(vi 4096),(vi 64),(vp 1 0),(vi 4096),(vi 64)])
def Gd:AObj Ar:=(.grown 3 177 [(vi 0),(vi 0),(.bool true)])
def JR:AObj Ar:=(.grown 1 3 [(vi 8192),(vi 12288),(vi 16384),(vi 20480)])
def JI:AObj Ar:=(.cells [(vi 8192),(vi 0),(vw 1),(vi 0)])
def JB:Ms Ar:=⟨996,[(.ops (cdO F1 44 [1,1,1,0] 1)),
  (.code (cdF F1 44 [1,0,0,1,0,1])),
  (.ret 44 997 (some 63) [(62,wc),(61,sa),(60,(vp 1102 9)),(59,(.tuple (.mk []))),(58,(vw 2)),(57,zG),(56,(vi 0)),(55,(vi 12288)),(54,(vp 1065 0)),(53,(.agg (.mk [(vp 240 0),(vp 1 0),(vi 12448),(vi 32),(vw 2)]))),(52,(vp 1102 0)),(51,(vp 1102 0)),(50,(vp 1102 0)),(49,(vi 0)),(48,sa),(47,(vp 1102 9)),(46,(vi 0)),(45,sa),(44,(vp 1102 9)),(13,(vi 0)),(12,(vp 1102 0)),(43,(vi 0)),(42,zG),(38,(.tuple (.mk [zG,(vi 0)]))),(41,(.tuple (.mk [zG,(vi 0)]))),(40,AD),(39,(vp 240 0)),(35,(.bool false)),(34,(vi 0)),(11,(vi 0)),(10,(vp 1065 0)),(33,(vi 0)),(32,AD),(27,(.tuple (.mk [AD,(vi 0)]))),(31,(.tuple (.mk [AD,(vi 0)]))),(30,(vw 2)),(29,(vi 0)),(28,(vp 240 0)),(22,(.bool false)),(25,(.bool false)),(24,(vi 1)),(23,wc),(18,(.bool false)),(20,(.bool false)),(19,(vw 2)),(14,(.bool false)),(16,(.bool false)),(15,(vp 240 0)),(9,(vi 0)),(8,(vp 755 0)),(0,(vp 240 0)),(1,(vi 0)),(2,(vw 2)),(3,wc)] [(1102,(.cells (ap [(vp 240 0),(vp 1 0),(vi 12448),(vi 32),(vw 2),(vp 1 0),(vi 12448),(vi 32),(vi 1024),(vp 1 0),(vi 12320),(vi 992)] []))),(1065,(.cells [(vi 12288),(vi 0),(vw 2),(vi 0)])),(755,FX)] 1253 (cdR F1 44)),
  (.ops []),
  (.code (cdF F1 18 [1,1,1,1,1,1,1,1,1,1])),
  (.ret 18 998 (some 29) [(28,(vw 2)),(27,(vi 2)),(26,(vi 1)),(25,(vp 240 0)),(24,(vp 248 0)),(23,(vp 248 0)),(22,(vp 248 0)),(8,(vi 1)),(20,(vi 1)),(19,(.bool true)),(18,(vi 1)),(42,(vi 1)),(7,(.slice (some (.mk 754 0 none)) 1 1)),(41,(.slice (some (.mk 754 0 none)) 1 1)),(40,(.slice (some (.mk 753 0 none)) 1 1)),(39,(vi 8192)),(38,zx),(37,lO),(6,(.bool true)),(36,(.bool true)),(35,(.bool true)),(34,(vi 0)),(33,(.bool true)),(32,(.bool true)),(10,(vi 0)),(9,(vp 750 0)),(31,(vi 0)),(30,zx),(21,(.tuple (.mk [zx,(vi 0)]))),(29,(.tuple (.mk [zx,(vi 0)]))),(28,(vw 1)),(27,(vi 1)),(26,(vi 0)),(25,(vp 240 0)),(24,(vp 248 0)),(23,(vp 248 0)),(22,(vp 248 0)),(8,(vi 0)),(20,(vi 0)),(19,(.bool true)),(18,(vi 0)),(17,(vi 4)),(16,(vi 4)),(15,(vi 4)),(7,lO),(6,(.bool true)),(5,(vp 248 0)),(14,(.bool true)),(13,(vp 248 0)),(11,(.tuple (.mk [(vp 248 0),(.bool true)]))),(12,(.tuple (.mk [(vp 248 0),(.bool true)]))),(4,(.bool false)),(3,lO),(2,(.pointer none)),(0,(vi 4))] [(750,(.cells (ap [(vp 240 0),(vp 1 0),(vi 8352),(vi 32),(vw 1),(vp 1 0),(vi 8352),(vi 32),(vi 1024),(vp 1 0),(vi 8224),(vi 992)] [])))] 755 (cdR F1 18)),
  (.ops (cdO F1 5 [1,1,1,0,1,0,0,1,1,0,0,1,0] 8)),
  (.code (cdF F1 5 [1,1,1,0,1,0,0,1,1,0,0,1,1])),
  (.block 1),
  (.code (cdF F1 5 [1,1,1,0,1,0,0,1,1,1])),
  (.loop (cdF F1 5 [1,1,1,0,1,0,0]) 996),
  (.block 0),
  (.code (cdF F1 5 [1,1,1,1])),
  (.ret 5 999 (some 6) [(0,(.bool false))] [] 0 (cdR F1 5)),
  (.ops (cdO F1 36 [1,0] 1)),
  (.code (cdF F1 36 [1,1])),
  (.ret 36 1000 (some 0) [] [] 0 (cdR F1 36)),
  (.ops [])],.norm,
 [(26,sa),(24,(.bool false)),(23,(vi 0)),(9,(vi 0)),(22,(vi 0)),(21,(vi 16)),(20,(vi 160)),(19,sa),(14,(.bool false)),(18,(.bool false)),(17,(vi 16)),(16,(vi 1)),(15,wc),(10,(.bool false)),(13,(.bool false)),(12,(.bool true)),(11,(vi 16)),(8,(vi 0)),(4,(vp 1253 0)),(0,sa),(1,(vi 160)),(2,(vi 16)),(3,wc)],
 ⟨[(1253,(.cells [(vp 1 0),(vi 12320),(vi 992)]))],
 [(754,(.grown 1 3 [(vi 8192)])),(753,(.cells [(vi 8192)])),(248,E9),(240,Gm),(230,Gd),(229,(.cells [(vi 0),(vi 0),(.bool true)])),(2,FL),(1,(.ext (.mk (some 0x303030000000000000000000000000000000000000000000000000000000000000000000000000000000000000000000000000000000000000000000000000000000000000000000000000000000000000000000000000000000000000000000000000000000000000000000000000000000000000000000000000000000000000000000000000000000000000000000000000059444455424c494d0000000000000003000000000000000000000000000000000000000000000000000000000000000000000000000000000000000000000000000000000000000000000000000000000000000000000000000000000000000000000000000000000000000000000000::some EY::some J5::some 0x3000000000000000000000000000000000000000000045444f4e0000000000000000000000000000000000000000000000000000000000000000000000000000000000000000000000000000000000000000000000000000000000000000000000000000000000000000000000000000000000000000000000000000000000000002000000000000000000000000000000000000000000000002000000004b4e4843::none::none::none::none::none::none::n20) false 0)))],1255⟩⟩
theorem Nl:bQ F1 ac (ab x7) 20000 (Ms.call 1000 36 ⟨[],0⟩:Ms Ar)=some (JB:Ms Ar):=by kernel_rfl
def JS:Ms Ar:=⟨995,[(.ops (cdO F1 40 [1,1,1,1,0] 1)),
  (.code (cdF F1 40 [1,1,1,1,1])),
  (.ret 40 996 (some 33) [(32,vS),(31,(vp 240 0)),(27,(.bool false)),(26,(vi 0)),(7,(vi 0)),(6,(vp 2936 0)),(25,(vi 0)),(24,vS),(14,(.tuple (.mk [vS,(vi 0)]))),(23,(.tuple (.mk [vS,(vi 0)]))),(22,(vi 8192)),(21,(vp 1 0)),(20,(vp 2 0)),(19,(vp 2 0)),(18,(vp 2 0)),(17,(vp 240 0)),(16,(vp 240 0)),(15,(vp 240 0)),(12,(.bool false)),(11,(vp 240 0)),(5,(vi 0)),(4,(vp 2935 0)),(0,(vp 240 0)),(1,(vi 8192))] [(2936,JI),(2935,FX)] 2937 (cdR F1 40)),
  (.ops (cdO F1 28 [1,1,1,1,0] 3)),
  (.code (cdF F1 28 [1,1,1,1,1])),
  (.ret 28 997 (some 14) [(13,(vi 8192)),(12,(vp 240 0)),(11,(vp 2934 0)),(4,(vp 2934 0)),(0,h9),(1,(vi 8192)),(2,(vi 2)),(3,(vi 12288))] [(2934,(.cells [(vp 240 0)]))] 2935 (cdR F1 28)),
  (.ops (cdO F1 59 [1,0] 4)),
  (.code (cdF F1 59 [1,1])),
  (.ret 59 998 (some 56) [(55,(vi 12288)),(54,(vi 8192)),(53,h9),(52,(.bool true)),(51,(vi 0)),(50,(.tuple (.mk []))),(49,(vi 12288)),(48,(vi 8192)),(47,h9),(46,(.tuple (.mk []))),(45,(vi 12288)),(44,h9),(43,(.tuple (.mk []))),(42,(vi 0)),(41,(vi 12288)),(40,h9),(39,(.tuple (.mk []))),(38,(vi 8192)),(37,(vi 12288)),(36,h9),(9,(vi 0)),(35,(vi 0)),(34,(vi 8192)),(33,h9),(28,(.bool false)),(32,(.bool false)),(31,(vi 12288)),(30,(vi 8192)),(29,h9),(23,(.bool false)),(27,(.bool false)),(26,(vi 0)),(25,(vi 12288)),(24,h9),(19,(.bool false)),(21,(.bool false)),(20,(vi 0)),(8,(vi 0)),(18,(vi 0)),(17,(vi 12288)),(16,h9),(14,(.bool false)),(13,(vi 0)),(7,(vi 0)),(12,(vi 0)),(11,(vi 8192)),(10,h9),(6,(vi 0)),(3,(vp 2307 0)),(0,h9),(1,(vi 8192)),(2,(vi 12288))] [(2307,(.cells [(vp 240 0)]))] 2934 (cdR F1 59)),
  (.ops []),
  (.code (cdF F1 31 [1,1,1,1,1,1,1,1,1])),
  (.ret 31 999 (some 0) [] [(2274,(.cells [(vp 240 0)]))] 2307 (cdR F1 31)),
  (.drc (cdD F1 36 [1,1,1,1,0]) (cdB F1 36 [1,1,1,1,0]) (List.drop 8 (cdD F1 36 [1,1,1,1,0])) 2275 7 (some 29) [(4,(vp 2274 0)),(21,h9),(20,(vp 240 0)),(19,(vp 248 0)),(18,(vp 248 0)),(17,(vp 248 0)),(16,(.bool false)),(15,(.bool false)),(14,(vi 4)),(13,qQ),(12,(.bool false)),(11,(.bool false)),(10,(.bool true)),(3,(.bool true)),(2,qQ),(1,(vp 248 0)),(9,(.bool true)),(8,qQ),(7,(vp 248 0)),(5,(.tuple (.mk [(vp 248 0),qQ,(.bool true)]))),(6,(.tuple (.mk [(vp 248 0),qQ,(.bool true)]))),(0,(.bool false))] (.mk [(6,((some 28),(vi 12288))),(5,((some 27),(vp 2272 1))),(4,((some 26),qQ)),(3,((some 25),(vi 8192))),(2,((some 24),(vp 2272 0))),(1,((some 23),qQ)),(0,((some 22),h9))] [(.mk [(2274,(.cells [(vp 240 0)]))] [(2272,JR),(2271,(.cells [(vi 20480)])),(1765,(.cells [(vi 16384)])),(1259,(.cells [(vi 12288)])),(753,(.cells [(vi 8192)])),(248,E9),(240,Gm),(230,Gd),(229,(.cells [(vi 0),(vi 0),(.bool true)])),(2,FL),(1,(.ext (.mk (some Jo::some EY::some J5::some 0x6e010000000000000000000000000000000000000000000000000000000000003000000000000000000000000000000000000000000045444f4e0000000000000000000000000000000000000000000000000000000000000000000000000000000000000000000000000000000000000000000000000000000000000000000000000000000000000000000000000000000000000000000000000000000000000002000000000000000000000000000000000000000000000002000000004b4e4843::some JV::some Kl::none::none::none::none::n20) false 0)))] 2307)] [] [] [(6,((.ld (.mk 2272 1 none) 1),[(vi 12288)])),(3,((.ld (.mk 2272 0 none) 1),[(vi 8192)])),(0,((.ld (.mk 2274 0 none) 1),[(vp 240 0)]))])),
  (.code (cdF F1 36 [1,1,1,1,1])),
  (.ret 36 1000 (some 0) [] [] 0 (cdR F1 36)),
  (.ops [])],.norm,
 [(35,(vp 240 0)),(9,(vi 0)),(8,(vp 2956 0)),(33,(vi 0)),(32,yh),(29,(.tuple (.mk [yh,(vi 0)]))),(31,(.tuple (.mk [yh,(vi 0)]))),(30,zX),(26,(.bool false)),(25,(vi 0)),(7,(vi 0)),(6,(vp 2953 0)),(24,(vi 0)),(23,zX),(11,(.tuple (.mk [zX,(vi 0)]))),(22,(.tuple (.mk [zX,(vi 0)]))),(21,(vi 8224)),(20,(vi 8192)),(19,(vp 2937 0)),(18,(vp 1 0)),(17,(vp 2 0)),(16,(vp 2 0)),(15,(vp 2 0)),(14,(vp 240 0)),(13,(vp 240 0)),(12,(vp 240 0)),(5,(vi 0)),(4,(vp 2938 0)),(3,(vp 2937 0)),(0,(vp 240 0)),(1,vS)],
 ⟨[(2956,(.cells [(vp 1 0),(vi 8352),(vi 32)])),(2953,(.cells [(vp 1 0),(vi 8224),(vi 992)])),(2938,FX),(2937,JI)],
 [(2272,JR),(2271,(.cells [(vi 20480)])),(1765,(.cells [(vi 16384)])),(1259,(.cells [(vi 12288)])),(753,(.cells [(vi 8192)])),(248,E9),(240,Gm),(230,Gd),(229,(.cells [(vi 0),(vi 0),(.bool true)])),(2,FL),(1,(.ext (.mk (some Jo::some EY::some 0x6e010000000000000000000000000000000000000000000000000000000000002000000000000000000000000000000000000000000045444f4e0000000000000000000000000000000000000000000000000000000000000000000000000000000000000000000000000000000000000000000000000000000000000000000000000000000000003000000000000000000000000000000000000000000000000001000000000000000000000000000000000000000000000001000000004b4e4843::some 0x6e010000000000000000000000000000000000000000000000000000000000003000000000000000000000000000000000000000000045444f4e0000000000000000000000000000000000000000000000000000000000000000000000000000000000000000000000000000000000000000000000000000000000000000000000000000000000000000000000000000000000000000000020000000000000000002000000000000000000000000000000000000000000000002000000004b4e4843::some JV::some Kl::none::none::none::none::n20) false 0)))],2957⟩⟩
theorem Ol:bQ F1 ac (ab x7) 20000 JB=some (JS:Ms Ar):=by kernel_rfl
def NC:Ms Ar:=⟨1000,[],.norm,
 [(0,(.bool true))],
 ⟨[],
 [],5737⟩⟩
theorem ND:bQ F1 ac (ab x7) 20000 JS=some (NC:Ms Ar):=by kernel_rfl
theorem r19:∃h',run F1 ac (ab x7) 1000 36 [] (⟨[],0⟩:Hp Ar)=some (.bool true,h'):=by
 have h0:=Ms.e (F:=F1) (clean:=ac) (hook:=ab x7) 1000 36 (⟨[],0⟩:Hp Ar);rw[aE Nl] at h0;rw[aE Ol] at h0;rw[aE ND] at h0;exact⟨_,h0.symm.trans (Ms.a rfl)⟩
end Go.AI
namespace Go.AI
open Go.Proofs
def J6:Nat:=Nat.add (Nat.shiftLeft 0x30303 2056) (Nat.shiftLeft 0x59444455424c494d0000000000000003 768)
def Kj:Nat:=Nat.shiftLeft 0x1 324
def JO:Nat:=Nat.add (Nat.add (Nat.add (Nat.add (Nat.shiftLeft 0x6e01 1536) (Nat.shiftLeft 0x2 1292)) (Nat.shiftLeft 0x45444f4e 1088)) (Nat.shiftLeft 0x1 256)) 0x1000000004b4e4843
def El:Value:=(.agg (.mk (ap [(vp 240 0),(vp 1 0),(vi 12448),(vi 32),(vw 2),(vp 1 0),(vi 12448),(vi 32),(vi 1024),(vp 1 0),(vi 12320),(vi 992)] [])))
def gV:Value:=(.agg (.mk [(vp 240 0)]))
def pT:Value:=(.slice (some (.mk 1260 0 none)) 2 2)
def zd:Value:=(.agg (.mk [(vi 12288),(vi 0),(vw 2),(vi 0)]))
def JU:AObj Ar:=(.cells (ap [(vp 240 0),(vi 1),(vi 29),(vi 1),(.int .i64 (.negSucc 0)),(.slice (some (.mk 230 0 none)) 1 1),(.slice none 0 0),(.slice none 0 0),(.slice none 0 0),(.slice none 0 0),(.slice none 0 0),(vi 16),(.slice none 0 0),(.slice none 0 0)] []))
def JX:AObj Ar:=(.cells (ap [(vp 1 0),(vi 1),(vi 29),(vp 1 0),(vi 0),(vi 256),(vp 1 0),(vi 0),(vi 88),(vp 1 0),(vi 257),(vi 29)] []))
def JY:AObj Ar:=(.cells [(vp 2 0),(vp 1 0),(vi 4096),(vi 64),(vp 1 0),(vi 4096),(vi 64)])
def JJ:AObj Ar:=(.grown 3 177 [(vi 0),(vi 0),(.bool true)])
def J7:Ms Ar:=⟨995,[(.ops []),
  (.code (cdF F1 28 [1,1,1,1,1])),
  (.ret 28 996 (some 14) [(13,(vi 12288)),(12,(vp 240 0)),(11,(vp 1794 0)),(4,(vp 1794 0)),(0,gV),(1,(vi 12288)),(2,(vi 4)),(3,(vi 0))] [(1794,(.cells [(vp 240 0)]))] 1795 (cdR F1 28)),
  (.ops (cdO F1 59 [1,0] 4)),
  (.code (cdF F1 59 [1,1])),
  (.ret 59 997 (some 46) [(45,(vi 12288)),(44,gV),(43,(.tuple (.mk []))),(42,(vi 0)),(41,(vi 12288)),(40,gV),(39,(.tuple (.mk []))),(38,(vi 8192)),(37,(vi 12288)),(36,gV),(9,(vi 0)),(35,(vi 0)),(34,(vi 8192)),(33,gV),(28,(.bool false)),(32,(.bool false)),(31,(vi 12288)),(30,(vi 8192)),(29,gV),(23,(.bool false)),(27,(.bool false)),(26,(vi 0)),(25,(vi 12288)),(24,gV),(19,(.bool false)),(21,(.bool false)),(20,(vi 0)),(8,(vi 0)),(18,(vi 0)),(17,(vi 12288)),(16,gV),(14,(.bool false)),(13,(vi 0)),(7,(vi 0)),(12,(vi 0)),(11,(vi 8192)),(10,gV),(6,(vi 0)),(3,(vp 1281 0)),(0,gV),(1,(vi 8192)),(2,(vi 12288))] [(1281,(.cells [(vp 240 0)]))] 1794 (cdR F1 59)),
  (.ops []),
  (.code (cdF F1 31 [1,1,1,1,1,1,1])),
  (.ret 31 998 (some 13) [(12,(vi 12288)),(11,(vi 8192)),(10,gV),(9,(vp 1280 0)),(6,(vi 0)),(3,(vp 1280 0)),(0,gV),(1,(vi 8192)),(2,(vi 12288))] [(1280,(.cells [(vp 240 0)]))] 1281 (cdR F1 31)),
  (.ops (cdO F1 13 [1,0,0] 5)),
  (.code (cdF F1 13 [1,0,1])),
  (.code (cdF F1 13 [1,1])),
  (.ret 13 999 (some 0) [] [(1264,(.cells [(vp 240 0)]))] 1280 (cdR F1 13)),
  (.drc (cdD F1 4 [1,1,1,1,0]) (cdB F1 4 [1,1,1,1,0]) (List.drop 8 (cdD F1 4 [1,1,1,1,0])) 1265 7 (some 32) [(4,(vp 1264 0)),(24,gV),(23,gV),(22,(vp 240 0)),(21,(vp 248 0)),(20,(vp 248 0)),(19,(vp 248 0)),(18,(.bool false)),(17,(.bool false)),(16,(vi 2)),(15,pT),(14,(.bool false)),(13,(.bool false)),(12,(.bool true)),(3,(.bool true)),(2,pT),(1,(vp 248 0)),(11,(.bool true)),(10,pT),(9,(vp 248 0)),(7,(.tuple (.mk [(vp 248 0),pT,(.bool true)]))),(8,(.tuple (.mk [(vp 248 0),pT,(.bool true)]))),(0,(.bool false))] (.mk [(6,((some 31),(vi 12288))),(5,((some 30),(vp 1260 1))),(4,((some 29),pT)),(3,((some 28),(vi 8192))),(2,((some 27),(vp 1260 0))),(1,((some 26),pT)),(0,((some 25),gV))] [(.mk [(1264,(.cells [(vp 240 0)]))] [(1260,(.grown 1 3 [(vi 8192),(vi 12288)])),(1259,(.cells [(vi 12288)])),(753,(.cells [(vi 8192)])),(248,JU),(240,JY),(230,JJ),(229,(.cells [(vi 0),(vi 0),(.bool true)])),(2,JX),(1,(.ext (.mk (some J6::some Kj::some JO::some 0x6e010000000000000000000000000000000000000000000000000000000000003000000000000000000000000000000000000000000045444f4e0000000000000000000000000000000000000000000000000000000000000000000000000000000000000000000000000000000000000000000000000000000000000000000000000000000000000000000000000000000000000000000000000000000000000002000000000000000000000000000000000000000000000002000000004b4e4843::none::none::none::none::none::none::n20) false 0)))] 1280)] [] [] [(6,((.ld (.mk 1260 1 none) 1),[(vi 12288)])),(3,((.ld (.mk 1260 0 none) 1),[(vi 8192)])),(0,((.ld (.mk 1264 0 none) 1),[(vp 240 0)]))])),
  (.code (cdF F1 4 [1,1,1,1,1])),
  (.ret 4 1000 (some 0) [] [] 0 (cdR F1 4)),
  (.ops [])],.norm,
 [(7,(vi 0)),(8,(vp 1833 0)),(35,(vi 0)),(34,El),(30,(.tuple (.mk [El,(vi 0)]))),(33,(.tuple (.mk [El,(vi 0)]))),(32,zd),(31,(vp 240 0)),(27,(.bool false)),(26,(vi 0)),(7,(vi 0)),(6,(vp 1796 0)),(25,(vi 0)),(24,zd),(14,(.tuple (.mk [zd,(vi 0)]))),(23,(.tuple (.mk [zd,(vi 0)]))),(22,(vi 12288)),(21,(vp 1 0)),(20,(vp 2 0)),(19,(vp 2 0)),(18,(vp 2 0)),(17,(vp 240 0)),(16,(vp 240 0)),(15,(vp 240 0)),(12,(.bool false)),(11,(vp 240 0)),(5,(vi 0)),(4,(vp 1795 0)),(0,(vp 240 0)),(1,(vi 12288))],
 ⟨[(1833,(.cells (ap [(vp 240 0),(vp 1 0),(vi 12448),(vi 32),(vw 2),(vp 1 0),(vi 12448),(vi 32),(vi 1024),(vp 1 0),(vi 12320),(vi 992)] []))),(1796,(.cells [(vi 12288),(vi 0),(vw 2),(vi 0)])),(1795,(.cells (ap [(.pointer none),(.pointer none),(vi 0),(vi 0),(vw 0),(.pointer none),(vi 0),(vi 0),(vi 0),(.pointer none),(vi 0),(vi 0)] [])))],
 [(1260,(.grown 1 3 [(vi 8192),(vi 12288)])),(1259,(.cells [(vi 12288)])),(753,(.cells [(vi 8192)])),(248,JU),(240,JY),(230,JJ),(229,(.cells [(vi 0),(vi 0),(.bool true)])),(2,JX),(1,(.ext (.mk (some J6::some Kj::some JO::some 0x6e010000000000000000000000000000000000000000000000000000000000003000000000000000000000000000000000000000000045444f4e0000000000000000000000000000000000000000000000000000000000000000000000000000000000000000000000000000000000000000000000000000000000000000000000000000000000000000000000000000000000000000000020000000000000000002000000000000000000000000000000000000000000000002000000004b4e4843::none::none::none::none::none::none::n20) false 0)))],1834⟩⟩
theorem Oa:bQ F1 ac (ab cr) 24000 (Ms.call 1000 4 ⟨[],0⟩:Ms Ar)=some (J7:Ms Ar):=by kernel_rfl
def NF:Ms Ar:=⟨1000,[],.norm,
 [(0,(.bool true))],
 ⟨[],
 [],3701⟩⟩
theorem Pa:bQ F1 ac (ab cr) 16000 J7=some (NF:Ms Ar):=by kernel_rfl
theorem r20:∃h',run F1 ac (ab cr) 1000 4 [] (⟨[],0⟩:Hp Ar)=some (.bool true,h'):=by
 have h0:=Ms.e (F:=F1) (clean:=ac) (hook:=ab cr) 1000 4 (⟨[],0⟩:Hp Ar);rw[aE Oa] at h0;rw[aE Pa] at h0;exact⟨_,h0.symm.trans (Ms.a rfl)⟩
end Go.AI
namespace Go.AI
open Go.Proofs
variable {W0:World}{Cls:Nat→Int→Prop}
theorem IY(hT:Tabs W0):∀x∈Fc,aQ (a8 Cls) PZ W0 x.1 x.2:=pG (HK hT) r16
theorem HL(hT:Tabs W0):∀x∈x7,aQ (a8 Cls) PZ W0 x.1 x.2:=pG (IY hT) r18
theorem yZ(hT:Tabs W0):∀x∈cr,aQ (a8 Cls) PZ W0 x.1 x.2:=pG (HL hT) r19
theorem Ic(hT:Tabs W0):∀x∈PA,aQ (a8 Cls) PZ W0 x.1 x.2:=pG (yZ hT) r20
end Go.AI
