/- A chapter's example, reckoned by the kernel piece by piece. -/
import Derived.Test.YthoiknijhfnadaaGreatDoorKAy
set_option maxRecDepth 1000000
noncomputable section
namespace Go.AI
open Go.Proofs
def s16_1:Ms Ar:=⟨1000,[],.norm,
 [(0,(.bool true))],
 ⟨[],
 [],2473⟩⟩
theorem t16_1:machS F1 cleanT (hookL h15a) 28000 (Ms.call 1000 186 ⟨[],0⟩:Ms Ar)=some (s16_1:Ms Ar):=by kernel_rfl
theorem r16:∃h',run F1 cleanT (hookL h15a) 1000 186 [] (⟨[],0⟩:Hp Ar)=some (.bool true,h'):=by
 have h0:=Ms.call_den (F:=F1) (clean:=cleanT) (hook:=hookL h15a) 1000 186 (⟨[],0⟩:Hp Ar)
 rw[machS_den t16_1] at h0
 exact⟨_,h0.symm.trans (Ms.end_den rfl)⟩
end Go.AI
/- A chapter's example, reckoned by the kernel piece by piece. -/
namespace Go.AI
open Go.Proofs
def s18_1:Ms Ar:=⟨1000,[],.norm,
 [(0,(.bool true))],
 ⟨[],
 [],904⟩⟩
theorem t18_1:machS F1 cleanT (hookL h16a) 16000 (Ms.call 1000 125 ⟨[],0⟩:Ms Ar)=some (s18_1:Ms Ar):=by kernel_rfl
theorem r18:∃h',run F1 cleanT (hookL h16a) 1000 125 [] (⟨[],0⟩:Hp Ar)=some (.bool true,h'):=by
 have h0:=Ms.call_den (F:=F1) (clean:=cleanT) (hook:=hookL h16a) 1000 125 (⟨[],0⟩:Hp Ar)
 rw[machS_den t18_1] at h0
 exact⟨_,h0.symm.trans (Ms.end_den rfl)⟩
end Go.AI
/- A chapter's example, reckoned by the kernel piece by piece. -/
namespace Go.AI
open Go.Proofs
def q19x0:Nat:=Nat.shiftLeft 0x1 324
def q19x1:Nat:=Nat.add (Nat.add (Nat.add (Nat.add (Nat.shiftLeft 0x6e01 1536) (Nat.shiftLeft 0x2 1292)) (Nat.shiftLeft 0x45444f4e 1088)) (Nat.shiftLeft 0x1 256)) 0x1000000004b4e4843
def q19x2:Nat:=Nat.add (Nat.shiftLeft 0x303030303 2056) (Nat.shiftLeft 0x59444455424c494d0000000000000005 768)
def q19x3:Nat:=Nat.add (Nat.add (Nat.add (Nat.add (Nat.shiftLeft 0x6e01 1536) (Nat.shiftLeft 0x4 1292)) (Nat.shiftLeft 0x45444f4e 1088)) (Nat.shiftLeft 0x3 256)) 0x3000000004b4e4843
def q19x4:Nat:=Nat.add (Nat.add (Nat.add (Nat.add (Nat.shiftLeft 0x6e01 1536) (Nat.shiftLeft 0x5 1292)) (Nat.shiftLeft 0x45444f4e 1088)) (Nat.shiftLeft 0x4 256)) 0x4000000004b4e4843
def v19x0:Value:=(.agg (.mk (ap [(vp 240 0),(vp 1 0),(vi 12448),(vi 32),(vw 2),(vp 1 0),(vi 12448),(vi 32),(vi 1024),(vp 1 0),(vi 12320),(vi 992)] [])))
def v19x1:Value:=(.agg (.mk (ap [(vp 240 0),(vp 1 0),(vi 8352),(vi 32),(vw 1),(vp 1 0),(vi 8352),(vi 32),(vi 1024),(vp 1 0),(vi 8224),(vi 992)] [])))
def v19x2:Value:=(.agg (.mk [(vp 240 0)]))
def v19x3:Value:=(.agg (.mk [(vp 1 0),(vi 12320),(vi 992)]))
def v19x4:Value:=(.slice (some (.mk 2272 0 none)) 4 4)
def v19x5:Value:=(.agg (.mk [(vi 8192),(vi 0),(vw 1),(vi 0)]))
def v19x6:Value:=(.string (.mk (.mk [(UInt8.ofNat 110)])))
def v19x7:Value:=(.agg (.mk [(vi 12288),(vi 0),(vw 2),(vi 0)]))
def v19x8:Value:=(.agg (.mk [(vp 1 0),(vi 8224),(vi 992)]))
def v19x9:Value:=(.slice none 0 0)
def v19x10:Value:=(.agg (.mk [(vp 1 0),(vi 8352),(vi 32)]))
def o19x0:AObj Ar:=(.cells (ap [(vp 240 0),(vi 1),(vi 29),(vi 1),(.int .i64 (.negSucc 0)),(.slice (some (.mk 230 0 none)) 1 1),v19x9,v19x9,v19x9,v19x9,v19x9,(vi 16),v19x9,v19x9] []))
def o19x1:AObj Ar:=(.cells (ap [(.pointer none),(.pointer none),(vi 0),(vi 0),(vw 0),(.pointer none),(vi 0),(vi 0),(vi 0),(.pointer none),(vi 0),(vi 0)] []))
def o19x2:AObj Ar:=(.cells (ap [(vp 1 0),(vi 1),(vi 29),(vp 1 0),(vi 0),(vi 256),(vp 1 0),(vi 0),(vi 88),(vp 1 0),(vi 257),(vi 29)] []))
def o19x3:AObj Ar:=(.cells [(vp 2 0),(vp 1 0),(vi 4096),(vi 64),(vp 1 0),(vi 4096),(vi 64)])
def o19x4:AObj Ar:=(.grown 3 251 [(vi 0),(vi 0),(.bool true)])
def o19x5:AObj Ar:=(.grown 1 3 [(vi 8192),(vi 12288),(vi 16384),(vi 20480)])
def o19x6:AObj Ar:=(.cells [(vi 8192),(vi 0),(vw 1),(vi 0)])
def s19_1:Ms Ar:=⟨996,[(.ops (cdO F1 99 [1,1,1,0] 1)),
  (.code (cdF F1 99 [1,0,0,1,0,1])),
  (.ret 99 997 (some 63) [(62,v19x6),(61,v19x3),(60,(vp 1102 9)),(59,(.tuple (.mk []))),(58,(vw 2)),(57,v19x0),(56,(vi 0)),(55,(vi 12288)),(54,(vp 1065 0)),(53,(.agg (.mk [(vp 240 0),(vp 1 0),(vi 12448),(vi 32),(vw 2)]))),(52,(vp 1102 0)),(51,(vp 1102 0)),(50,(vp 1102 0)),(49,(vi 0)),(48,v19x3),(47,(vp 1102 9)),(46,(vi 0)),(45,v19x3),(44,(vp 1102 9)),(13,(vi 0)),(12,(vp 1102 0)),(43,(vi 0)),(42,v19x0),(38,(.tuple (.mk [v19x0,(vi 0)]))),(41,(.tuple (.mk [v19x0,(vi 0)]))),(40,v19x7),(39,(vp 240 0)),(35,(.bool false)),(34,(vi 0)),(11,(vi 0)),(10,(vp 1065 0)),(33,(vi 0)),(32,v19x7),(27,(.tuple (.mk [v19x7,(vi 0)]))),(31,(.tuple (.mk [v19x7,(vi 0)]))),(30,(vw 2)),(29,(vi 0)),(28,(vp 240 0)),(22,(.bool false)),(25,(.bool false)),(24,(vi 1)),(23,v19x6),(18,(.bool false)),(20,(.bool false)),(19,(vw 2)),(14,(.bool false)),(16,(.bool false)),(15,(vp 240 0)),(9,(vi 0)),(8,(vp 755 0)),(0,(vp 240 0)),(1,(vi 0)),(2,(vw 2)),(3,v19x6)] [(1102,(.cells (ap [(vp 240 0),(vp 1 0),(vi 12448),(vi 32),(vw 2),(vp 1 0),(vi 12448),(vi 32),(vi 1024),(vp 1 0),(vi 12320),(vi 992)] []))),(1065,(.cells [(vi 12288),(vi 0),(vw 2),(vi 0)])),(755,o19x1)] 1253 (cdR F1 99)),
  (.ops []),
  (.code (cdF F1 58 [1,1,1,1,1,1,1,1,1,1])),
  (.ret 58 998 (some 29) [(28,(vw 2)),(27,(vi 2)),(26,(vi 1)),(25,(vp 240 0)),(24,(vp 248 0)),(23,(vp 248 0)),(22,(vp 248 0)),(8,(vi 1)),(20,(vi 1)),(19,(.bool true)),(18,(vi 1)),(42,(vi 1)),(7,(.slice (some (.mk 754 0 none)) 1 1)),(41,(.slice (some (.mk 754 0 none)) 1 1)),(40,(.slice (some (.mk 753 0 none)) 1 1)),(39,(vi 8192)),(38,v19x1),(37,v19x9),(6,(.bool true)),(36,(.bool true)),(35,(.bool true)),(34,(vi 0)),(33,(.bool true)),(32,(.bool true)),(10,(vi 0)),(9,(vp 750 0)),(31,(vi 0)),(30,v19x1),(21,(.tuple (.mk [v19x1,(vi 0)]))),(29,(.tuple (.mk [v19x1,(vi 0)]))),(28,(vw 1)),(27,(vi 1)),(26,(vi 0)),(25,(vp 240 0)),(24,(vp 248 0)),(23,(vp 248 0)),(22,(vp 248 0)),(8,(vi 0)),(20,(vi 0)),(19,(.bool true)),(18,(vi 0)),(17,(vi 4)),(16,(vi 4)),(15,(vi 4)),(7,v19x9),(6,(.bool true)),(5,(vp 248 0)),(14,(.bool true)),(13,(vp 248 0)),(11,(.tuple (.mk [(vp 248 0),(.bool true)]))),(12,(.tuple (.mk [(vp 248 0),(.bool true)]))),(4,(.bool false)),(3,v19x9),(2,(.pointer none)),(0,(vi 4))] [(750,(.cells (ap [(vp 240 0),(vp 1 0),(vi 8352),(vi 32),(vw 1),(vp 1 0),(vi 8352),(vi 32),(vi 1024),(vp 1 0),(vi 8224),(vi 992)] [])))] 755 (cdR F1 58)),
  (.ops (cdO F1 34 [1,1,1,0,1,0,0,1,1,0,0,1,0] 8)),
  (.code (cdF F1 34 [1,1,1,0,1,0,0,1,1,0,0,1,1])),
  (.block 1),
  (.code (cdF F1 34 [1,1,1,0,1,0,0,1,1,1])),
  (.loop (cdF F1 34 [1,1,1,0,1,0,0]) 996),
  (.block 0),
  (.code (cdF F1 34 [1,1,1,1])),
  (.ret 34 999 (some 6) [(0,(.bool false))] [] 0 (cdR F1 34)),
  (.ops (cdO F1 56 [1,0] 1)),
  (.code (cdF F1 56 [1,1])),
  (.ret 56 1000 (some 0) [] [] 0 (cdR F1 56)),
  (.ops [])],.norm,
 [(26,v19x3),(24,(.bool false)),(23,(vi 0)),(9,(vi 0)),(22,(vi 0)),(21,(vi 16)),(20,(vi 160)),(19,v19x3),(14,(.bool false)),(18,(.bool false)),(17,(vi 16)),(16,(vi 1)),(15,v19x6),(10,(.bool false)),(13,(.bool false)),(12,(.bool true)),(11,(vi 16)),(8,(vi 0)),(4,(vp 1253 0)),(0,v19x3),(1,(vi 160)),(2,(vi 16)),(3,v19x6)],
 ⟨[(1253,(.cells [(vp 1 0),(vi 12320),(vi 992)]))],
 [(754,(.grown 1 3 [(vi 8192)])),(753,(.cells [(vi 8192)])),(248,o19x0),(240,o19x3),(230,o19x4),(229,(.cells [(vi 0),(vi 0),(.bool true)])),(2,o19x2),(1,(.ext (.mk (some 0x303030000000000000000000000000000000000000000000000000000000000000000000000000000000000000000000000000000000000000000000000000000000000000000000000000000000000000000000000000000000000000000000000000000000000000000000000000000000000000000000000000000000000000000000000000000000000000000000000000059444455424c494d0000000000000003000000000000000000000000000000000000000000000000000000000000000000000000000000000000000000000000000000000000000000000000000000000000000000000000000000000000000000000000000000000000000000000000::some q19x0::some q19x1::some 0x3000000000000000000000000000000000000000000045444f4e0000000000000000000000000000000000000000000000000000000000000000000000000000000000000000000000000000000000000000000000000000000000000000000000000000000000000000000000000000000000000000000000000000000000000002000000000000000000000000000000000000000000000002000000004b4e4843::none::none::none::none::none::none::n20) false 0)))],1255⟩⟩
theorem t19_1:machS F1 cleanT (hookL h18a) 20000 (Ms.call 1000 56 ⟨[],0⟩:Ms Ar)=some (s19_1:Ms Ar):=by kernel_rfl
def s19_2:Ms Ar:=⟨995,[(.ops (cdO F1 60 [1,1,1,1,0] 1)),
  (.code (cdF F1 60 [1,1,1,1,1])),
  (.ret 60 996 (some 33) [(32,v19x5),(31,(vp 240 0)),(27,(.bool false)),(26,(vi 0)),(7,(vi 0)),(6,(vp 2936 0)),(25,(vi 0)),(24,v19x5),(14,(.tuple (.mk [v19x5,(vi 0)]))),(23,(.tuple (.mk [v19x5,(vi 0)]))),(22,(vi 8192)),(21,(vp 1 0)),(20,(vp 2 0)),(19,(vp 2 0)),(18,(vp 2 0)),(17,(vp 240 0)),(16,(vp 240 0)),(15,(vp 240 0)),(12,(.bool false)),(11,(vp 240 0)),(5,(vi 0)),(4,(vp 2935 0)),(0,(vp 240 0)),(1,(vi 8192))] [(2936,o19x6),(2935,o19x1)] 2937 (cdR F1 60)),
  (.ops (cdO F1 35 [1,1,1,1,0] 3)),
  (.code (cdF F1 35 [1,1,1,1,1])),
  (.ret 35 997 (some 14) [(13,(vi 8192)),(12,(vp 240 0)),(11,(vp 2934 0)),(4,(vp 2934 0)),(0,v19x2),(1,(vi 8192)),(2,(vi 2)),(3,(vi 12288))] [(2934,(.cells [(vp 240 0)]))] 2935 (cdR F1 35)),
  (.ops (cdO F1 124 [1,0] 4)),
  (.code (cdF F1 124 [1,1])),
  (.ret 124 998 (some 56) [(55,(vi 12288)),(54,(vi 8192)),(53,v19x2),(52,(.bool true)),(51,(vi 0)),(50,(.tuple (.mk []))),(49,(vi 12288)),(48,(vi 8192)),(47,v19x2),(46,(.tuple (.mk []))),(45,(vi 12288)),(44,v19x2),(43,(.tuple (.mk []))),(42,(vi 0)),(41,(vi 12288)),(40,v19x2),(39,(.tuple (.mk []))),(38,(vi 8192)),(37,(vi 12288)),(36,v19x2),(9,(vi 0)),(35,(vi 0)),(34,(vi 8192)),(33,v19x2),(28,(.bool false)),(32,(.bool false)),(31,(vi 12288)),(30,(vi 8192)),(29,v19x2),(23,(.bool false)),(27,(.bool false)),(26,(vi 0)),(25,(vi 12288)),(24,v19x2),(19,(.bool false)),(21,(.bool false)),(20,(vi 0)),(8,(vi 0)),(18,(vi 0)),(17,(vi 12288)),(16,v19x2),(14,(.bool false)),(13,(vi 0)),(7,(vi 0)),(12,(vi 0)),(11,(vi 8192)),(10,v19x2),(6,(vi 0)),(3,(vp 2307 0)),(0,v19x2),(1,(vi 8192)),(2,(vi 12288))] [(2307,(.cells [(vp 240 0)]))] 2934 (cdR F1 124)),
  (.ops []),
  (.code (cdF F1 89 [1,1,1,1,1,1,1,1,1])),
  (.ret 89 999 (some 0) [] [(2274,(.cells [(vp 240 0)]))] 2307 (cdR F1 89)),
  (.drc (cdD F1 56 [1,1,1,1,0]) (cdB F1 56 [1,1,1,1,0]) (List.drop 8 (cdD F1 56 [1,1,1,1,0])) 2275 7 (some 29) [(4,(vp 2274 0)),(21,v19x2),(20,(vp 240 0)),(19,(vp 248 0)),(18,(vp 248 0)),(17,(vp 248 0)),(16,(.bool false)),(15,(.bool false)),(14,(vi 4)),(13,v19x4),(12,(.bool false)),(11,(.bool false)),(10,(.bool true)),(3,(.bool true)),(2,v19x4),(1,(vp 248 0)),(9,(.bool true)),(8,v19x4),(7,(vp 248 0)),(5,(.tuple (.mk [(vp 248 0),v19x4,(.bool true)]))),(6,(.tuple (.mk [(vp 248 0),v19x4,(.bool true)]))),(0,(.bool false))] (.mk [(6,((some 28),(vi 12288))),(5,((some 27),(vp 2272 1))),(4,((some 26),v19x4)),(3,((some 25),(vi 8192))),(2,((some 24),(vp 2272 0))),(1,((some 23),v19x4)),(0,((some 22),v19x2))] [(.mk [(2274,(.cells [(vp 240 0)]))] [(2272,o19x5),(2271,(.cells [(vi 20480)])),(1765,(.cells [(vi 16384)])),(1259,(.cells [(vi 12288)])),(753,(.cells [(vi 8192)])),(248,o19x0),(240,o19x3),(230,o19x4),(229,(.cells [(vi 0),(vi 0),(.bool true)])),(2,o19x2),(1,(.ext (.mk (some q19x2::some q19x0::some q19x1::some 0x6e010000000000000000000000000000000000000000000000000000000000003000000000000000000000000000000000000000000045444f4e0000000000000000000000000000000000000000000000000000000000000000000000000000000000000000000000000000000000000000000000000000000000000000000000000000000000000000000000000000000000000000000000000000000000000002000000000000000000000000000000000000000000000002000000004b4e4843::some q19x3::some q19x4::none::none::none::none::n20) false 0)))] 2307)] [] [] [(6,((.ld (.mk 2272 1 none) 1),[(vi 12288)])),(3,((.ld (.mk 2272 0 none) 1),[(vi 8192)])),(0,((.ld (.mk 2274 0 none) 1),[(vp 240 0)]))])),
  (.code (cdF F1 56 [1,1,1,1,1])),
  (.ret 56 1000 (some 0) [] [] 0 (cdR F1 56)),
  (.ops [])],.norm,
 [(35,(vp 240 0)),(9,(vi 0)),(8,(vp 2956 0)),(33,(vi 0)),(32,v19x10),(29,(.tuple (.mk [v19x10,(vi 0)]))),(31,(.tuple (.mk [v19x10,(vi 0)]))),(30,v19x8),(26,(.bool false)),(25,(vi 0)),(7,(vi 0)),(6,(vp 2953 0)),(24,(vi 0)),(23,v19x8),(11,(.tuple (.mk [v19x8,(vi 0)]))),(22,(.tuple (.mk [v19x8,(vi 0)]))),(21,(vi 8224)),(20,(vi 8192)),(19,(vp 2937 0)),(18,(vp 1 0)),(17,(vp 2 0)),(16,(vp 2 0)),(15,(vp 2 0)),(14,(vp 240 0)),(13,(vp 240 0)),(12,(vp 240 0)),(5,(vi 0)),(4,(vp 2938 0)),(3,(vp 2937 0)),(0,(vp 240 0)),(1,v19x5)],
 ⟨[(2956,(.cells [(vp 1 0),(vi 8352),(vi 32)])),(2953,(.cells [(vp 1 0),(vi 8224),(vi 992)])),(2938,o19x1),(2937,o19x6)],
 [(2272,o19x5),(2271,(.cells [(vi 20480)])),(1765,(.cells [(vi 16384)])),(1259,(.cells [(vi 12288)])),(753,(.cells [(vi 8192)])),(248,o19x0),(240,o19x3),(230,o19x4),(229,(.cells [(vi 0),(vi 0),(.bool true)])),(2,o19x2),(1,(.ext (.mk (some q19x2::some q19x0::some 0x6e010000000000000000000000000000000000000000000000000000000000002000000000000000000000000000000000000000000045444f4e0000000000000000000000000000000000000000000000000000000000000000000000000000000000000000000000000000000000000000000000000000000000000000000000000000000000003000000000000000000000000000000000000000000000000001000000000000000000000000000000000000000000000001000000004b4e4843::some 0x6e010000000000000000000000000000000000000000000000000000000000003000000000000000000000000000000000000000000045444f4e0000000000000000000000000000000000000000000000000000000000000000000000000000000000000000000000000000000000000000000000000000000000000000000000000000000000000000000000000000000000000000000020000000000000000002000000000000000000000000000000000000000000000002000000004b4e4843::some q19x3::some q19x4::none::none::none::none::n20) false 0)))],2957⟩⟩
theorem t19_2:machS F1 cleanT (hookL h18a) 20000 s19_1=some (s19_2:Ms Ar):=by kernel_rfl
def s19_3:Ms Ar:=⟨1000,[],.norm,
 [(0,(.bool true))],
 ⟨[],
 [],5737⟩⟩
theorem t19_3:machS F1 cleanT (hookL h18a) 20000 s19_2=some (s19_3:Ms Ar):=by kernel_rfl
theorem r19:∃h',run F1 cleanT (hookL h18a) 1000 56 [] (⟨[],0⟩:Hp Ar)=some (.bool true,h'):=by
 have h0:=Ms.call_den (F:=F1) (clean:=cleanT) (hook:=hookL h18a) 1000 56 (⟨[],0⟩:Hp Ar)
 rw[machS_den t19_1] at h0
 rw[machS_den t19_2] at h0
 rw[machS_den t19_3] at h0
 exact⟨_,h0.symm.trans (Ms.end_den rfl)⟩
end Go.AI
/- A chapter's example, reckoned by the kernel piece by piece. -/
namespace Go.AI
open Go.Proofs
def v23x0:Value:=(.agg (.mk [(vp 1 0),(vi 8352),(vi 32)]))
def v23x1:Value:=(.agg (.mk [(vi 8192),(vi 0),(vw 1),(vi 0)]))
def v23x2:Value:=(.slice (some (.mk 1766 0 none)) 3 3)
def v23x3:Value:=(.agg (.mk [(vp 240 0),(vp 1 0),(vi 8352),(vi 32),(vw 1)]))
def v23x4:Value:=(.agg (.mk [(vp 1 0),(vi 8224),(vi 992)]))
def v23x5:Value:=(.slice none 0 0)
def o23x0:AObj Ar:=(.cells (ap [(.pointer none),(.pointer none),(vi 0),(vi 0),(vw 0),(.pointer none),(vi 0),(vi 0),(vi 0),(.pointer none),(vi 0),(vi 0)] []))
def o23x1:AObj Ar:=(.cells [(vi 8192),(vi 0),(vw 1),(vi 0)])
def s23_1:Ms Ar:=⟨995,[(.ops (cdO F1 102 [1,0] 6)),
  (.code (cdF F1 102 [1,1])),
  (.ret 102 996 (some 39) [(38,(vw 1)),(37,(vp 1769 2)),(36,v23x0),(35,(vp 240 0)),(9,(vi 0)),(8,(vp 1788 0)),(33,(vi 0)),(32,v23x0),(29,(.tuple (.mk [v23x0,(vi 0)]))),(31,(.tuple (.mk [v23x0,(vi 0)]))),(30,v23x4),(26,(.bool false)),(25,(vi 0)),(7,(vi 0)),(6,(vp 1785 0)),(24,(vi 0)),(23,v23x4),(11,(.tuple (.mk [v23x4,(vi 0)]))),(22,(.tuple (.mk [v23x4,(vi 0)]))),(21,(vi 8224)),(20,(vi 8192)),(19,(vp 1769 0)),(18,(vp 1 0)),(17,(vp 2 0)),(16,(vp 2 0)),(15,(vp 2 0)),(14,(vp 240 0)),(13,(vp 240 0)),(12,(vp 240 0)),(5,(vi 0)),(4,(vp 1770 0)),(3,(vp 1769 0)),(0,(vp 240 0)),(1,v23x1)] [(1788,(.cells [(vp 1 0),(vi 8352),(vi 32)])),(1785,(.cells [(vp 1 0),(vi 8224),(vi 992)])),(1770,o23x0),(1769,o23x1)] 1789 (cdR F1 102)),
  (.ops (cdO F1 60 [1,1,1,1,0] 5)),
  (.code (cdF F1 60 [1,1,1,1,1])),
  (.ret 60 997 (some 33) [(32,v23x1),(31,(vp 240 0)),(27,(.bool false)),(26,(vi 0)),(7,(vi 0)),(6,(vp 1768 0)),(25,(vi 0)),(24,v23x1),(14,(.tuple (.mk [v23x1,(vi 0)]))),(23,(.tuple (.mk [v23x1,(vi 0)]))),(22,(vi 8192)),(21,(vp 1 0)),(20,(vp 2 0)),(19,(vp 2 0)),(18,(vp 2 0)),(17,(vp 240 0)),(16,(vp 240 0)),(15,(vp 240 0)),(12,(.bool false)),(11,(vp 240 0)),(5,(vi 0)),(4,(vp 1767 0)),(0,(vp 240 0)),(1,(vi 8192))] [(1768,o23x1),(1767,o23x0)] 1769 (cdR F1 60)),
  (.ops (cdO F1 35 [1,1,1,1,0] 3)),
  (.code (cdF F1 35 [1,1,1,1,1])),
  (.ret 35 998 (some 30) [(29,(vi 8192)),(28,(vp 240 0)),(27,(vp 248 0)),(26,(vp 248 0)),(25,(vp 248 0)),(9,(vi 8192)),(23,(vi 8192)),(22,(vp 1766 0)),(21,(.bool true)),(20,(vi 0)),(19,(vi 3)),(18,v23x2),(7,v23x5),(6,(.bool true)),(5,v23x2),(4,(vp 248 0)),(17,(.bool true)),(16,v23x2),(15,(vp 248 0)),(12,(.tuple (.mk [(vp 248 0),v23x2,(.bool true)]))),(14,(.tuple (.mk [(vp 248 0),v23x2,(.bool true)]))),(13,(vi 3)),(3,(.bool false)),(2,v23x5),(0,(vi 3))] [] 1767 (cdR F1 35)),
  (.ops (cdO F1 7 [1,1,1,0,1,0,0,1,1,0,0,1,0] 6)),
  (.code (cdF F1 7 [1,1,1,0,1,0,0,1,1,0,0,1,1])),
  (.block 1),
  (.code (cdF F1 7 [1,1,1,0,1,0,0,1,1,1])),
  (.loop (cdF F1 7 [1,1,1,0,1,0,0]) 997),
  (.block 0),
  (.code (cdF F1 7 [1,1,1,1])),
  (.ret 7 999 (some 6) [(0,(.bool false))] [] 0 (cdR F1 7)),
  (.ops (cdO F1 6 [1,0] 1)),
  (.code (cdF F1 6 [1,1])),
  (.ret 6 1000 (some 0) [] [] 0 (cdR F1 6)),
  (.ops [])],.norm,
 [(17,v23x3),(12,(.tuple (.mk [v23x3,(vi 0)]))),(16,(.tuple (.mk [v23x3,(vi 0)]))),(15,(vw 1)),(14,v23x0),(13,(vp 240 0)),(9,(vi 0)),(8,(vp 1790 0)),(5,(vp 1789 0)),(0,(vp 240 0)),(1,v23x0),(2,(vw 1)),(3,(vi 1024))],
 ⟨[(1790,(.cells [(.pointer none),(.pointer none),(vi 0),(vi 0),(vw 0),(.pointer none),(vi 0),(vi 0),(vi 0)])),(1789,(.cells [(vp 1 0),(vi 8352),(vi 32)]))],
 [(1766,(.grown 1 3 [(vi 8192),(vi 12288),(vi 16384)])),(1765,(.cells [(vi 16384)])),(1259,(.cells [(vi 12288)])),(753,(.cells [(vi 8192)])),(248,(.cells (ap [(vp 240 0),(vi 1),(vi 29),(vi 1),(.int .i64 (.negSucc 0)),(.slice (some (.mk 230 0 none)) 1 1),v23x5,v23x5,v23x5,v23x5,v23x5,(vi 16),v23x5,v23x5] []))),(240,(.cells [(vp 2 0),(vp 1 0),(vi 4096),(vi 64),(vp 1 0),(vi 4096),(vi 64)])),(230,(.grown 3 251 [(vi 0),(vi 0),(.bool true)])),(229,(.cells [(vi 0),(vi 0),(.bool true)])),(2,(.cells (ap [(vp 1 0),(vi 1),(vi 29),(vp 1 0),(vi 0),(vi 256),(vp 1 0),(vi 0),(vi 88),(vp 1 0),(vi 257),(vi 29)] []))),(1,(.ext (.mk (some 0x30303030000000000000000000000000000000000000000000000000000000000000000000000000000000000000000000000000000000000000000000000000000000000000000000000000000000000000000000000000000000000000000000000000000000000000000000000000000000000000000000000000000000000000000000000000000000000000000000000000059444455424c494d0000000000000004000000000000000000000000000000000000000000000000000000000000000000000000000000000000000000000000000000000000000000000000000000000000000000000000000000000000000000000000000000000000000000000000::some 0x1000000000000000000000000000000000000000000000000000000000000000000000000000000000::some 0x6e010000000000000000000000000000000000000000000000000000000000002000000000000000000000000000000000000000000045444f4e0000000000000000000000000000000000000000000000000000000000000000000000000000000000000000000000000000000000000000000000000000000000000000000000000000000000000000000000000000000000000000000000000000000000000001000000000000000000000000000000000000000000000001000000004b4e4843::some 0x6e010000000000000000000000000000000000000000000000000000000000003000000000000000000000000000000000000000000045444f4e0000000000000000000000000000000000000000000000000000000000000000000000000000000000000000000000000000000000000000000000000000000000000000000000000000000000000000000000000000000000000000000000000000000000000002000000000000000000000000000000000000000000000002000000004b4e4843::some 0x6e010000000000000000000000000000000000000000000000000000000000004000000000000000000000000000000000000000000045444f4e0000000000000000000000000000000000000000000000000000000000000000000000000000000000000000000000000000000000000000000000000000000000000000000000000000000000000000000000000000000000000000000000000000000000000003000000000000000000000000000000000000000000000003000000004b4e4843::none::none::none::none::none::n20) false 0)))],1794⟩⟩
theorem t23_1:machS F1 cleanT (hookL h19a) 28000 (Ms.call 1000 6 ⟨[],0⟩:Ms Ar)=some (s23_1:Ms Ar):=by kernel_rfl
def s23_2:Ms Ar:=⟨1000,[],.norm,
 [(0,(.bool true))],
 ⟨[],
 [],4844⟩⟩
theorem t23_2:machS F1 cleanT (hookL h19a) 30000 s23_1=some (s23_2:Ms Ar):=by kernel_rfl
theorem r23:∃h',run F1 cleanT (hookL h19a) 1000 6 [] (⟨[],0⟩:Hp Ar)=some (.bool true,h'):=by
 have h0:=Ms.call_den (F:=F1) (clean:=cleanT) (hook:=hookL h19a) 1000 6 (⟨[],0⟩:Hp Ar)
 rw[machS_den t23_1] at h0
 rw[machS_den t23_2] at h0
 exact⟨_,h0.symm.trans (Ms.end_den rfl)⟩
end Go.AI
/- The chapters' examples, one behind the other. -/
namespace Go.AI
open Go.Proofs
variable {W0:World}{Cls:Nat→Int→Prop}
theorem h16a_ok(hT:Tabs W0):∀x∈h16a,HookOk (Ext1 Cls) PZ W0 x.1 x.2:=next_ok (h15a_ok hT) r16
theorem h18a_ok(hT:Tabs W0):∀x∈h18a,HookOk (Ext1 Cls) PZ W0 x.1 x.2:=next_ok (h16a_ok hT) r18
theorem h19a_ok(hT:Tabs W0):∀x∈h19a,HookOk (Ext1 Cls) PZ W0 x.1 x.2:=next_ok (h18a_ok hT) r19
theorem h23a_ok(hT:Tabs W0):∀x∈h23a,HookOk (Ext1 Cls) PZ W0 x.1 x.2:=next_ok (h19a_ok hT) r23
end Go.AI
