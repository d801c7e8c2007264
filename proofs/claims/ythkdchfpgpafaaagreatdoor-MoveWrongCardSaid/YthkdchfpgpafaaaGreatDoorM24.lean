/- A chapter's example, reckoned by the kernel piece by piece. -/
import Derived.Test.YthkdchfpgpafaaaGreatDoorKAy
namespace Go.AI
open Go.Proofs
noncomputable def v24x0:Value:=(.agg (.mk (ap [(vi 8192),(vw 1)] (rp 12 (vw 0) (ap [(.string (.mk (.mk [(UInt8.ofNat 98)]))),(.string (.mk (.mk (ru 192 (UInt8.ofNat 0) [])))),(.string (.mk (.mk (ru 96 (UInt8.ofNat 0) [])))),(.string (.mk (.mk (ru 128 (UInt8.ofNat 0) [])))),(.string (.mk (.mk (ru 128 (UInt8.ofNat 0) [])))),(.string (.mk (.mk (ru 128 (UInt8.ofNat 0) [])))),(vw 1),(vi 1024),(vi 0),(.slice (some (.mk 809 0 none)) 1 1),(.slice none 0 0)] [])))))
noncomputable def v24x1:Value:=(.agg (.mk (ap [(vi 1),(vi 19),(vi 2),(.int .i64 (.negSucc 0)),(.slice (some (.mk 798 0 none)) 2 2),(.slice none 0 0),(.slice none 0 0),(.slice none 0 0),(.slice none 0 0),(.slice none 0 0),(vi 16),(.slice (some (.mk 802 0 none)) 1 1)] [])))
noncomputable def v24x2:Value:=(.agg (.mk (ap [(vp 240 0),(vp 1 0),(vi 8352),(vi 32),(vw 1),(vp 1 0),(vi 8352),(vi 32),(vi 1024),(vp 1 0),(vi 8224),(vi 992)] [])))
noncomputable def v24x3:Value:=(.agg (.mk (ap [(vp 240 0),(vp 1 0),(vi 12448),(vi 32),(vw 2),(vp 1 0),(vi 12448),(vi 32),(vi 1024),(vp 1 0),(vi 12320),(vi 992)] [])))
noncomputable def v24x4:Value:=(.agg (.mk (ap [(vi 1),(vi 19),(vi 1),(.int .i64 (.negSucc 0)),(.slice (some (.mk 230 0 none)) 1 1),(.slice none 0 0),(.slice none 0 0),(.slice none 0 0),(.slice none 0 0),(.slice none 0 0),(vi 16),(.slice none 0 0)] [])))
noncomputable def v24x5:Value:=(.slice none 0 0)
noncomputable def v24x6:Value:=(.string (.mk (.mk (ru 128 (UInt8.ofNat 0) []))))
noncomputable def v24x7:Value:=(.string (.mk (.mk [(UInt8.ofNat 98)])))
noncomputable def v24x8:Value:=(.agg (.mk [(vi 12288),(vi 0),(vw 2),(vi 0)]))
noncomputable def v24x9:Value:=(.agg (.mk [(vp 1 0),(vi 12320),(vi 992)]))
noncomputable def o24x0:AObj Ar:=(.cells (ap [(vi 8192),(vw 1)] (rp 12 (vw 0) (ap [v24x7,(.string (.mk (.mk (ru 192 (UInt8.ofNat 0) [])))),(.string (.mk (.mk (ru 96 (UInt8.ofNat 0) [])))),v24x6,v24x6,v24x6,(vw 1),(vi 1024),(vi 0),(.slice (some (.mk 809 0 none)) 1 1),v24x5] []))))
noncomputable def o24x1:AObj Ar:=(.cells (ap [(vp 240 0),(vp 1 0),(vi 8352),(vi 32),(vw 1),(vp 1 0),(vi 8352),(vi 32),(vi 1024),(vp 1 0),(vi 8224),(vi 992)] []))
noncomputable def o24x2:AObj Ar:=(.cells [(vi 8192),(vi 0),(vw 1),(vi 0)])
noncomputable def s24_1:Ms Ar:=⟨996,[(.code (cdF F1 132 [])),
  (.ret 132 997 (some 63) [(62,v24x7),(61,v24x9),(60,(vp 1198 9)),(59,(.tuple (.mk []))),(58,(vw 2)),(57,v24x3),(56,(vi 0)),(55,(vi 12288)),(54,(vp 1161 0)),(53,(.agg (.mk [(vp 240 0),(vp 1 0),(vi 12448),(vi 32),(vw 2)]))),(52,(vp 1198 0)),(51,(vp 1198 0)),(50,(vp 1198 0)),(49,(vi 0)),(48,v24x9),(47,(vp 1198 9)),(46,(vi 0)),(45,v24x9),(44,(vp 1198 9)),(13,(vi 0)),(12,(vp 1198 0)),(43,(vi 0)),(42,v24x3),(38,(.tuple (.mk [v24x3,(vi 0)]))),(41,(.tuple (.mk [v24x3,(vi 0)]))),(40,v24x8),(39,(vp 240 0)),(35,(.bool false)),(34,(vi 0)),(11,(vi 0)),(10,(vp 1161 0)),(33,(vi 0)),(32,v24x8),(27,(.tuple (.mk [v24x8,(vi 0)]))),(31,(.tuple (.mk [v24x8,(vi 0)]))),(30,(vw 2)),(29,(vi 0)),(28,(vp 240 0)),(22,(.bool false)),(25,(.bool false)),(24,(vi 1)),(23,v24x7),(18,(.bool false)),(20,(.bool false)),(19,(vw 2)),(14,(.bool false)),(16,(.bool false)),(15,(vp 240 0)),(9,(vi 0)),(8,(vp 851 0)),(0,(vp 240 0)),(1,(vi 0)),(2,(vw 2)),(3,v24x7)] [(1198,(.cells (ap [(vp 240 0),(vp 1 0),(vi 12448),(vi 32),(vw 2),(vp 1 0),(vi 12448),(vi 32),(vi 1024),(vp 1 0),(vi 12320),(vi 992)] []))),(1161,(.cells [(vi 12288),(vi 0),(vw 2),(vi 0)])),(851,(.cells (ap [(.pointer none),(.pointer none),(vi 0),(vi 0),(vw 0),(.pointer none),(vi 0),(vi 0),(vi 0),(.pointer none),(vi 0),(vi 0)] [])))] 1349 (cdR F1 132)),
  (.ops []),
  (.code (cdF F1 71 [1,1,1,1,1,1,1,1,1,1])),
  (.ret 71 998 (some 36) [(35,(vw 2)),(34,(vi 2)),(33,(vi 1)),(32,(vp 240 0)),(31,(vp 248 0)),(30,(vp 248 0)),(29,(vp 248 0)),(7,(vi 1)),(27,(vi 1)),(26,(.bool true)),(25,(vi 1)),(81,(vi 1)),(80,(vp 249 14)),(79,(vp 249 0)),(78,(vp 249 1)),(77,(vp 249 0)),(76,(.slice (some (.mk 850 0 none)) 1 1)),(75,(.slice (some (.mk 839 0 none)) 1 1)),(74,v24x0),(73,v24x5),(72,(vp 249 14)),(71,(vp 249 0)),(70,(vp 249 0)),(69,(.slice (some (.mk 849 0 none)) 1 1)),(68,(.slice (some (.mk 832 0 none)) 1 1)),(67,v24x2),(66,v24x2),(65,v24x5),(64,(vp 249 1)),(63,(vp 249 0)),(62,(vp 249 0)),(61,(vp 249 0)),(60,(vp 249 0)),(59,(.bool true)),(58,(vi 0)),(57,(vp 249 2)),(56,(vp 249 0)),(55,v24x1),(54,(vp 249 0)),(53,(.bool false)),(52,(vi 0)),(51,(vi 0)),(12,(vi 0)),(11,(vp 823 0)),(10,(vp 822 0)),(50,(vi 0)),(49,v24x0),(48,v24x1),(39,(.tuple (.mk [v24x1,v24x0,(vi 0)]))),(47,(.tuple (.mk [v24x1,v24x0,(vi 0)]))),(46,(vw 1)),(45,(vi 1)),(44,(vi 0)),(43,v24x4),(42,(vp 249 2)),(41,(vp 249 0)),(40,(vp 249 0)),(9,(vi 0)),(8,(vp 751 0)),(38,(vi 0)),(37,v24x2),(28,(.tuple (.mk [v24x2,(vi 0)]))),(36,(.tuple (.mk [v24x2,(vi 0)]))),(35,(vw 1)),(34,(vi 1)),(33,(vi 0)),(32,(vp 240 0)),(31,(vp 248 0)),(30,(vp 248 0)),(29,(vp 248 0)),(7,(vi 0)),(27,(vi 0)),(26,(.bool true)),(25,(vi 0)),(6,(vp 249 0)),(24,(vp 249 0)),(23,(.agg (.mk (ap [(vp 248 0),v24x5,(vi 1),(vi 19),(vi 1),(.int .i64 (.negSucc 0)),(.slice (some (.mk 230 0 none)) 1 1),v24x5,v24x5,v24x5,v24x5,v24x5,(vi 16),v24x5,v24x5] [])))),(22,v24x4),(21,(vp 248 1)),(20,(vp 248 0)),(19,(vp 248 0)),(18,(vp 248 0)),(5,(.bool true)),(4,(vp 248 0)),(17,(.bool true)),(16,(vp 248 0)),(13,(.tuple (.mk [(vp 248 0),(.bool true)]))),(15,(.tuple (.mk [(vp 248 0),(.bool true)]))),(14,(vi 20)),(3,(.bool false)),(2,(.pointer none)),(0,(vi 20))] [(823,o24x0),(822,(.cells (ap [(vi 1),(vi 19),(vi 2),(.int .i64 (.negSucc 0)),(.slice (some (.mk 798 0 none)) 2 2),v24x5,v24x5,v24x5,v24x5,v24x5,(vi 16),(.slice (some (.mk 802 0 none)) 1 1)] []))),(751,o24x1)] 851 (cdR F1 71)),
  (.ops (cdO F1 313 [1,1,1,0,1,0,0,1,1,0,0,1,0] 8)),
  (.code (cdF F1 313 [1,1,1,0,1,0,0,1,1,0,0,1,1])),
  (.block 1),
  (.code (cdF F1 313 [1,1,1,0,1,0,0,1,1,1])),
  (.loop (cdF F1 313 [1,1,1,0,1,0,0]) 996),
  (.block 0),
  (.code (cdF F1 313 [1,1,1,1])),
  (.ret 313 999 (some 10) [(0,(.bool false))] [] 0 (cdR F1 313)),
  (.ops (cdO F1 302 [1,0] 1)),
  (.code (cdF F1 302 [1,1])),
  (.ret 302 1000 (some 0) [] [] 0 (cdR F1 302)),
  (.ops [])],.norm,
 [(0,v24x9),(1,(vi 160)),(2,(vi 16)),(3,v24x7)],
 ⟨[],
 [(850,(.grown 25 360 (ap [(vi 8192),(vw 1)] (rp 12 (vw 0) (ap [v24x7,(.string (.mk (.mk (ru 192 (UInt8.ofNat 0) [])))),(.string (.mk (.mk (ru 96 (UInt8.ofNat 0) [])))),v24x6,v24x6,v24x6,(vw 1),(vi 1024),(vi 0),(.slice (some (.mk 809 0 none)) 1 1),v24x5] []))))),(839,o24x0),(849,(.grown 12 123 (ap [(vp 240 0),(vp 1 0),(vi 8352),(vi 32),(vw 1),(vp 1 0),(vi 8352),(vi 32),(vi 1024),(vp 1 0),(vi 8224),(vi 992)] []))),(832,o24x1),(809,o24x2),(802,(.grown 4 367 [(vi 8192),(vi 0),(vw 1),(vi 0)])),(801,o24x2),(798,(.grown 3 390 [(vi 0),(vi 0),(.bool true),(vi 1),(vi 0),(.bool true)])),(797,(.cells [(vi 1),(vi 0),(.bool true)])),(795,(.cells [(vi 0),(vi 0),(.bool true)])),(249,(.cells (ap [(vp 248 0),(.slice (some (.mk 849 0 none)) 1 1),(vi 1),(vi 19),(vi 2),(.int .i64 (.negSucc 0)),(.slice (some (.mk 798 0 none)) 2 2),v24x5,v24x5,v24x5,v24x5,v24x5,(vi 16),(.slice (some (.mk 802 0 none)) 1 1),(.slice (some (.mk 850 0 none)) 1 1)] []))),(248,(.cells (ap [(vp 240 0),(vi 1),(vi 19),(vi 1),(.int .i64 (.negSucc 0)),(.slice (some (.mk 230 0 none)) 1 1),v24x5,v24x5,v24x5,v24x5,v24x5,(vi 16),v24x5,v24x5] []))),(240,(.cells [(vp 2 0),(vp 1 0),(vi 4096),(vi 64),(vp 1 0),(vi 4096),(vi 64)])),(230,(.grown 3 390 [(vi 0),(vi 0),(.bool true)])),(229,(.cells [(vi 0),(vi 0),(.bool true)])),(2,(.cells (ap [(vp 1 0),(vi 1),(vi 19),(vp 1 0),(vi 0),(vi 256),(vp 1 0),(vi 0),(vi 88),(vp 1 0),(vi 257),(vi 19)] []))),(1,(.ext (.mk [(some 0x303030000000000000000000000000000000000000000000000000000000000000000000000000000000000000000000000000000000000000000000000000000000000000000000000000000000000000000000000000000000000000000000000000000000000000000000000000000000000000000000000000000000000000000000000000000000000000000000000000059444455424c494d0000000000000003000000000000000000000000000000000000000000000000000000000000000000000000000000000000000000000000000000000000000000000000000000000000000000000000000000000000000000000000000000000000000000000000),(some 0x1000000000000000000000000000000000000000000000000000000000000000000000000000000000),(some 0x62010000000000000000000000000000000000000000000000000000000000002000000000000000000000000000000000000000000045444f4e0000000000000000000000000000000000000000000000000000000000000000000000000000000000000000000000000000000000000000000000000000000000000000000000000000000000000000000000000000000000000000000000000000000000000001000000000000000000000000000000000000000000000001000000004b4e4843),(some 0x3000000000000000000000000000000000000000000045444f4e0000000000000000000000000000000000000000000000000000000000000000000000000000000000000000000000000000000000000000000000000000000000000000000000000000000000000000000000000000000000000000000000000000000000000002000000000000000000000000000000000000000000000002000000004b4e4843),none,none,none,none,none,none,none,none,none,none,none,none,none,none,none,none] false 0)))],1349⟩⟩
set_option maxRecDepth 1000000 in
theorem t24_1:machS F1 cleanT (hookL h20a) 22000 (Ms.call 1000 302 ⟨[],0⟩:Ms Ar)=some (s24_1:Ms Ar):=by kernel_rfl
noncomputable def s24_2:Ms Ar:=⟨1000,[],.norm,
 [(0,(.bool true))],
 ⟨[],
 [],3052⟩⟩
set_option maxRecDepth 1000000 in
theorem t24_2:machS F1 cleanT (hookL h20a) 24000 s24_1=some (s24_2:Ms Ar):=by kernel_rfl
theorem r24:∃ h',run F1 cleanT (hookL h20a) 1000 302 [] (⟨[],0⟩:Hp Ar)=some (.bool true,h'):=by
 have h0:=Ms.call_den (F:=F1) (clean:=cleanT) (hook:=hookL h20a) 1000 302 (⟨[],0⟩:Hp Ar)
 rw [machS_den t24_1] at h0
 rw [machS_den t24_2] at h0
 exact ⟨_,h0.symm.trans (Ms.end_den rfl)⟩
end Go.AI
