/- A chapter's example, reckoned by the kernel piece by piece. -/
import Derived.Test.YthkdchfpgpafaaaGreatDoorKAy
namespace Go.AI
open Go.Proofs
noncomputable def s16_1:Ms Ar:=⟨1000,[],.norm,
 [(0,(.bool true))],
 ⟨[],
 [],2473⟩⟩
set_option maxRecDepth 1000000 in
theorem t16_1:machS F1 cleanT (hookL h15a) 28000 (Ms.call 1000 348 ⟨[],0⟩:Ms Ar)=some (s16_1:Ms Ar):=by kernel_rfl
theorem r16:∃ h',run F1 cleanT (hookL h15a) 1000 348 [] (⟨[],0⟩:Hp Ar)=some (.bool true,h'):=by
 have h0:=Ms.call_den (F:=F1) (clean:=cleanT) (hook:=hookL h15a) 1000 348 (⟨[],0⟩:Hp Ar)
 rw [machS_den t16_1] at h0
 exact ⟨_,h0.symm.trans (Ms.end_den rfl)⟩
end Go.AI
/- A chapter's example, reckoned by the kernel piece by piece. -/
namespace Go.AI
open Go.Proofs
noncomputable def s17_1:Ms Ar:=⟨1000,[],.norm,
 [(0,(.bool true))],
 ⟨[],
 [],31⟩⟩
set_option maxRecDepth 1000000 in
theorem t17_1:machS F1 cleanT (hookL h23a) 16000 (Ms.call 1000 299 ⟨[],0⟩:Ms Ar)=some (s17_1:Ms Ar):=by kernel_rfl
theorem r17:∃ h',run F1 cleanT (hookL h23a) 1000 299 [] (⟨[],0⟩:Hp Ar)=some (.bool true,h'):=by
 have h0:=Ms.call_den (F:=F1) (clean:=cleanT) (hook:=hookL h23a) 1000 299 (⟨[],0⟩:Hp Ar)
 rw [machS_den t17_1] at h0
 exact ⟨_,h0.symm.trans (Ms.end_den rfl)⟩
end Go.AI
/- A chapter's example, reckoned by the kernel piece by piece. -/
namespace Go.AI
open Go.Proofs
noncomputable def s18_1:Ms Ar:=⟨1000,[],.norm,
 [(0,(.bool true))],
 ⟨[],
 [],904⟩⟩
set_option maxRecDepth 1000000 in
theorem t18_1:machS F1 cleanT (hookL h16a) 16000 (Ms.call 1000 327 ⟨[],0⟩:Ms Ar)=some (s18_1:Ms Ar):=by kernel_rfl
theorem r18:∃ h',run F1 cleanT (hookL h16a) 1000 327 [] (⟨[],0⟩:Hp Ar)=some (.bool true,h'):=by
 have h0:=Ms.call_den (F:=F1) (clean:=cleanT) (hook:=hookL h16a) 1000 327 (⟨[],0⟩:Hp Ar)
 rw [machS_den t18_1] at h0
 exact ⟨_,h0.symm.trans (Ms.end_den rfl)⟩
end Go.AI
/- A chapter's example, reckoned by the kernel piece by piece. -/
namespace Go.AI
open Go.Proofs
def q21x0:Nat:=0x3000000000000000000000000000000000000000000000001000000000000000000000000000000000000000000000000000000000000000000000000000000000000
noncomputable def v21x0:Value:=(.agg (.mk [(vp 1 0),(vi 40),(vi 96)]))
noncomputable def v21x1:Value:=(.slice (some (.mk 3203 0 none)) 2 2)
noncomputable def v21x2:Value:=(.agg (.mk [(vw 2),(vb 0),(vb 0),(vw 0)]))
noncomputable def v21x3:Value:=(.slice (some (.mk 3100 0 none)) 2 2)
noncomputable def o21x0:AObj Ar:=(.grown 4 209 [(vw 1),(vb 0),(vb 0),(vw 0),(vw 3),(vb 0),(vb 0),(vw 0)])
noncomputable def o21x1:AObj Ar:=(.cells [(vw 0),(vb 0),(vb 0),(vw 0)])
noncomputable def o21x2:AObj Ar:=(.cells [(vw 3),(vb 0),(vb 0),(vw 0)])
noncomputable def o21x3:AObj Ar:=(.cells [(vw 1),(vb 0),(vb 0),(vw 0)])
noncomputable def s21_1:Ms Ar:=⟨995,[(.ops (cdO F1 208 [1,1,0,1,0,0,1,1,0,0,0] 2)),
  (.code (cdF F1 208 [1,1,0,1,0,0,1,1,0,0,1])),
  (.block 2),
  (.code (cdF F1 208 [1,1,0,1,0,0,1,1,1])),
  (.loop (cdF F1 208 [1,1,0,1,0,0]) 994),
  (.block 1),
  (.code (cdF F1 208 [1,1,1])),
  (.ret 208 996 (some 5) [(4,v21x1),(0,(vp 3202 0))] [(3202,(.cells [(.slice none 0 0)]))] 3204 (cdR F1 208)),
  (.ops (cdO F1 269 [1,0] 2)),
  (.code (cdF F1 269 [1,1])),
  (.ret 269 997 (some 0) [] [(3181,o21x1),(3180,(.cells [(vp 1 0),(vi 40),(vi 96)]))] 3202 (cdR F1 269)),
  (.drc (cdD F1 224 [1]) (cdB F1 224 [1]) (List.drop 1 (cdD F1 224 [1])) 3182 0 (some 6) [(5,(vp 3181 0)),(3,(vp 3180 0)),(0,v21x0),(1,(vi 1)),(2,(.agg (.mk [(vw 0),(vb 0),(vb 0),(vw 0)])))] (.mk [] [(.mk [(3181,o21x1),(3180,(.cells [(vp 1 0),(vi 40),(vi 96)]))] [(3100,o21x0),(3099,o21x2),(2999,o21x3),(1,(.ext (.mk [(some q21x0)] false 0)))] 3202)] [] [] [])),
  (.ret 224 998 (some 16) [(15,(.agg (.mk [(vw 0),(vb 0),(vb 0),(vw 0)]))),(14,(vi 1)),(13,(vi 2)),(12,v21x3),(11,v21x0),(9,(.bool false)),(8,(vi 2)),(7,v21x3),(4,v21x3),(6,v21x3),(5,v21x0),(3,(.bool false)),(2,(vp 2897 0)),(1,(vp 2896 0)),(0,v21x0)] [(2897,o21x1),(2896,(.cells [(vp 1 0),(vi 40),(vi 96)]))] 3180 (cdR F1 224)),
  (.ops []),
  (.code (cdF F1 232 [1,1,1,1])),
  (.ret 232 999 (some 36) [(35,v21x0),(6,(vi 0)),(5,(vp 2895 0)),(33,(vi 0)),(32,v21x2),(29,(.tuple (.mk [v21x2,(vi 0)]))),(31,(.tuple (.mk [v21x2,(vi 0)]))),(30,v21x0),(17,(.bool false)),(16,(vw 3)),(28,(vw 3)),(3,(.bool true)),(27,(.bool true)),(26,(.bool true)),(25,(vi 0)),(24,(.agg (.mk [(vw 3),(vb 0),(vb 0),(vw 0)]))),(23,(vw 3)),(22,(vw 2)),(21,v21x0),(20,(.bool true)),(19,(.bool true)),(4,(vw 2)),(18,(vw 2)),(17,(.bool true)),(16,(vw 2)),(28,(vw 2)),(3,(.bool true)),(27,(.bool true)),(26,(.bool true)),(25,(vi 0)),(24,v21x2),(23,(vw 2)),(22,(vw 1)),(21,v21x0),(20,(.bool true)),(19,(.bool true)),(4,(vw 1)),(18,(vw 1)),(17,(.bool true)),(16,(vw 1)),(28,(vw 1)),(3,(.bool true)),(27,(.bool true)),(26,(.bool true)),(25,(vi 0)),(24,(.agg (.mk [(vw 1),(vb 0),(vb 0),(vw 0)]))),(23,(vw 1)),(22,(vw 0)),(21,v21x0),(20,(.bool true)),(19,(.bool true)),(4,(vw 0)),(18,(vw 0)),(17,(.bool true)),(16,(vw 0)),(3,(.bool true)),(1,(vp 1 0)),(2,(vp 5 0)),(15,(.bool true)),(14,v21x0),(13,(vp 1 0)),(11,(.tuple (.mk [(vp 1 0),v21x0,(.bool true)]))),(12,(.tuple (.mk [(vp 1 0),v21x0,(.bool true)]))),(0,(.bool false))] [(2895,(.cells [(vw 2),(vb 0),(vb 0),(vw 0)])),(5,(.cells [(vp 1 0),(vi 40),(vi 96)]))] 2896 (cdR F1 232)),
  (.ops (cdO F1 160 [1,1,1,1,0] 2)),
  (.code (cdF F1 160 [1,1,1,1,1])),
  (.ret 160 1000 (some 0) [] [] 0 (cdR F1 160)),
  (.ops [])],.norm,
 [(21,(vi 8)),(20,(vp 3203 0)),(19,(.bool true)),(18,(vi 0)),(17,(vi 2)),(16,v21x1),(11,(.bool false)),(14,(.bool false)),(13,(vi 2)),(12,v21x1),(6,(.bool false)),(9,(.bool false)),(8,(vi 2)),(7,v21x1),(3,(vi 0)),(2,(vp 3204 0)),(0,v21x1)],
 ⟨[(3204,(.cells [(.slice none 0 0)]))],
 [(3203,(.cells [(vi 8),(vi 8)])),(3100,o21x0),(3099,o21x2),(2999,o21x3),(1,(.ext (.mk [(some q21x0)] false 0)))],3205⟩⟩
set_option maxRecDepth 1000000 in
theorem t21_1:machS F1 cleanT (hookL h26a) 28000 (Ms.call 1000 160 ⟨[],0⟩:Ms Ar)=some (s21_1:Ms Ar):=by kernel_rfl
noncomputable def s21_2:Ms Ar:=⟨1000,[],.norm,
 [(0,(.bool true))],
 ⟨[],
 [],3534⟩⟩
set_option maxRecDepth 1000000 in
theorem t21_2:machS F1 cleanT (hookL h26a) 16000 s21_1=some (s21_2:Ms Ar):=by kernel_rfl
theorem r21:∃ h',run F1 cleanT (hookL h26a) 1000 160 [] (⟨[],0⟩:Hp Ar)=some (.bool true,h'):=by
 have h0:=Ms.call_den (F:=F1) (clean:=cleanT) (hook:=hookL h26a) 1000 160 (⟨[],0⟩:Hp Ar)
 rw [machS_den t21_1] at h0
 rw [machS_den t21_2] at h0
 exact ⟨_,h0.symm.trans (Ms.end_den rfl)⟩
end Go.AI
/- A chapter's example, reckoned by the kernel piece by piece. -/
namespace Go.AI
open Go.Proofs
noncomputable def s25_1:Ms Ar:=⟨1000,[],.norm,
 [(0,(.bool true))],
 ⟨[],
 [],2358⟩⟩
set_option maxRecDepth 1000000 in
theorem t25_1:machS F1 cleanT (hookL h17a) 28000 (Ms.call 1000 277 ⟨[],0⟩:Ms Ar)=some (s25_1:Ms Ar):=by kernel_rfl
theorem r25:∃ h',run F1 cleanT (hookL h17a) 1000 277 [] (⟨[],0⟩:Hp Ar)=some (.bool true,h'):=by
 have h0:=Ms.call_den (F:=F1) (clean:=cleanT) (hook:=hookL h17a) 1000 277 (⟨[],0⟩:Hp Ar)
 rw [machS_den t25_1] at h0
 exact ⟨_,h0.symm.trans (Ms.end_den rfl)⟩
end Go.AI
