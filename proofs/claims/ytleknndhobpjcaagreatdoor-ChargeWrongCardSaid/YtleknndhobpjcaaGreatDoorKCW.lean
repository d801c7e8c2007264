/- What the states of several reckonings share. -/
import Derived.Test.YtleknndhobpjcaaGreatDoorKCk
namespace Go.AI
open Go.Proofs
def qCWq0 : Nat := 0x3030000000000000000000000000000000000000000000000000000000000000000000000000000000000000000000000000000000000000000000000000000000000000000000000000000000000000000000000000000000000000000000000000000000000000000000000000000000000000000000000000000000000000000000000000000000000000000000000000059444455424c494d0000000000000002000000000000000000000000000000000000000000000000000000000000000000000000000000000000000000000000000000000000000000000000000000000000000000000000000000000000000000000000000000000000000000000000
def qCWq1 : Nat := 0x1000000000000000000000000000000000000000000000000000000000000000000000000000000000
def qCWq2 : Nat := 0x2000000000000000000000000000000000000000000045444f4e0000000000000000000000000000000000000000000000000000000000000000000000000000000000000000000000000000000000000000000000000000000000000000000000000000000000000000000000000000000000000000000000000000000000000001000000000000000000000000000000000000000000000001000000004b4e4843
noncomputable def vCWq0 : Value := (.agg (.mk (ap [(vp 325 0), (vp 2 0), (vi 8352), (vi 32), (vw 1), (vp 2 0), (vi 8352), (vi 32), (vi 1024), (vp 2 0), (vi 8224), (vi 992)] [])))
noncomputable def vCWq1 : Value := (.string (.mk (.mk [(UInt8.ofNat 110)])))
noncomputable def vCWq2 : Value := (.agg (.mk [(vp 2 0), (vi 8224), (vi 992)]))
noncomputable def vCWq3 : Value := (.agg (.mk (ap [(vp 326 0), (vp 3 0), (vi 8352), (vi 32), (vw 1), (vp 3 0), (vi 8352), (vi 32), (vi 1024), (vp 3 0), (vi 8224), (vi 992)] [])))
noncomputable def vCWq4 : Value := (.agg (.mk [(vi 8192), (vi 0), (vw 1), (vi 0)]))
noncomputable def vCWq5 : Value := (.string (.mk (.mk [(UInt8.ofNat 1), (UInt8.ofNat 110)])))
noncomputable def vCWq6 : Value := (.agg (.mk [(vp 3 0), (vi 8224), (vi 992)]))
noncomputable def vCWq7 : Value := (.tuple (.mk [(vp 338 0), (.bool true)]))
noncomputable def vCWq8 : Value := (.slice none 0 0)
noncomputable def vCWq9 : Value := (.tuple (.mk [vCWq4, (vi 0)]))
noncomputable def vCWq10 : Value := (.agg (.mk [(vp 325 0), (vp 2 0), (vi 8352), (vi 32), (vw 1)]))
noncomputable def vCWq11 : Value := (.string (.mk (.mk [(UInt8.ofNat 1)])))
noncomputable def vCWq12 : Value := (.tuple (.mk [vCWq0, (vi 0)]))
noncomputable def vCWq13 : Value := (.tuple (.mk [(vp 339 0), (.bool true)]))
noncomputable def vCWq14 : Value := (.slice (some (.mk 1122 0 none)) 1 1)
noncomputable def vCWq15 : Value := (.tuple (.mk [vCWq3, (vi 0)]))
noncomputable def vCWq16 : Value := (.pointer none)
noncomputable def oCWq0 : AObj Ar := (.ext (.mk [(some qCWq0), (some qCWq1), (some qCWq2), none, none, none, none, none, none, none, none, none, none, none, none, none, none, none, none, none, none, none, none, none, none, none, none, none, none, none] false 0))
noncomputable def oCWq1 : AObj Ar := (.cells (ap [(vp 325 0), (vi 1), (vi 29), (vi 1), (.int .i64 (.negSucc 0)), (.slice (some (.mk 314 0 none)) 1 1), vCWq8, vCWq8, vCWq8, vCWq8, vCWq8, (vi 16), vCWq8, vCWq8] []))
noncomputable def oCWq2 : AObj Ar := (.cells (ap [vCWq16, vCWq16, (vi 0), (vi 0), (vw 0), vCWq16, (vi 0), (vi 0), (vi 0), vCWq16, (vi 0), (vi 0)] []))
noncomputable def oCWq3 : AObj Ar := (.cells (ap [(vp 325 0), (vp 2 0), (vi 8352), (vi 32), (vw 1), (vp 2 0), (vi 8352), (vi 32), (vi 1024), (vp 2 0), (vi 8224), (vi 992)] []))
noncomputable def oCWq4 : AObj Ar := (.cells (ap [(vp 326 0), (vi 1), (vi 29), (vi 1), (.int .i64 (.negSucc 0)), (.slice (some (.mk 315 0 none)) 1 1), vCWq8, vCWq8, vCWq8, vCWq8, vCWq8, (vi 16), vCWq8, vCWq8] []))
noncomputable def oCWq5 : AObj Ar := (.cells (ap [(vp 2 0), (vi 1), (vi 29), (vp 2 0), (vi 0), (vi 256), (vp 2 0), (vi 0), (vi 88), (vp 2 0), (vi 257), (vi 29)] []))
noncomputable def oCWq6 : AObj Ar := (.cells [(vp 3 0), (vp 2 0), (vi 4096), (vi 64), (vp 2 0), (vi 4096), (vi 64)])
noncomputable def oCWq7 : AObj Ar := (.cells (ap [(vp 326 0), (vp 3 0), (vi 8352), (vi 32), (vw 1), (vp 3 0), (vi 8352), (vi 32), (vi 1024), (vp 3 0), (vi 8224), (vi 992)] []))
noncomputable def oCWq8 : AObj Ar := (.grown 3 314 [(vi 0), (vi 0), (.bool true)])
noncomputable def oCWq9 : AObj Ar := (.cells [(vi 8192), (vi 0), (vw 1), (vi 0)])
noncomputable def oCWq10 : AObj Ar := (.cells (ap [(vp 3 0), (vi 1), (vi 29), (vp 3 0), (vi 0), (vi 256), (vp 3 0), (vi 0), (vi 88), (vp 3 0), (vi 257), (vi 29)] []))
noncomputable def oCWq11 : AObj Ar := (.cells [(vp 4 0), (vp 3 0), (vi 4096), (vi 64), (vp 3 0), (vi 4096), (vi 64)])
end Go.AI
/- A reckoning, piece by piece. -/
namespace Go.AI
open Go.Proofs
noncomputable def sCWA_1 : Ms Ar := ⟨994, [(.code (cdF F1 229 [1, 0, 0, 0])),
    (.code (cdF F1 229 [1, 0, 0, 1])),
    (.block 0),
    (.code (cdF F1 229 [1, 1])),
    (.ret 229 995 (some 12) [(11, (vi 2)), (10, vCWq5), (9, (vi 160)), (8, vCWq6), (6, (vi 0)), (3, (vp 1124 0)), (0, vCWq6), (1, (vi 160)), (2, vCWq5)] [(1124, (.cells [(vp 3 0), (vi 8224), (vi 992)]))] 1125 (cdR F1 229)),
    (.ops (cdO F1 282 [1, 0, 0] 5)),
    (.code (cdF F1 282 [1, 0, 1])),
    (.code (cdF F1 282 [1, 1])),
    (.ret 282 996 (some 35) [(34, vCWq5), (33, vCWq1), (32, vCWq11), (31, (.slice (some (.mk 1123 0 none)) 1 1)), (30, (vb 1)), (29, (vi 1)), (28, vCWq1), (27, (vi 160)), (26, vCWq6), (24, (.bool false)), (23, (vi 0)), (9, (vi 0)), (22, (vi 0)), (21, (vi 16)), (20, (vi 160)), (19, vCWq6), (14, (.bool false)), (18, (.bool false)), (17, (vi 16)), (16, (vi 1)), (15, vCWq1), (10, (.bool false)), (13, (.bool false)), (12, (.bool true)), (11, (vi 16)), (8, (vi 0)), (4, (vp 1119 0)), (0, vCWq6), (1, (vi 160)), (2, (vi 16)), (3, vCWq1)] [(1119, (.cells [(vp 3 0), (vi 8224), (vi 992)]))] 1124 (cdR F1 282)),
    (.ops (cdO F1 219 [1, 1, 1, 0] 10)),
    (.code (cdF F1 219 [1, 0, 0, 1, 0, 1])),
    (.ret 219 997 (some 63) [(62, vCWq1), (61, vCWq6), (60, (vp 789 9)), (59, (.tuple (.mk []))), (58, (vw 1)), (57, vCWq3), (56, (vi 0)), (55, (vi 8192)), (54, (vp 747 0)), (53, (.agg (.mk [(vp 326 0), (vp 3 0), (vi 8352), (vi 32), (vw 1)]))), (52, (vp 789 0)), (51, (vp 789 0)), (50, (vp 789 0)), (49, (vi 0)), (48, vCWq6), (47, (vp 789 9)), (46, (vi 0)), (45, vCWq6), (44, (vp 789 9)), (13, (vi 0)), (12, (vp 789 0)), (43, (vi 0)), (42, vCWq3), (38, vCWq15), (41, vCWq15), (40, vCWq4), (39, (vp 326 0)), (35, (.bool false)), (34, (vi 0)), (11, (vi 0)), (10, (vp 747 0)), (33, (vi 0)), (32, vCWq4), (27, vCWq9), (31, vCWq9), (30, (vw 1)), (29, (vi 0)), (28, (vp 326 0)), (22, (.bool false)), (25, (.bool false)), (24, (vi 1)), (23, vCWq1), (18, (.bool false)), (20, (.bool false)), (19, (vw 1)), (14, (.bool false)), (16, (.bool false)), (15, (vp 326 0)), (9, (vi 0)), (8, (vp 340 0)), (0, (vp 326 0)), (1, (vi 0)), (2, (vw 1)), (3, vCWq1)] [(789, oCWq7), (747, oCWq9), (340, oCWq2)] 1119 (cdR F1 219)),
    (.ops []),
    (.code (cdF F1 132 [1, 1, 1, 1, 1, 1, 1, 1, 1, 1])),
    (.ret 132 998 (some 29) [(28, (vw 1)), (27, (vi 1)), (26, (vi 0)), (25, (vp 326 0)), (24, (vp 339 0)), (23, (vp 339 0)), (22, (vp 339 0)), (8, (vi 0)), (20, (vi 0)), (19, (.bool true)), (18, (vi 0)), (17, (vi 2)), (16, (vi 2)), (15, (vi 2)), (7, vCWq8), (6, (.bool true)), (5, (vp 339 0)), (14, (.bool true)), (13, (vp 339 0)), (11, vCWq13), (12, vCWq13), (4, (.bool false)), (3, vCWq8), (2, vCWq16), (0, (vi 2))] [] 340 (cdR F1 132)),
    (.ops (cdO F1 60 [1, 1, 1, 0, 1, 0, 0, 1, 1, 0, 0, 1, 0] 8)),
    (.code (cdF F1 60 [1, 1, 1, 0, 1, 0, 0, 1, 1, 0, 0, 1, 1])),
    (.block 1),
    (.code (cdF F1 60 [1, 1, 1, 0, 1, 0, 0, 1, 1, 1])),
    (.loop (cdF F1 60 [1, 1, 1, 0, 1, 0, 0]) 997),
    (.block 0),
    (.code (cdF F1 60 [1, 1, 1, 1])),
    (.ret 60 999 (some 16) [(14, (.bool false)), (13, (.bool true)), (4, (.bool false)), (0, (.chan (some 0))), (1, (.chan (some 1)))] [] 2 (cdR F1 60)),
    (.ops (cdO F1 8 [1, 1, 0] 1)),
    (.code (cdF F1 8 [1, 1, 1])),
    (.ret 8 1000 (some 0) [] [] 2 (cdR F1 8)),
    (.ops [])], .norm,
  [(6, (vi 0)), (3, (vp 1125 0)), (0, vCWq6), (1, (vi 160)), (2, (vi 2))],
  ⟨[(1125, (.cells [(vp 3 0), (vi 8224), (vi 992)]))],
  [(1123, (.cells [(vb 1)])), (339, oCWq4), (326, oCWq11), (315, oCWq8), (314, (.cells [(vi 0), (vi 0), (.bool true)])), (4, oCWq10), (3, oCWq0), (0, (.ext (.mk [] true 9223372036854775808))), (1, (.ext (.mk [] true 9223372036854775810)))], 1126⟩⟩
set_option maxRecDepth 1000000 in
theorem tCWA_1 : machS F1 cleanT (hookL hCW) 22000 (Ms.callA 1000 8 [.chan (some 0), .chan (some 1)] ⟨[(0, tkO kA), (1, tkO kC)], 2⟩ : Ms Ar) = some (sCWA_1 : Ms Ar) := by kernel_rfl
noncomputable def sCWA_2 : Ms Ar := ⟨1000, [], .norm,
  [(0, (.bool true))],
  ⟨[],
  [(0, (.ext (.mk [] true 9223372036854775808))), (1, (.ext (.mk [] true 9223372036854775810)))], 2503⟩⟩
set_option maxRecDepth 1000000 in
theorem tCWA_2 : machS F1 cleanT (hookL hCW) 22000 sCWA_1 = some (sCWA_2 : Ms Ar) := by kernel_rfl
theorem rCWA : ∃ h', run F1 cleanT (hookL hCW) 1000 8 [.chan (some 0), .chan (some 1)] (⟨[(0, tkO kA), (1, tkO kC)], 2⟩ : Hp Ar) = some (.bool true, h') := by
  have h0 := Ms.callA_den (F := F1) (clean := cleanT) (hook := hookL hCW) 1000 8 [.chan (some 0), .chan (some 1)] (⟨[(0, tkO kA), (1, tkO kC)], 2⟩ : Hp Ar)
  rw [machS_den tCWA_1] at h0
  rw [machS_den tCWA_2] at h0
  exact ⟨_, h0.symm.trans (Ms.end_den rfl)⟩
end Go.AI
/- A reckoning, piece by piece. -/
namespace Go.AI
open Go.Proofs
noncomputable def sCWB_1 : Ms Ar := ⟨994, [(.code (cdF F1 229 [1, 0, 0, 0])),
    (.code (cdF F1 229 [1, 0, 0, 1])),
    (.block 0),
    (.code (cdF F1 229 [1, 1])),
    (.ret 229 995 (some 12) [(11, (vi 2)), (10, vCWq5), (9, (vi 160)), (8, vCWq6), (6, (vi 0)), (3, (vp 1124 0)), (0, vCWq6), (1, (vi 160)), (2, vCWq5)] [(1124, (.cells [(vp 3 0), (vi 8224), (vi 992)]))] 1125 (cdR F1 229)),
    (.ops (cdO F1 282 [1, 0, 0] 5)),
    (.code (cdF F1 282 [1, 0, 1])),
    (.code (cdF F1 282 [1, 1])),
    (.ret 282 996 (some 35) [(34, vCWq5), (33, vCWq1), (32, vCWq11), (31, (.slice (some (.mk 1123 0 none)) 1 1)), (30, (vb 1)), (29, (vi 1)), (28, vCWq1), (27, (vi 160)), (26, vCWq6), (24, (.bool false)), (23, (vi 0)), (9, (vi 0)), (22, (vi 0)), (21, (vi 16)), (20, (vi 160)), (19, vCWq6), (14, (.bool false)), (18, (.bool false)), (17, (vi 16)), (16, (vi 1)), (15, vCWq1), (10, (.bool false)), (13, (.bool false)), (12, (.bool true)), (11, (vi 16)), (8, (vi 0)), (4, (vp 1119 0)), (0, vCWq6), (1, (vi 160)), (2, (vi 16)), (3, vCWq1)] [(1119, (.cells [(vp 3 0), (vi 8224), (vi 992)]))] 1124 (cdR F1 282)),
    (.ops (cdO F1 219 [1, 1, 1, 0] 10)),
    (.code (cdF F1 219 [1, 0, 0, 1, 0, 1])),
    (.ret 219 997 (some 63) [(62, vCWq1), (61, vCWq6), (60, (vp 789 9)), (59, (.tuple (.mk []))), (58, (vw 1)), (57, vCWq3), (56, (vi 0)), (55, (vi 8192)), (54, (vp 747 0)), (53, (.agg (.mk [(vp 326 0), (vp 3 0), (vi 8352), (vi 32), (vw 1)]))), (52, (vp 789 0)), (51, (vp 789 0)), (50, (vp 789 0)), (49, (vi 0)), (48, vCWq6), (47, (vp 789 9)), (46, (vi 0)), (45, vCWq6), (44, (vp 789 9)), (13, (vi 0)), (12, (vp 789 0)), (43, (vi 0)), (42, vCWq3), (38, vCWq15), (41, vCWq15), (40, vCWq4), (39, (vp 326 0)), (35, (.bool false)), (34, (vi 0)), (11, (vi 0)), (10, (vp 747 0)), (33, (vi 0)), (32, vCWq4), (27, vCWq9), (31, vCWq9), (30, (vw 1)), (29, (vi 0)), (28, (vp 326 0)), (22, (.bool false)), (25, (.bool false)), (24, (vi 1)), (23, vCWq1), (18, (.bool false)), (20, (.bool false)), (19, (vw 1)), (14, (.bool false)), (16, (.bool false)), (15, (vp 326 0)), (9, (vi 0)), (8, (vp 340 0)), (0, (vp 326 0)), (1, (vi 0)), (2, (vw 1)), (3, vCWq1)] [(789, oCWq7), (747, oCWq9), (340, oCWq2)] 1119 (cdR F1 219)),
    (.ops []),
    (.code (cdF F1 132 [1, 1, 1, 1, 1, 1, 1, 1, 1, 1])),
    (.ret 132 998 (some 29) [(28, (vw 1)), (27, (vi 1)), (26, (vi 0)), (25, (vp 326 0)), (24, (vp 339 0)), (23, (vp 339 0)), (22, (vp 339 0)), (8, (vi 0)), (20, (vi 0)), (19, (.bool true)), (18, (vi 0)), (17, (vi 2)), (16, (vi 2)), (15, (vi 2)), (7, vCWq8), (6, (.bool true)), (5, (vp 339 0)), (14, (.bool true)), (13, (vp 339 0)), (11, vCWq13), (12, vCWq13), (4, (.bool false)), (3, vCWq8), (2, vCWq16), (0, (vi 2))] [] 340 (cdR F1 132)),
    (.ops (cdO F1 60 [1, 1, 1, 0, 1, 0, 0, 1, 1, 0, 0, 1, 0] 8)),
    (.code (cdF F1 60 [1, 1, 1, 0, 1, 0, 0, 1, 1, 0, 0, 1, 1])),
    (.block 1),
    (.code (cdF F1 60 [1, 1, 1, 0, 1, 0, 0, 1, 1, 1])),
    (.loop (cdF F1 60 [1, 1, 1, 0, 1, 0, 0]) 997),
    (.block 0),
    (.code (cdF F1 60 [1, 1, 1, 1])),
    (.ret 60 999 (some 16) [(14, (.bool false)), (13, (.bool true)), (4, (.bool false)), (0, (.chan (some 0))), (1, (.chan (some 1)))] [] 2 (cdR F1 60)),
    (.ops (cdO F1 8 [1, 1, 0] 1)),
    (.code (cdF F1 8 [1, 1, 1])),
    (.ret 8 1000 (some 0) [] [] 2 (cdR F1 8)),
    (.ops [])], .norm,
  [(6, (vi 0)), (3, (vp 1125 0)), (0, vCWq6), (1, (vi 160)), (2, (vi 2))],
  ⟨[(1125, (.cells [(vp 3 0), (vi 8224), (vi 992)]))],
  [(1123, (.cells [(vb 1)])), (339, oCWq4), (326, oCWq11), (315, oCWq8), (314, (.cells [(vi 0), (vi 0), (.bool true)])), (4, oCWq10), (3, oCWq0), (0, (.ext (.mk [] true 9223372036854775809))), (1, (.ext (.mk [] true 9223372036854775810)))], 1126⟩⟩
set_option maxRecDepth 1000000 in
theorem tCWB_1 : machS F1 cleanT (hookL hCW) 22000 (Ms.callA 1000 8 [.chan (some 0), .chan (some 1)] ⟨[(0, tkO kB), (1, tkO kC)], 2⟩ : Ms Ar) = some (sCWB_1 : Ms Ar) := by kernel_rfl
noncomputable def sCWB_2 : Ms Ar := ⟨1000, [], .norm,
  [(0, (.bool true))],
  ⟨[],
  [(0, (.ext (.mk [] true 9223372036854775809))), (1, (.ext (.mk [] true 9223372036854775810)))], 2503⟩⟩
set_option maxRecDepth 1000000 in
theorem tCWB_2 : machS F1 cleanT (hookL hCW) 22000 sCWB_1 = some (sCWB_2 : Ms Ar) := by kernel_rfl
theorem rCWB : ∃ h', run F1 cleanT (hookL hCW) 1000 8 [.chan (some 0), .chan (some 1)] (⟨[(0, tkO kB), (1, tkO kC)], 2⟩ : Hp Ar) = some (.bool true, h') := by
  have h0 := Ms.callA_den (F := F1) (clean := cleanT) (hook := hookL hCW) 1000 8 [.chan (some 0), .chan (some 1)] (⟨[(0, tkO kB), (1, tkO kC)], 2⟩ : Hp Ar)
  rw [machS_den tCWB_1] at h0
  rw [machS_den tCWB_2] at h0
  exact ⟨_, h0.symm.trans (Ms.end_den rfl)⟩
end Go.AI
/- A reckoning, piece by piece. -/
namespace Go.AI
open Go.Proofs
noncomputable def sCW0_1 : Ms Ar := ⟨994, [(.code (cdF F1 229 [1, 0, 0, 0])),
    (.code (cdF F1 229 [1, 0, 0, 1])),
    (.block 0),
    (.code (cdF F1 229 [1, 1])),
    (.ret 229 995 (some 12) [(11, (vi 2)), (10, vCWq5), (9, (vi 160)), (8, vCWq2), (6, (vi 0)), (3, (vp 1123 0)), (0, vCWq2), (1, (vi 160)), (2, vCWq5)] [(1123, (.cells [(vp 2 0), (vi 8224), (vi 992)]))] 1124 (cdR F1 229)),
    (.ops (cdO F1 282 [1, 0, 0] 5)),
    (.code (cdF F1 282 [1, 0, 1])),
    (.code (cdF F1 282 [1, 1])),
    (.ret 282 996 (some 35) [(34, vCWq5), (33, vCWq1), (32, vCWq11), (31, vCWq14), (30, (vb 1)), (29, (vi 1)), (28, vCWq1), (27, (vi 160)), (26, vCWq2), (24, (.bool false)), (23, (vi 0)), (9, (vi 0)), (22, (vi 0)), (21, (vi 16)), (20, (vi 160)), (19, vCWq2), (14, (.bool false)), (18, (.bool false)), (17, (vi 16)), (16, (vi 1)), (15, vCWq1), (10, (.bool false)), (13, (.bool false)), (12, (.bool true)), (11, (vi 16)), (8, (vi 0)), (4, (vp 1118 0)), (0, vCWq2), (1, (vi 160)), (2, (vi 16)), (3, vCWq1)] [(1118, (.cells [(vp 2 0), (vi 8224), (vi 992)]))] 1123 (cdR F1 282)),
    (.ops (cdO F1 219 [1, 1, 1, 0] 10)),
    (.code (cdF F1 219 [1, 0, 0, 1, 0, 1])),
    (.ret 219 997 (some 63) [(62, vCWq1), (61, vCWq2), (60, (vp 788 9)), (59, (.tuple (.mk []))), (58, (vw 1)), (57, vCWq0), (56, (vi 0)), (55, (vi 8192)), (54, (vp 746 0)), (53, vCWq10), (52, (vp 788 0)), (51, (vp 788 0)), (50, (vp 788 0)), (49, (vi 0)), (48, vCWq2), (47, (vp 788 9)), (46, (vi 0)), (45, vCWq2), (44, (vp 788 9)), (13, (vi 0)), (12, (vp 788 0)), (43, (vi 0)), (42, vCWq0), (38, vCWq12), (41, vCWq12), (40, vCWq4), (39, (vp 325 0)), (35, (.bool false)), (34, (vi 0)), (11, (vi 0)), (10, (vp 746 0)), (33, (vi 0)), (32, vCWq4), (27, vCWq9), (31, vCWq9), (30, (vw 1)), (29, (vi 0)), (28, (vp 325 0)), (22, (.bool false)), (25, (.bool false)), (24, (vi 1)), (23, vCWq1), (18, (.bool false)), (20, (.bool false)), (19, (vw 1)), (14, (.bool false)), (16, (.bool false)), (15, (vp 325 0)), (9, (vi 0)), (8, (vp 339 0)), (0, (vp 325 0)), (1, (vi 0)), (2, (vw 1)), (3, vCWq1)] [(788, oCWq3), (746, oCWq9), (339, oCWq2)] 1118 (cdR F1 219)),
    (.ops []),
    (.code (cdF F1 132 [1, 1, 1, 1, 1, 1, 1, 1, 1, 1])),
    (.ret 132 998 (some 29) [(28, (vw 1)), (27, (vi 1)), (26, (vi 0)), (25, (vp 325 0)), (24, (vp 338 0)), (23, (vp 338 0)), (22, (vp 338 0)), (8, (vi 0)), (20, (vi 0)), (19, (.bool true)), (18, (vi 0)), (17, (vi 2)), (16, (vi 2)), (15, (vi 2)), (7, vCWq8), (6, (.bool true)), (5, (vp 338 0)), (14, (.bool true)), (13, (vp 338 0)), (11, vCWq7), (12, vCWq7), (4, (.bool false)), (3, vCWq8), (2, vCWq16), (0, (vi 2))] [] 339 (cdR F1 132)),
    (.ops (cdO F1 60 [1, 1, 1, 0, 1, 0, 0, 1, 1, 0, 0, 1, 0] 8)),
    (.code (cdF F1 60 [1, 1, 1, 0, 1, 0, 0, 1, 1, 0, 0, 1, 1])),
    (.block 1),
    (.code (cdF F1 60 [1, 1, 1, 0, 1, 0, 0, 1, 1, 1])),
    (.loop (cdF F1 60 [1, 1, 1, 0, 1, 0, 0]) 997),
    (.block 0),
    (.code (cdF F1 60 [1, 1, 1, 1])),
    (.ret 60 999 (some 16) [(14, (.bool false)), (13, (.bool true)), (4, (.bool false)), (0, (vi 0)), (1, (.chan (some 0)))] [] 1 (cdR F1 60)),
    (.ops (cdO F1 8 [1, 1, 0] 1)),
    (.code (cdF F1 8 [1, 1, 1])),
    (.ret 8 1000 (some 0) [] [] 1 (cdR F1 8)),
    (.ops [])], .norm,
  [(6, (vi 0)), (3, (vp 1124 0)), (0, vCWq2), (1, (vi 160)), (2, (vi 2))],
  ⟨[(1124, (.cells [(vp 2 0), (vi 8224), (vi 992)]))],
  [(1122, (.cells [(vb 1)])), (338, oCWq1), (325, oCWq6), (314, oCWq8), (313, (.cells [(vi 0), (vi 0), (.bool true)])), (3, oCWq5), (2, oCWq0), (0, (.ext (.mk [] true 9223372036854775810)))], 1125⟩⟩
set_option maxRecDepth 1000000 in
theorem tCW0_1 : machS F1 cleanT (hookL hCW) 22000 (Ms.callA 1000 8 [.int .i64 (.ofNat 0), .chan (some 0)] ⟨[(0, tkO kC)], 1⟩ : Ms Ar) = some (sCW0_1 : Ms Ar) := by kernel_rfl
noncomputable def sCW0_2 : Ms Ar := ⟨1000, [], .norm,
  [(0, (.bool true))],
  ⟨[],
  [(0, (.ext (.mk [] true 9223372036854775810)))], 4413⟩⟩
set_option maxRecDepth 1000000 in
theorem tCW0_2 : machS F1 cleanT (hookL hCW) 22000 sCW0_1 = some (sCW0_2 : Ms Ar) := by kernel_rfl
theorem rCW0 : ∃ h', run F1 cleanT (hookL hCW) 1000 8 [.int .i64 (.ofNat 0), .chan (some 0)] (⟨[(0, tkO kC)], 1⟩ : Hp Ar) = some (.bool true, h') := by
  have h0 := Ms.callA_den (F := F1) (clean := cleanT) (hook := hookL hCW) 1000 8 [.int .i64 (.ofNat 0), .chan (some 0)] (⟨[(0, tkO kC)], 1⟩ : Hp Ar)
  rw [machS_den tCW0_1] at h0
  rw [machS_den tCW0_2] at h0
  exact ⟨_, h0.symm.trans (Ms.end_den rfl)⟩
end Go.AI
/- A reckoning, piece by piece. -/
namespace Go.AI
open Go.Proofs
noncomputable def sCW4096_1 : Ms Ar := ⟨994, [(.code (cdF F1 229 [1, 0, 0, 0])),
    (.code (cdF F1 229 [1, 0, 0, 1])),
    (.block 0),
    (.code (cdF F1 229 [1, 1])),
    (.ret 229 995 (some 12) [(11, (vi 2)), (10, vCWq5), (9, (vi 160)), (8, vCWq2), (6, (vi 0)), (3, (vp 1123 0)), (0, vCWq2), (1, (vi 160)), (2, vCWq5)] [(1123, (.cells [(vp 2 0), (vi 8224), (vi 992)]))] 1124 (cdR F1 229)),
    (.ops (cdO F1 282 [1, 0, 0] 5)),
    (.code (cdF F1 282 [1, 0, 1])),
    (.code (cdF F1 282 [1, 1])),
    (.ret 282 996 (some 35) [(34, vCWq5), (33, vCWq1), (32, vCWq11), (31, vCWq14), (30, (vb 1)), (29, (vi 1)), (28, vCWq1), (27, (vi 160)), (26, vCWq2), (24, (.bool false)), (23, (vi 0)), (9, (vi 0)), (22, (vi 0)), (21, (vi 16)), (20, (vi 160)), (19, vCWq2), (14, (.bool false)), (18, (.bool false)), (17, (vi 16)), (16, (vi 1)), (15, vCWq1), (10, (.bool false)), (13, (.bool false)), (12, (.bool true)), (11, (vi 16)), (8, (vi 0)), (4, (vp 1118 0)), (0, vCWq2), (1, (vi 160)), (2, (vi 16)), (3, vCWq1)] [(1118, (.cells [(vp 2 0), (vi 8224), (vi 992)]))] 1123 (cdR F1 282)),
    (.ops (cdO F1 219 [1, 1, 1, 0] 10)),
    (.code (cdF F1 219 [1, 0, 0, 1, 0, 1])),
    (.ret 219 997 (some 63) [(62, vCWq1), (61, vCWq2), (60, (vp 788 9)), (59, (.tuple (.mk []))), (58, (vw 1)), (57, vCWq0), (56, (vi 0)), (55, (vi 8192)), (54, (vp 746 0)), (53, vCWq10), (52, (vp 788 0)), (51, (vp 788 0)), (50, (vp 788 0)), (49, (vi 0)), (48, vCWq2), (47, (vp 788 9)), (46, (vi 0)), (45, vCWq2), (44, (vp 788 9)), (13, (vi 0)), (12, (vp 788 0)), (43, (vi 0)), (42, vCWq0), (38, vCWq12), (41, vCWq12), (40, vCWq4), (39, (vp 325 0)), (35, (.bool false)), (34, (vi 0)), (11, (vi 0)), (10, (vp 746 0)), (33, (vi 0)), (32, vCWq4), (27, vCWq9), (31, vCWq9), (30, (vw 1)), (29, (vi 0)), (28, (vp 325 0)), (22, (.bool false)), (25, (.bool false)), (24, (vi 1)), (23, vCWq1), (18, (.bool false)), (20, (.bool false)), (19, (vw 1)), (14, (.bool false)), (16, (.bool false)), (15, (vp 325 0)), (9, (vi 0)), (8, (vp 339 0)), (0, (vp 325 0)), (1, (vi 0)), (2, (vw 1)), (3, vCWq1)] [(788, oCWq3), (746, oCWq9), (339, oCWq2)] 1118 (cdR F1 219)),
    (.ops []),
    (.code (cdF F1 132 [1, 1, 1, 1, 1, 1, 1, 1, 1, 1])),
    (.ret 132 998 (some 29) [(28, (vw 1)), (27, (vi 1)), (26, (vi 0)), (25, (vp 325 0)), (24, (vp 338 0)), (23, (vp 338 0)), (22, (vp 338 0)), (8, (vi 0)), (20, (vi 0)), (19, (.bool true)), (18, (vi 0)), (17, (vi 2)), (16, (vi 2)), (15, (vi 2)), (7, vCWq8), (6, (.bool true)), (5, (vp 338 0)), (14, (.bool true)), (13, (vp 338 0)), (11, vCWq7), (12, vCWq7), (4, (.bool false)), (3, vCWq8), (2, vCWq16), (0, (vi 2))] [] 339 (cdR F1 132)),
    (.ops (cdO F1 60 [1, 1, 1, 0, 1, 0, 0, 1, 1, 0, 0, 1, 0] 8)),
    (.code (cdF F1 60 [1, 1, 1, 0, 1, 0, 0, 1, 1, 0, 0, 1, 1])),
    (.block 1),
    (.code (cdF F1 60 [1, 1, 1, 0, 1, 0, 0, 1, 1, 1])),
    (.loop (cdF F1 60 [1, 1, 1, 0, 1, 0, 0]) 997),
    (.block 0),
    (.code (cdF F1 60 [1, 1, 1, 1])),
    (.ret 60 999 (some 16) [(14, (.bool false)), (13, (.bool true)), (4, (.bool false)), (0, (vi 4096)), (1, (.chan (some 0)))] [] 1 (cdR F1 60)),
    (.ops (cdO F1 8 [1, 1, 0] 1)),
    (.code (cdF F1 8 [1, 1, 1])),
    (.ret 8 1000 (some 0) [] [] 1 (cdR F1 8)),
    (.ops [])], .norm,
  [(6, (vi 0)), (3, (vp 1124 0)), (0, vCWq2), (1, (vi 160)), (2, (vi 2))],
  ⟨[(1124, (.cells [(vp 2 0), (vi 8224), (vi 992)]))],
  [(1122, (.cells [(vb 1)])), (338, oCWq1), (325, oCWq6), (314, oCWq8), (313, (.cells [(vi 0), (vi 0), (.bool true)])), (3, oCWq5), (2, oCWq0), (0, (.ext (.mk [] true 9223372036854775810)))], 1125⟩⟩
set_option maxRecDepth 1000000 in
theorem tCW4096_1 : machS F1 cleanT (hookL hCW) 22000 (Ms.callA 1000 8 [.int .i64 (.ofNat 4096), .chan (some 0)] ⟨[(0, tkO kC)], 1⟩ : Ms Ar) = some (sCW4096_1 : Ms Ar) := by kernel_rfl
noncomputable def sCW4096_2 : Ms Ar := ⟨1000, [], .norm,
  [(0, (.bool true))],
  ⟨[],
  [(0, (.ext (.mk [] true 9223372036854775810)))], 4413⟩⟩
set_option maxRecDepth 1000000 in
theorem tCW4096_2 : machS F1 cleanT (hookL hCW) 22000 sCW4096_1 = some (sCW4096_2 : Ms Ar) := by kernel_rfl
theorem rCW4096 : ∃ h', run F1 cleanT (hookL hCW) 1000 8 [.int .i64 (.ofNat 4096), .chan (some 0)] (⟨[(0, tkO kC)], 1⟩ : Hp Ar) = some (.bool true, h') := by
  have h0 := Ms.callA_den (F := F1) (clean := cleanT) (hook := hookL hCW) 1000 8 [.int .i64 (.ofNat 4096), .chan (some 0)] (⟨[(0, tkO kC)], 1⟩ : Hp Ar)
  rw [machS_den tCW4096_1] at h0
  rw [machS_den tCW4096_2] at h0
  exact ⟨_, h0.symm.trans (Ms.end_den rfl)⟩
end Go.AI
/- A reckoning, piece by piece. -/
namespace Go.AI
open Go.Proofs
noncomputable def sCW8192_1 : Ms Ar := ⟨994, [(.code (cdF F1 229 [1, 0, 0, 0])),
    (.code (cdF F1 229 [1, 0, 0, 1])),
    (.block 0),
    (.code (cdF F1 229 [1, 1])),
    (.ret 229 995 (some 12) [(11, (vi 2)), (10, vCWq5), (9, (vi 160)), (8, vCWq2), (6, (vi 0)), (3, (vp 1123 0)), (0, vCWq2), (1, (vi 160)), (2, vCWq5)] [(1123, (.cells [(vp 2 0), (vi 8224), (vi 992)]))] 1124 (cdR F1 229)),
    (.ops (cdO F1 282 [1, 0, 0] 5)),
    (.code (cdF F1 282 [1, 0, 1])),
    (.code (cdF F1 282 [1, 1])),
    (.ret 282 996 (some 35) [(34, vCWq5), (33, vCWq1), (32, vCWq11), (31, vCWq14), (30, (vb 1)), (29, (vi 1)), (28, vCWq1), (27, (vi 160)), (26, vCWq2), (24, (.bool false)), (23, (vi 0)), (9, (vi 0)), (22, (vi 0)), (21, (vi 16)), (20, (vi 160)), (19, vCWq2), (14, (.bool false)), (18, (.bool false)), (17, (vi 16)), (16, (vi 1)), (15, vCWq1), (10, (.bool false)), (13, (.bool false)), (12, (.bool true)), (11, (vi 16)), (8, (vi 0)), (4, (vp 1118 0)), (0, vCWq2), (1, (vi 160)), (2, (vi 16)), (3, vCWq1)] [(1118, (.cells [(vp 2 0), (vi 8224), (vi 992)]))] 1123 (cdR F1 282)),
    (.ops (cdO F1 219 [1, 1, 1, 0] 10)),
    (.code (cdF F1 219 [1, 0, 0, 1, 0, 1])),
    (.ret 219 997 (some 63) [(62, vCWq1), (61, vCWq2), (60, (vp 788 9)), (59, (.tuple (.mk []))), (58, (vw 1)), (57, vCWq0), (56, (vi 0)), (55, (vi 8192)), (54, (vp 746 0)), (53, vCWq10), (52, (vp 788 0)), (51, (vp 788 0)), (50, (vp 788 0)), (49, (vi 0)), (48, vCWq2), (47, (vp 788 9)), (46, (vi 0)), (45, vCWq2), (44, (vp 788 9)), (13, (vi 0)), (12, (vp 788 0)), (43, (vi 0)), (42, vCWq0), (38, vCWq12), (41, vCWq12), (40, vCWq4), (39, (vp 325 0)), (35, (.bool false)), (34, (vi 0)), (11, (vi 0)), (10, (vp 746 0)), (33, (vi 0)), (32, vCWq4), (27, vCWq9), (31, vCWq9), (30, (vw 1)), (29, (vi 0)), (28, (vp 325 0)), (22, (.bool false)), (25, (.bool false)), (24, (vi 1)), (23, vCWq1), (18, (.bool false)), (20, (.bool false)), (19, (vw 1)), (14, (.bool false)), (16, (.bool false)), (15, (vp 325 0)), (9, (vi 0)), (8, (vp 339 0)), (0, (vp 325 0)), (1, (vi 0)), (2, (vw 1)), (3, vCWq1)] [(788, oCWq3), (746, oCWq9), (339, oCWq2)] 1118 (cdR F1 219)),
    (.ops []),
    (.code (cdF F1 132 [1, 1, 1, 1, 1, 1, 1, 1, 1, 1])),
    (.ret 132 998 (some 29) [(28, (vw 1)), (27, (vi 1)), (26, (vi 0)), (25, (vp 325 0)), (24, (vp 338 0)), (23, (vp 338 0)), (22, (vp 338 0)), (8, (vi 0)), (20, (vi 0)), (19, (.bool true)), (18, (vi 0)), (17, (vi 2)), (16, (vi 2)), (15, (vi 2)), (7, vCWq8), (6, (.bool true)), (5, (vp 338 0)), (14, (.bool true)), (13, (vp 338 0)), (11, vCWq7), (12, vCWq7), (4, (.bool false)), (3, vCWq8), (2, vCWq16), (0, (vi 2))] [] 339 (cdR F1 132)),
    (.ops (cdO F1 60 [1, 1, 1, 0, 1, 0, 0, 1, 1, 0, 0, 1, 0] 8)),
    (.code (cdF F1 60 [1, 1, 1, 0, 1, 0, 0, 1, 1, 0, 0, 1, 1])),
    (.block 1),
    (.code (cdF F1 60 [1, 1, 1, 0, 1, 0, 0, 1, 1, 1])),
    (.loop (cdF F1 60 [1, 1, 1, 0, 1, 0, 0]) 997),
    (.block 0),
    (.code (cdF F1 60 [1, 1, 1, 1])),
    (.ret 60 999 (some 16) [(14, (.bool false)), (13, (.bool true)), (4, (.bool false)), (0, (vi 8192)), (1, (.chan (some 0)))] [] 1 (cdR F1 60)),
    (.ops (cdO F1 8 [1, 1, 0] 1)),
    (.code (cdF F1 8 [1, 1, 1])),
    (.ret 8 1000 (some 0) [] [] 1 (cdR F1 8)),
    (.ops [])], .norm,
  [(6, (vi 0)), (3, (vp 1124 0)), (0, vCWq2), (1, (vi 160)), (2, (vi 2))],
  ⟨[(1124, (.cells [(vp 2 0), (vi 8224), (vi 992)]))],
  [(1122, (.cells [(vb 1)])), (338, oCWq1), (325, oCWq6), (314, oCWq8), (313, (.cells [(vi 0), (vi 0), (.bool true)])), (3, oCWq5), (2, oCWq0), (0, (.ext (.mk [] true 9223372036854775810)))], 1125⟩⟩
set_option maxRecDepth 1000000 in
theorem tCW8192_1 : machS F1 cleanT (hookL hCW) 22000 (Ms.callA 1000 8 [.int .i64 (.ofNat 8192), .chan (some 0)] ⟨[(0, tkO kC)], 1⟩ : Ms Ar) = some (sCW8192_1 : Ms Ar) := by kernel_rfl
noncomputable def sCW8192_2 : Ms Ar := ⟨1000, [], .norm,
  [(0, (.bool true))],
  ⟨[],
  [(0, (.ext (.mk [] true 9223372036854775810)))], 1921⟩⟩
set_option maxRecDepth 1000000 in
theorem tCW8192_2 : machS F1 cleanT (hookL hCW) 22000 sCW8192_1 = some (sCW8192_2 : Ms Ar) := by kernel_rfl
theorem rCW8192 : ∃ h', run F1 cleanT (hookL hCW) 1000 8 [.int .i64 (.ofNat 8192), .chan (some 0)] (⟨[(0, tkO kC)], 1⟩ : Hp Ar) = some (.bool true, h') := by
  have h0 := Ms.callA_den (F := F1) (clean := cleanT) (hook := hookL hCW) 1000 8 [.int .i64 (.ofNat 8192), .chan (some 0)] (⟨[(0, tkO kC)], 1⟩ : Hp Ar)
  rw [machS_den tCW8192_1] at h0
  rw [machS_den tCW8192_2] at h0
  exact ⟨_, h0.symm.trans (Ms.end_den rfl)⟩
end Go.AI
/- A reckoning, piece by piece. -/
namespace Go.AI
open Go.Proofs
noncomputable def sCW12288_1 : Ms Ar := ⟨994, [(.code (cdF F1 229 [1, 0, 0, 0])),
    (.code (cdF F1 229 [1, 0, 0, 1])),
    (.block 0),
    (.code (cdF F1 229 [1, 1])),
    (.ret 229 995 (some 12) [(11, (vi 2)), (10, vCWq5), (9, (vi 160)), (8, vCWq2), (6, (vi 0)), (3, (vp 1123 0)), (0, vCWq2), (1, (vi 160)), (2, vCWq5)] [(1123, (.cells [(vp 2 0), (vi 8224), (vi 992)]))] 1124 (cdR F1 229)),
    (.ops (cdO F1 282 [1, 0, 0] 5)),
    (.code (cdF F1 282 [1, 0, 1])),
    (.code (cdF F1 282 [1, 1])),
    (.ret 282 996 (some 35) [(34, vCWq5), (33, vCWq1), (32, vCWq11), (31, vCWq14), (30, (vb 1)), (29, (vi 1)), (28, vCWq1), (27, (vi 160)), (26, vCWq2), (24, (.bool false)), (23, (vi 0)), (9, (vi 0)), (22, (vi 0)), (21, (vi 16)), (20, (vi 160)), (19, vCWq2), (14, (.bool false)), (18, (.bool false)), (17, (vi 16)), (16, (vi 1)), (15, vCWq1), (10, (.bool false)), (13, (.bool false)), (12, (.bool true)), (11, (vi 16)), (8, (vi 0)), (4, (vp 1118 0)), (0, vCWq2), (1, (vi 160)), (2, (vi 16)), (3, vCWq1)] [(1118, (.cells [(vp 2 0), (vi 8224), (vi 992)]))] 1123 (cdR F1 282)),
    (.ops (cdO F1 219 [1, 1, 1, 0] 10)),
    (.code (cdF F1 219 [1, 0, 0, 1, 0, 1])),
    (.ret 219 997 (some 63) [(62, vCWq1), (61, vCWq2), (60, (vp 788 9)), (59, (.tuple (.mk []))), (58, (vw 1)), (57, vCWq0), (56, (vi 0)), (55, (vi 8192)), (54, (vp 746 0)), (53, vCWq10), (52, (vp 788 0)), (51, (vp 788 0)), (50, (vp 788 0)), (49, (vi 0)), (48, vCWq2), (47, (vp 788 9)), (46, (vi 0)), (45, vCWq2), (44, (vp 788 9)), (13, (vi 0)), (12, (vp 788 0)), (43, (vi 0)), (42, vCWq0), (38, vCWq12), (41, vCWq12), (40, vCWq4), (39, (vp 325 0)), (35, (.bool false)), (34, (vi 0)), (11, (vi 0)), (10, (vp 746 0)), (33, (vi 0)), (32, vCWq4), (27, vCWq9), (31, vCWq9), (30, (vw 1)), (29, (vi 0)), (28, (vp 325 0)), (22, (.bool false)), (25, (.bool false)), (24, (vi 1)), (23, vCWq1), (18, (.bool false)), (20, (.bool false)), (19, (vw 1)), (14, (.bool false)), (16, (.bool false)), (15, (vp 325 0)), (9, (vi 0)), (8, (vp 339 0)), (0, (vp 325 0)), (1, (vi 0)), (2, (vw 1)), (3, vCWq1)] [(788, oCWq3), (746, oCWq9), (339, oCWq2)] 1118 (cdR F1 219)),
    (.ops []),
    (.code (cdF F1 132 [1, 1, 1, 1, 1, 1, 1, 1, 1, 1])),
    (.ret 132 998 (some 29) [(28, (vw 1)), (27, (vi 1)), (26, (vi 0)), (25, (vp 325 0)), (24, (vp 338 0)), (23, (vp 338 0)), (22, (vp 338 0)), (8, (vi 0)), (20, (vi 0)), (19, (.bool true)), (18, (vi 0)), (17, (vi 2)), (16, (vi 2)), (15, (vi 2)), (7, vCWq8), (6, (.bool true)), (5, (vp 338 0)), (14, (.bool true)), (13, (vp 338 0)), (11, vCWq7), (12, vCWq7), (4, (.bool false)), (3, vCWq8), (2, vCWq16), (0, (vi 2))] [] 339 (cdR F1 132)),
    (.ops (cdO F1 60 [1, 1, 1, 0, 1, 0, 0, 1, 1, 0, 0, 1, 0] 8)),
    (.code (cdF F1 60 [1, 1, 1, 0, 1, 0, 0, 1, 1, 0, 0, 1, 1])),
    (.block 1),
    (.code (cdF F1 60 [1, 1, 1, 0, 1, 0, 0, 1, 1, 1])),
    (.loop (cdF F1 60 [1, 1, 1, 0, 1, 0, 0]) 997),
    (.block 0),
    (.code (cdF F1 60 [1, 1, 1, 1])),
    (.ret 60 999 (some 16) [(14, (.bool false)), (13, (.bool true)), (4, (.bool false)), (0, (vi 12288)), (1, (.chan (some 0)))] [] 1 (cdR F1 60)),
    (.ops (cdO F1 8 [1, 1, 0] 1)),
    (.code (cdF F1 8 [1, 1, 1])),
    (.ret 8 1000 (some 0) [] [] 1 (cdR F1 8)),
    (.ops [])], .norm,
  [(6, (vi 0)), (3, (vp 1124 0)), (0, vCWq2), (1, (vi 160)), (2, (vi 2))],
  ⟨[(1124, (.cells [(vp 2 0), (vi 8224), (vi 992)]))],
  [(1122, (.cells [(vb 1)])), (338, oCWq1), (325, oCWq6), (314, oCWq8), (313, (.cells [(vi 0), (vi 0), (.bool true)])), (3, oCWq5), (2, oCWq0), (0, (.ext (.mk [] true 9223372036854775810)))], 1125⟩⟩
set_option maxRecDepth 1000000 in
theorem tCW12288_1 : machS F1 cleanT (hookL hCW) 22000 (Ms.callA 1000 8 [.int .i64 (.ofNat 12288), .chan (some 0)] ⟨[(0, tkO kC)], 1⟩ : Ms Ar) = some (sCW12288_1 : Ms Ar) := by kernel_rfl
noncomputable def sCW12288_2 : Ms Ar := ⟨1000, [], .norm,
  [(0, (.bool true))],
  ⟨[],
  [(0, (.ext (.mk [] true 9223372036854775810)))], 1921⟩⟩
set_option maxRecDepth 1000000 in
theorem tCW12288_2 : machS F1 cleanT (hookL hCW) 22000 sCW12288_1 = some (sCW12288_2 : Ms Ar) := by kernel_rfl
theorem rCW12288 : ∃ h', run F1 cleanT (hookL hCW) 1000 8 [.int .i64 (.ofNat 12288), .chan (some 0)] (⟨[(0, tkO kC)], 1⟩ : Hp Ar) = some (.bool true, h') := by
  have h0 := Ms.callA_den (F := F1) (clean := cleanT) (hook := hookL hCW) 1000 8 [.int .i64 (.ofNat 12288), .chan (some 0)] (⟨[(0, tkO kC)], 1⟩ : Hp Ar)
  rw [machS_den tCW12288_1] at h0
  rw [machS_den tCW12288_2] at h0
  exact ⟨_, h0.symm.trans (Ms.end_den rfl)⟩
end Go.AI
