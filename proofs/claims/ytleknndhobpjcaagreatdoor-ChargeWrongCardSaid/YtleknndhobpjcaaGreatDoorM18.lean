/- A chapter's example, reckoned by the kernel piece by piece. -/
import Derived.Test.YtleknndhobpjcaaGreatDoorM16
namespace Go.AI
open Go.Proofs
def q18x0 : Nat := 0x2030000000000000000000000000000000000000000000000000000000000000000000000000000000000000000000000000000000000000000000000000000000000000000000000000000000000000000000000000000000000000000000000000000000000000000000000000000000000000000000000000000000000000000000000000000000000000000000000000059444455424c494d0000000000000002000000000000000000000000000000000000000000000000000000000000000000000000000000000000000000000000000000000000000000000000000000000000000000000000000000000000000000000000000000000000000000002000
def q18x1 : Nat := 0x1000000000000000000000000000000000000000000000000000000000000000000000000000000000
noncomputable def v18x0 : Value := (.agg (.mk [(vp 1 0), (vi 0), (vi 88)]))
noncomputable def o18x0 : AObj Ar := (.cells (ap [(vp 324 0), (vi 1), (vi 19), (vi 1), (.int .i64 (.negSucc 0)), (.slice (some (.mk 313 0 none)) 1 1), (.slice none 0 0), (.slice none 0 0), (.slice none 0 0), (.slice none 0 0), (.slice none 0 0), (vi 16), (.slice none 0 0), (.slice none 0 0)] []))
noncomputable def o18x1 : AObj Ar := (.ext (.mk [(some q18x0), (some q18x1), (some 0), none, none, none, none, none, none, none, none, none, none, none, none, none, none, none, none, none] false 0))
noncomputable def o18x2 : AObj Ar := (.cells (ap [(vp 1 0), (vi 1), (vi 19), (vp 1 0), (vi 0), (vi 256), (vp 1 0), (vi 0), (vi 88), (vp 1 0), (vi 257), (vi 19)] []))
noncomputable def o18x3 : AObj Ar := (.cells [(vp 2 0), (vp 1 0), (vi 4096), (vi 64), (vp 1 0), (vi 4096), (vi 64)])
noncomputable def o18x4 : AObj Ar := (.grown 3 314 [(vi 0), (vi 0), (.bool true)])
noncomputable def o18x5 : AObj Ar := (.cells [(vi 0), (vi 0), (vw 0), (vi 0)])
noncomputable def s18_1 : Ms Ar := ⟨990, [(.code (cdF F1 229 [1, 0])),
    (.code (cdF F1 229 [1, 1])),
    (.ret 229 991 (some 19) [(18, (vi 8)), (17, (vi 0)), (16, v18x0), (14, (.bool false)), (13, (vi 0)), (8, (vi 0)), (12, (vi 0)), (11, (vi 8)), (10, v18x0), (7, (vi 0)), (6, (vw 0)), (3, (vp 566 0)), (0, v18x0), (1, (vi 0)), (2, (vi 8))] [(566, (.cells [(vp 1 0), (vi 0), (vi 88)]))] 568 (cdR F1 229)),
    (.ops (cdO F1 159 [1, 1, 0, 0] 4)),
    (.code (cdF F1 159 [1, 1, 0, 1])),
    (.code (cdF F1 159 [1, 1, 1])),
    (.ret 159 992 (some 15) [(14, (vi 0)), (13, (vi 0)), (12, v18x0), (11, (vp 565 0)), (9, (.bool true)), (8, (vi 0)), (7, (vw 0)), (6, (vi 0)), (3, (vp 565 0)), (0, v18x0), (1, (vi 0)), (2, (vi 0))] [(565, (.cells [(vp 1 0), (vi 0), (vi 88)]))] 566 (cdR F1 159)),
    (.ops (cdO F1 311 [1, 1, 0, 1, 0] 5)),
    (.code (cdF F1 311 [1, 1, 1])),
    (.ret 311 993 (some 11) [(10, (vi 0)), (9, v18x0), (7, (vi 0)), (6, (vi 0)), (3, (vp 564 0)), (0, v18x0), (1, (vi 0)), (2, (vi 8192))] [(564, (.cells [(vp 1 0), (vi 0), (vi 88)]))] 565 (cdR F1 311)),
    (.ops (cdO F1 310 [1, 1, 0, 0] 3)),
    (.code (cdF F1 310 [1, 1, 0, 1])),
    (.code (cdF F1 310 [1, 1, 1])),
    (.ret 310 994 (some 18) [(17, (vi 8192)), (16, (vi 0)), (15, v18x0), (13, (.bool false)), (12, (vi 0)), (7, (vi 0)), (11, (vi 0)), (10, (vi 0)), (9, v18x0), (6, (vi 0)), (3, (vp 560 0)), (0, v18x0), (1, (vi 0)), (2, (vi 8192))] [(560, (.cells [(vp 1 0), (vi 0), (vi 88)]))] 564 (cdR F1 310)),
    (.ops (cdO F1 254 [1, 1, 0] 4)),
    (.code (cdF F1 254 [1, 1, 1])),
    (.ret 254 995 (some 0) [] [] 560 (cdR F1 254)),
    (.drc (cdD F1 188 [1, 1, 1, 1, 0]) (cdB F1 188 [1, 1, 1, 1, 0]) (List.drop 9 (cdD F1 188 [1, 1, 1, 1, 0])) 551 8 (some 50) [(7, (vi 0)), (6, (vi 1)), (41, (.bool true)), (40, (vi 0)), (39, (vi 1)), (35, (.tuple (.mk [(vi 1), (vi 0), (.bool true)]))), (38, (.tuple (.mk [(vi 1), (vi 0), (.bool true)]))), (37, (vi 0)), (36, (vp 2 0)), (33, (.bool false)), (32, (vi 0)), (9, (vi 0)), (31, (vi 0)), (30, (vi 0)), (29, (vp 2 0)), (28, (.bool true)), (27, (.bool false)), (8, (.bool false)), (7, (vi 0)), (6, (vi 0)), (26, (.bool false)), (25, (vi 0)), (24, (vi 0)), (20, (.tuple (.mk [(vi 0), (vi 0), (.bool false)]))), (23, (.tuple (.mk [(vi 0), (vi 0), (.bool false)]))), (22, (vi 0)), (21, (vp 2 0)), (13, (.bool false)), (19, (.bool false)), (18, (.bool false)), (17, (vi 0)), (16, (.bool false)), (15, (.bool false)), (14, (vi 0)), (10, (.bool false)), (12, (.bool false)), (11, (vp 2 0)), (5, (vi 0)), (4, (vi 0)), (0, (vp 2 0)), (1, (vi 0))] (.mk [(7, ((some 49), (vi 8192))), (6, ((some 48), (vi 1))), (5, ((some 47), (vp 2 0))), (4, ((some 46), (vi 0))), (3, ((some 45), v18x0)), (2, ((some 44), (vp 2 6))), (1, ((some 43), (vp 2 0))), (0, ((some 42), (vp 2 0)))] [(.mk [] [(337, o18x0), (324, o18x3), (313, o18x4), (312, (.cells [(vi 0), (vi 0), (.bool true)])), (2, o18x2), (1, o18x1)] 560), (.mk [] [(337, o18x0), (324, o18x3), (313, o18x4), (312, (.cells [(vi 0), (vi 0), (.bool true)])), (2, o18x2), (1, o18x1)] 560)] [7] [] [(3, ((.mk 2 6 none), (3, [(vp 1 0), (vi 0), (vi 88)])))])),
    (.code (cdF F1 188 [1, 1, 1, 1, 1])),
    (.ret 188 996 (some 14) [(13, (vi 0)), (12, (vp 2 0)), (11, (vp 324 0)), (10, (vp 324 0)), (9, (vp 324 0)), (5, (vi 0)), (4, (vi 0)), (0, (vp 324 0)), (1, (vi 0))] [] 372 (cdR F1 188)),
    (.ops (cdO F1 275 [1, 0] 6)),
    (.code (cdF F1 275 [1, 1])),
    (.ret 275 997 (some 51) [(50, (vi 0)), (49, (vp 324 0)), (38, (.bool false)), (10, (.bool false)), (9, (vi 0)), (37, (.bool false)), (36, (vi 0)), (29, (.tuple (.mk [(vi 0), (.bool false)]))), (35, (.tuple (.mk [(vi 0), (.bool false)]))), (34, (vi 0)), (33, (.agg (.mk [(vp 1 0), (vi 4096), (vi 64)]))), (32, (vp 324 4)), (31, (vp 324 0)), (30, (vp 324 0)), (8, (vp 340 0)), (17, (.bool false)), (27, (.bool false)), (26, (.bool false)), (25, (vw 256)), (24, (.bool false)), (23, (.bool false)), (22, (.bool false)), (21, (vi 0)), (20, (.bool false)), (19, (.bool false)), (18, (vi 0)), (13, (.bool false)), (15, (.bool false)), (14, (vp 324 0)), (7, (vi 0)), (6, (vp 339 0)), (0, (vp 324 0)), (1, (vi 0)), (2, (vw 256))] [(340, o18x5), (339, o18x5)] 372 (cdR F1 275)),
    (.ops (cdO F1 216 [1, 1, 1, 0, 1, 1, 1, 0] 3)),
    (.code (cdF F1 216 [1, 1, 1, 0, 1, 1, 1, 1])),
    (.code (cdF F1 216 [1, 1, 1, 1])),
    (.ret 216 998 (some 31) [(30, (vw 256)), (29, (vi 0)), (28, (vp 324 0)), (22, (.bool false)), (25, (.bool false)), (24, (vi 1)), (23, (.string (.mk (.mk [(UInt8.ofNat 97)])))), (18, (.bool false)), (20, (.bool false)), (19, (vw 256)), (14, (.bool false)), (16, (.bool false)), (15, (vp 324 0)), (9, (vi 0)), (8, (vp 338 0)), (0, (vp 324 0)), (1, (vi 0)), (2, (vw 256)), (3, (.string (.mk (.mk [(UInt8.ofNat 97)]))))] [(338, (.cells (ap [(.pointer none), (.pointer none), (vi 0), (vi 0), (vw 0), (.pointer none), (vi 0), (vi 0), (vi 0), (.pointer none), (vi 0), (vi 0)] [])))] 339 (cdR F1 216)),
    (.ops (cdO F1 132 [1, 1, 0] 4)),
    (.code (cdF F1 132 [1, 1, 1])),
    (.ret 132 999 (some 18) [(17, (vp 324 0)), (16, (vp 337 0)), (15, (vp 337 0)), (14, (vp 337 0)), (12, (.bool false)), (11, (.bool true)), (2, (.bool true)), (1, (vp 337 0)), (10, (.bool true)), (9, (vp 337 0)), (7, (.tuple (.mk [(vp 337 0), (.bool true)]))), (8, (.tuple (.mk [(vp 337 0), (.bool true)]))), (0, (.bool false))] [] 338 (cdR F1 132)),
    (.ops (cdO F1 223 [1, 1, 1, 0] 5)),
    (.code (cdF F1 223 [1, 1, 1, 1])),
    (.ret 223 1000 (some 0) [] [] 0 (cdR F1 223)),
    (.ops [])], .norm,
  [(6, (vi 0)), (3, (vp 568 0)), (0, v18x0), (1, (vi 0)), (2, (vi 8))],
  ⟨[(568, (.cells [(vp 1 0), (vi 0), (vi 88)]))],
  [(337, o18x0), (324, o18x3), (313, o18x4), (312, (.cells [(vi 0), (vi 0), (.bool true)])), (2, o18x2), (1, o18x1)], 569⟩⟩
set_option maxRecDepth 1000000 in
theorem t18_1 : machS F1 cleanT (hookL h16a) 15000 (Ms.call 1000 223 ⟨[], 0⟩ : Ms Ar) = some (s18_1 : Ms Ar) := by kernel_rfl
noncomputable def s18_2 : Ms Ar := ⟨1000, [], .norm,
  [(0, (.bool true))],
  ⟨[],
  [], 1465⟩⟩
set_option maxRecDepth 1000000 in
theorem t18_2 : machS F1 cleanT (hookL h16a) 15000 s18_1 = some (s18_2 : Ms Ar) := by kernel_rfl
theorem r18 : ∃ h', run F1 cleanT (hookL h16a) 1000 223 [] (⟨[], 0⟩ : Hp Ar) = some (.bool true, h') := by
  have h0 := Ms.call_den (F := F1) (clean := cleanT) (hook := hookL h16a) 1000 223 (⟨[], 0⟩ : Hp Ar)
  rw [machS_den t18_1] at h0
  rw [machS_den t18_2] at h0
  exact ⟨_, h0.symm.trans (Ms.end_den rfl)⟩
theorem h18a_ok {W0 : World} {Cls : Nat → Int → Prop} (hT : Tabs W0) : ∀ x ∈ h18a, HookOk (Ext1 Cls) PZ W0 x.1 x.2 := next_ok (h16a_ok hT) r18
end Go.AI
