/- A chapter's example, reckoned by the kernel piece by piece. -/
import Derived.Test.YtleknndhobpjcaaGreatDoorAw8
namespace Go.AI
open Go.Proofs
def q16x0 : Nat := 0x3030000000000000000000000000000000000000000000000000000000000000000000000000000000000000000000000000000000000000000000000000000000000000000000000000000000000000000000000000000000000000000000000000000000000000000000000000000000000000000000000000000000000000000000000000000000000000000000000000059444455424c494d0000000000000002000000000000000000000000000000000000000000000000000000000000000000000000000000000000000000000000000000000000000000000000000000000000000000000000000000000000000000000000000000000000000000000000
def q16x1 : Nat := 0x800000000000000000000000000002030000000000000200000000000000000000000000000000000000000000000001000000000000000000000000000000000000000000000000000000000000000000000000000000000
noncomputable def v16x0 : Value := (.agg (.mk [(vp 324 0), (vp 1 0), (vi 4160), (vi 32), (vw 1), (vp 1 0), (vi 4160), (vi 32), (vi 32)]))
noncomputable def v16x1 : Value := (.string (.mk (.mk [(UInt8.ofNat 67), (UInt8.ofNat 72), (UInt8.ofNat 78), (UInt8.ofNat 75), (UInt8.ofNat 0), (UInt8.ofNat 0), (UInt8.ofNat 0), (UInt8.ofNat 0), (UInt8.ofNat 1), (UInt8.ofNat 0), (UInt8.ofNat 0), (UInt8.ofNat 0), (UInt8.ofNat 0), (UInt8.ofNat 0), (UInt8.ofNat 0), (UInt8.ofNat 0), (UInt8.ofNat 0), (UInt8.ofNat 0), (UInt8.ofNat 0), (UInt8.ofNat 0), (UInt8.ofNat 0), (UInt8.ofNat 0), (UInt8.ofNat 0), (UInt8.ofNat 0)])))
noncomputable def v16x2 : Value := (.agg (.mk [(vp 324 0), (vp 1 0), (vi 4160), (vi 32), (vw 1)]))
noncomputable def v16x3 : Value := (.agg (.mk [(vp 1 0), (vi 8192), (vi 32)]))
noncomputable def v16x4 : Value := (.agg (.mk [(.slice (some (.mk 1509 0 none)) 4 4)]))
noncomputable def v16x5 : Value := (.tuple (.mk [(.agg (.mk [(vi 0), (vi 0), (vw 0), (vi 0)])), (.bool false)]))
noncomputable def v16x6 : Value := (.tuple (.mk [(vp 337 0), (.bool true)]))
noncomputable def v16x7 : Value := (.agg (.mk [(vi 8240), (vi 0), (vi 0)]))
noncomputable def v16x8 : Value := (.string (.mk (.mk [(UInt8.ofNat 97), (UInt8.ofNat 98), (UInt8.ofNat 99)])))
noncomputable def v16x9 : Value := (.agg (.mk [(vp 1 0), (vi 4160), (vi 32)]))
noncomputable def v16x10 : Value := (.slice none 0 0)
noncomputable def v16x11 : Value := (.slice (some (.mk 1203 0 none)) 2 2)
noncomputable def v16x12 : Value := (.agg (.mk [(vp 1 0), (vi 257), (vi 19)]))
noncomputable def o16x0 : AObj Ar := (.cells (ap [(vp 324 0), (vp 324 0), (vp 1 0), (vi 4160), (vi 32), (vw 1), (vp 1 0), (vi 4160), (vi 32), (vi 32), (vp 324 0), (vp 1 0), (vi 4192), (vi 32), (vw 2), (vp 1 0), (vi 4192), (vi 32), (vi 100), (vi 1), (vi 19), (vi 1), (.int .i64 (.negSucc 0)), (.slice (some (.mk 313 0 none)) 1 1), v16x10, v16x10, v16x10, v16x10, v16x10, (vi 16), v16x10, (vw 1), (vi 32), (vi 0), v16x10, v16x10, (vw 2), (vi 100), (vi 0), v16x10, v16x10] []))
noncomputable def o16x1 : AObj Ar := (.cells [(vp 324 0), (vp 1 0), (vi 4160), (vi 32), (vw 1), (vp 1 0), (vi 4160), (vi 32), (vi 32)])
noncomputable def o16x2 : AObj Ar := (.ext (.mk [(some q16x0), (some q16x1), (some 18446744074972973123), none, none, none, none, none, none, none, none, none, none, none, none, none, none, none, none, none] false 0))
noncomputable def o16x3 : AObj Ar := (.cells (ap [(vp 1 0), (vi 1), (vi 19), (vp 1 0), (vi 0), (vi 256), (vp 1 0), (vi 0), (vi 88), (vp 1 0), (vi 257), (vi 19)] []))
noncomputable def o16x4 : AObj Ar := (.cells [(.string (.mk (.mk [(UInt8.ofNat 97), (UInt8.ofNat 98)]))), (.string (.mk (.mk [(UInt8.ofNat 99)])))])
noncomputable def o16x5 : AObj Ar := (.cells [(vp 2 0), (vp 1 0), (vi 4096), (vi 64), (vp 1 0), (vi 4096), (vi 64)])
noncomputable def o16x6 : AObj Ar := (.cells [(vi 0), (vi 0), (vw 0), (vi 0)])
noncomputable def o16x7 : AObj Ar := (.grown 3 314 [(vi 0), (vi 0), (.bool true)])
noncomputable def o16x8 : AObj Ar := (.cells [(vp 324 0), (vp 1 0), (vi 4160), (vi 32), (vw 1)])
noncomputable def o16x9 : AObj Ar := (.grown 1 3 [(vi 4), (vi 4), (vi 8), (vi 8)])
noncomputable def o16x10 : AObj Ar := (.cells [(vi 4), (vi 4), (vi 8), (vi 8)])
noncomputable def s16_1 : Ms Ar := ⟨988, [(.ops (cdO F1 341 [1, 1, 0] 5)),
    (.code (cdF F1 341 [1, 1, 1])),
    (.ret 341 989 (some 23) [(22, (vi 0)), (21, v16x12), (20, (vp 2 9)), (19, (vp 2 0)), (18, (vp 2 0)), (6, (vi 0)), (16, (vi 0)), (15, (vi 1)), (14, (vi 0)), (13, (vi 1)), (10, (.bool true)), (9, (vi 0)), (0, (vp 2 0)), (1, (vi 1)), (2, (vi 0))] [] 651 (cdR F1 341)),
    (.ops (cdO F1 308 [0, 0, 0, 1, 0, 0, 1, 0, 0] 6)),
    (.code (cdF F1 308 [0, 0, 0, 1, 0, 0, 1, 0, 1])),
    (.code (cdF F1 308 [0, 0, 0, 1, 0, 0, 1, 1])),
    (.block 1),
    (.code (cdF F1 308 [0, 0, 0, 1, 1])),
    (.loop (cdF F1 308 [0, 0, 0]) 988),
    (.block 0),
    (.code (cdF F1 308 [1])),
    (.ret 308 990 (some 89) [(88, (vi 0)), (87, (vi 1)), (86, (vp 2 0)), (66, (.bool false)), (65, (vi 1)), (64, (vi 1)), (63, (vi 0)), (62, (vw 2)), (61, (vi 2)), (60, (vi 1)), (59, (vi 1)), (58, (.agg (.mk [(vp 1 0), (vi 0), (vi 256)]))), (57, (vp 2 3)), (56, (vp 2 0)), (55, (vp 2 0)), (54, (.bool false)), (53, (vi 0)), (52, (vi 1)), (51, (vi 1)), (50, (vi 2)), (49, (vi 1)), (48, (vi 1)), (47, (vi 2)), (46, (vi 1)), (45, (vi 1)), (44, (vp 2 1)), (43, (vp 2 0)), (42, (vp 2 0)), (41, (vp 1 0)), (40, (vp 2 0)), (39, (vp 2 0)), (38, (vp 2 0)), (37, (.bool false)), (36, (vi 18)), (35, (vi 1)), (34, (vi 19)), (33, (vp 2 2)), (32, (vp 2 0)), (31, (vp 2 0)), (30, (vi 1)), (7, (vi 1)), (29, (vi 1)), (28, (vi 0)), (27, (vi 1)), (26, (vi 1)), (25, (vi 2)), (24, (vi 1)), (23, (vi 1)), (6, (vi 1)), (5, (vi 1)), (22, (vi 1)), (21, (vi 0)), (20, (vi 1)), (19, (vp 2 0)), (12, (.bool false)), (18, (.bool false)), (17, (.bool false)), (16, (vi 0)), (15, (.bool false)), (14, (.bool false)), (13, (vi 0)), (9, (.bool false)), (11, (.bool false)), (10, (vp 2 0)), (4, (vi 0)), (0, (vp 2 0)), (1, (vi 0))] [] 651 (cdR F1 308)),
    (.ops []),
    (.code (cdF F1 253 [1, 1, 1, 1, 1, 1, 1, 1, 1])),
    (.ret 253 991 (some 31) [(30, (vi 0)), (29, (vp 2 0)), (28, (.bool true)), (27, (.bool false)), (8, (.bool false)), (7, (vi 0)), (6, (vi 0)), (26, (.bool false)), (25, (vi 0)), (24, (vi 0)), (20, (.tuple (.mk [(vi 0), (vi 0), (.bool false)]))), (23, (.tuple (.mk [(vi 0), (vi 0), (.bool false)]))), (22, (vi 0)), (21, (vp 2 0)), (13, (.bool false)), (19, (.bool false)), (18, (.bool false)), (17, (vi 0)), (16, (.bool false)), (15, (.bool false)), (14, (vi 0)), (10, (.bool false)), (12, (.bool false)), (11, (vp 2 0)), (5, (vi 0)), (4, (vi 0)), (0, (vp 2 0)), (1, (vi 0))] [] 622 (cdR F1 253)),
    (.ops (cdO F1 188 [1, 1, 1, 0, 1, 0, 0, 0] 3)),
    (.code (cdF F1 188 [1, 1, 1, 0, 1, 0, 0, 1])),
    (.code (cdF F1 188 [1, 1, 1, 0, 1, 0, 1])),
    (.code (cdF F1 188 [1, 1, 1, 1])),
    (.ret 188 992 (some 14) [(13, (vi 0)), (12, (vp 2 0)), (11, (vp 324 0)), (10, (vp 324 0)), (9, (vp 324 0)), (5, (vi 0)), (4, (vi 0)), (0, (vp 324 0)), (1, (vi 0))] [] 534 (cdR F1 188)),
    (.ops (cdO F1 275 [1, 0] 6)),
    (.code (cdF F1 275 [1, 1])),
    (.ret 275 993 (some 51) [(50, (vi 0)), (49, (vp 324 0)), (38, (.bool false)), (10, (.bool false)), (9, (vi 0)), (37, (.bool false)), (36, (vi 0)), (29, (.tuple (.mk [(vi 0), (.bool false)]))), (35, (.tuple (.mk [(vi 0), (.bool false)]))), (34, (vi 0)), (33, (.agg (.mk [(vp 1 0), (vi 4096), (vi 64)]))), (32, (vp 324 4)), (31, (vp 324 0)), (30, (vp 324 0)), (8, (vp 502 0)), (17, (.bool false)), (27, (.bool false)), (26, (.bool false)), (25, (vw 1)), (24, (.bool false)), (23, (.bool false)), (22, (.bool false)), (21, (vi 0)), (20, (.bool false)), (19, (.bool false)), (18, (vi 0)), (13, (.bool false)), (15, (.bool false)), (14, (vp 324 0)), (7, (vi 0)), (6, (vp 501 0)), (0, (vp 324 0)), (1, (vi 0)), (2, (vw 1))] [(502, o16x6), (501, o16x6)] 534 (cdR F1 275)),
    (.ops (cdO F1 216 [1, 1, 1, 0, 1, 1, 1, 0] 3)),
    (.code (cdF F1 216 [1, 1, 1, 0, 1, 1, 1, 1])),
    (.code (cdF F1 216 [1, 1, 1, 1])),
    (.ret 216 994 (some 14) [(13, (vw 1)), (12, (vp 499 4)), (11, (vi 0)), (10, (vp 324 0)), (9, (vp 499 0)), (5, (vi 0)), (4, (vp 500 0)), (2, (vp 499 0)), (0, v16x2), (1, (vi 0))] [(500, o16x6), (499, o16x8)] 501 (cdR F1 216)),
    (.ops (cdO F1 261 [1, 0] 6)),
    (.code (cdF F1 261 [1, 1])),
    (.ret 261 995 (some 40) [(39, (vi 0)), (38, v16x2), (37, (vp 473 0)), (35, (.bool false)), (34, (.bool true)), (12, (.bool true)), (11, (vi 0)), (33, (.bool true)), (32, (vi 0)), (27, (.tuple (.mk [(vi 0), (.bool true)]))), (31, (.tuple (.mk [(vi 0), (.bool true)]))), (30, (vi 8)), (29, (vi 0)), (28, (vi 32)), (8, (vi 32)), (26, (vi 32)), (25, (vp 473 8)), (24, (.bool true)), (23, (.bool false)), (10, (.bool false)), (9, (vp 480 0)), (22, (.bool false)), (21, (.agg (.mk [(vi 0), (vi 0), (vw 0), (vi 0)]))), (17, v16x5), (20, v16x5), (19, v16x2), (18, (vp 473 0)), (8, (vi 32)), (7, (vi 0)), (6, (vi 0)), (3, (vp 473 0)), (0, v16x0), (1, (vi 0)), (2, (vi 8))] [(480, o16x6), (473, o16x1)] 499 (cdR F1 261)),
    (.ops (cdO F1 202 [1, 1, 1, 1, 1, 0] 4)),
    (.code (cdF F1 202 [1, 1, 1, 1, 1, 1])),
    (.ret 202 996 (some 34) [(33, (vi 8)), (32, (vi 0)), (31, v16x0), (18, (.bool false)), (9, (.bool false)), (8, (vp 472 0)), (17, (.bool false)), (16, (.agg (.mk [(vi 0), (vi 0), (vw 0), (vi 0)]))), (12, v16x5), (15, v16x5), (14, v16x2), (13, (vp 465 0)), (7, (vi 0)), (6, (vi 0)), (3, (vp 465 0)), (0, v16x0), (1, (vi 0)), (2, (vi 8))] [(472, o16x6), (465, o16x1)] 473 (cdR F1 202)),
    (.ops (cdO F1 115 [1, 1, 0] 4)),
    (.code (cdF F1 115 [1, 0, 1, 1, 0, 1, 1, 0, 1])),
    (.ret 115 997 (some 20) [(19, (vi 8)), (18, (vi 0)), (17, v16x0), (14, (.bool false)), (13, (vi 0)), (8, (vi 0)), (12, (vi 0)), (11, v16x0), (7, (vi 0)), (6, (vi 0)), (3, (vp 458 0)), (0, v16x0), (1, (vi 0)), (2, (vi 8))] [(458, o16x1)] 465 (cdR F1 115)),
    (.ops (cdO F1 20 [1, 1, 0] 4)),
    (.code (cdF F1 20 [1, 1, 1])),
    (.ret 20 998 (some 11) [(10, (vi 8)), (9, v16x0), (8, (vp 457 0)), (4, (vi 0)), (2, (vp 457 0)), (0, v16x0), (1, (vi 8))] [(457, o16x1)] 458 (cdR F1 20)),
    (.ops (cdO F1 33 [1, 0, 0] 4)),
    (.code (cdF F1 33 [1, 0, 1])),
    (.code (cdF F1 33 [1, 1])),
    (.ret 33 999 (some 23) [(22, v16x0), (3, (vp 456 0)), (21, v16x0), (20, v16x0), (19, (vp 337 1)), (18, (vp 337 1)), (17, (vp 337 0)), (16, (vp 337 0)), (15, (.bool false)), (14, (.bool true)), (2, (.bool true)), (1, (vp 337 0)), (13, (.bool true)), (12, (vp 337 0)), (10, v16x6), (11, v16x6), (0, (.bool false))] [(456, o16x1)] 457 (cdR F1 33)),
    (.ops (cdO F1 29 [1, 1, 1, 1, 0] 2)),
    (.code (cdF F1 29 [1, 1, 1, 1, 1])),
    (.ret 29 1000 (some 0) [] [] 0 (cdR F1 29)),
    (.ops [])], .norm,
  [(19, (vb 3)), (18, (vw 3)), (17, (vb 3)), (16, (vb 3)), (15, (vw 3)), (7, (vi 0)), (6, (vw 3)), (14, (vi 0)), (13, (vw 3)), (8, (.tuple (.mk [(vw 3), (vi 0)]))), (12, (.tuple (.mk [(vw 3), (vi 0)]))), (11, (vi 0)), (10, v16x12), (9, (vp 651 0)), (5, (vi 0)), (4, (vp 652 0)), (2, (vp 651 0)), (0, v16x12), (1, (vi 0))],
  ⟨[(652, (.cells [(vb 0), (vb 0)])), (651, (.cells [(vp 1 0), (vi 257), (vi 19)]))],
  [(337, o16x0), (324, o16x5), (313, o16x7), (312, (.cells [(vi 0), (vi 0), (.bool true)])), (2, o16x3), (1, (.ext (.mk [(some 0x30000000000000000000000000000000000000000000000000000000000000000000000000000000000000000000000000000000000000000000000000000000000000000000000000000000000000000000000000000000000000000000000000000000000000000000000000000000000000000000000000000000000000000000000000000000000000000000000000059444455424c494d0000000000000002000000000000000000000000000000000000000000000000000000000000000000000000000000000000000000000000000000000000000000000000000000000000000000000000000000000000000000000000000000000000000000000000), (some 0x1000000000000000000000000000000000000000000000000000000000000000000000000000000000), (some 0), none, none, none, none, none, none, none, none, none, none, none, none, none, none, none, none, none] false 0)))], 656⟩⟩
set_option maxRecDepth 1000000 in
theorem t16_1 : machS F1 cleanT (hookL h15a) 15000 (Ms.call 1000 29 ⟨[], 0⟩ : Ms Ar) = some (s16_1 : Ms Ar) := by kernel_rfl
noncomputable def s16_2 : Ms Ar := ⟨993, [(.ops []),
    (.loop (cdF F1 149 [1, 1, 1, 0, 1, 0, 0]) 990),
    (.block 0),
    (.code (cdF F1 149 [1, 1, 1, 1])),
    (.ret 149 994 (some 0) [] [(1496, (.cells [(vp 1 0), (vi 8192), (vi 32)])), (1494, o16x6)] 1511 (cdR F1 149)),
    (.drc (cdD F1 157 [1, 1, 1, 0]) (cdB F1 157 [1, 1, 1, 0]) (List.drop 3 (cdD F1 157 [1, 1, 1, 0])) 1497 2 (some 24) [(18, (.bool false)), (17, (vi 0)), (7, (vi 0)), (6, (vp 1496 0)), (16, (vi 0)), (15, v16x3), (11, (.tuple (.mk [v16x3, (vi 0)]))), (14, (.tuple (.mk [v16x3, (vi 0)]))), (13, (vi 8192)), (12, (vp 1 0)), (5, (vi 0)), (4, (vp 1494 0)), (0, (vp 1 0)), (1, (vi 8192))] (.mk [(1, ((some 23), v16x3)), (0, ((some 22), v16x4))] [(.mk [(1496, (.cells [(vp 1 0), (vi 8192), (vi 32)])), (1494, o16x6)] [(1509, o16x9), (1508, (.cells [])), (1506, o16x10), (1203, o16x4), (337, o16x0), (324, o16x5), (313, o16x7), (312, (.cells [(vi 0), (vi 0), (.bool true)])), (2, o16x3), (1, o16x2)] 1511), (.mk [(1496, (.cells [(vp 1 0), (vi 8192), (vi 32)])), (1494, o16x6)] [(1203, o16x4), (337, o16x0), (324, o16x5), (313, o16x7), (312, (.cells [(vi 0), (vi 0), (.bool true)])), (2, o16x3), (1, o16x2)] 1505)] [0] [] [(1, ((.mk 1496 0 none), (3, [(vp 1 0), (vi 8192), (vi 32)])))])),
    (.code (cdF F1 157 [1, 1, 1, 1])),
    (.ret 157 995 (some 22) [(21, (vi 8192)), (20, (vp 1 0)), (19, (vp 2 0)), (18, (vp 2 0)), (17, (vp 2 0)), (16, (vp 324 0)), (15, (vp 324 0)), (14, (vp 324 0)), (13, (vp 1488 0)), (10, (.bool false)), (9, (vi 8192)), (4, (vi 8192)), (8, (vi 8192)), (7, v16x2), (3, (.bool false)), (2, (vp 1489 0)), (1, (vp 1488 0)), (0, v16x2)] [(1489, o16x6), (1488, o16x8)] 1494 (cdR F1 157)),
    (.ops (cdO F1 120 [1, 1, 1, 0] 10)),
    (.code (cdF F1 120 [1, 1, 1, 1])),
    (.ret 120 996 (some 47) [(46, v16x2), (45, (vp 1383 0)), (10, (vi 8240)), (43, (vi 8240)), (42, (vp 1487 0)), (27, (.bool false)), (41, (.bool false)), (40, (.bool false)), (39, (vi 0)), (38, (vi 8)), (37, (vi 8240)), (36, (vp 1487 0)), (35, (.bool false)), (34, (.bool false)), (33, (.bool false)), (32, (.bool true)), (31, (vi 8)), (30, (.bool false)), (29, (.bool false)), (28, (vi 3)), (24, (.bool false)), (26, (.bool false)), (25, (.bool true)), (9, (.bool true)), (8, (vp 1487 0)), (23, (.bool true)), (22, v16x7), (19, (.tuple (.mk [v16x7, (.bool true)]))), (21, (.tuple (.mk [v16x7, (.bool true)]))), (20, v16x0), (18, (.bool false)), (17, (vp 324 0)), (16, (vp 1383 0)), (15, (vp 1383 0)), (7, (vi 0)), (6, (vi 0)), (3, (vp 1383 0)), (0, v16x0), (1, (vi 3)), (2, (vi 8))] [(1487, (.cells [(vi 8240), (vi 0), (vi 0)])), (1383, o16x1)] 1488 (cdR F1 120)),
    (.ops (cdO F1 21 [1, 1, 1, 1, 1, 0, 0] 3)),
    (.code (cdF F1 21 [1, 1, 1, 1, 1, 0, 1])),
    (.code (cdF F1 21 [1, 1, 1, 1, 1, 1])),
    (.ret 21 997 (some 0) [] [(1362, (.cells [(vi 8240), (vi 0), (vi 0)])), (1250, o16x1)] 1383 (cdR F1 21)),
    (.drc (cdD F1 128 [1, 1, 1, 1, 0]) (cdB F1 128 [1, 1, 1, 1, 0]) (List.drop 10 (cdD F1 128 [1, 1, 1, 1, 0])) 1363 9 (some 36) [(25, (.bool false)), (24, (.bool false)), (23, (vi 0)), (22, (vi 0)), (21, (vp 1362 1)), (20, (vi 3)), (19, (.bool false)), (18, (.bool false)), (17, (vi 3)), (15, (.bool false)), (14, (vi 0)), (7, (vi 0)), (6, (vp 1362 0)), (13, (vi 0)), (12, v16x7), (9, (.tuple (.mk [v16x7, (vi 0)]))), (11, (.tuple (.mk [v16x7, (vi 0)]))), (10, v16x0), (5, (vi 0)), (4, (vi 0)), (2, (vp 1250 0)), (0, v16x0), (1, (vi 3))] (.mk [(8, ((some 35), (vi 8))), (7, ((some 34), v16x0)), (6, ((some 33), (vp 1250 0))), (5, ((some 32), (vi 3))), (4, ((some 31), (vi 3))), (3, ((some 30), (vi 0))), (2, ((some 29), (vp 1362 1))), (1, ((some 28), v16x0)), (0, ((some 27), (vp 1250 0)))] [(.mk [(1362, (.cells [(vi 8240), (vi 0), (vi 0)])), (1250, o16x1)] [(1203, o16x4), (337, o16x0), (324, o16x5), (313, o16x7), (312, (.cells [(vi 0), (vi 0), (.bool true)])), (2, o16x3), (1, o16x2)] 1383), (.mk [(1362, (.cells [(vi 8240), (vi 0), (vi 0)])), (1250, o16x1)] [(1203, o16x4), (337, o16x0), (324, o16x5), (313, o16x7), (312, (.cells [(vi 0), (vi 0), (.bool true)])), (2, o16x3), (1, o16x2)] 1378)] [8] [] [(7, ((.mk 1250 0 none), (9, [(vp 324 0), (vp 1 0), (vi 4160), (vi 32), (vw 1), (vp 1 0), (vi 4160), (vi 32), (vi 32)]))), (3, ((.mk 1362 1 none), (1, [(vi 0)]))), (1, ((.mk 1250 0 none), (9, [(vp 324 0), (vp 1 0), (vi 4160), (vi 32), (vw 1), (vp 1 0), (vi 4160), (vi 32), (vi 32)])))])),
    (.code (cdF F1 128 [1, 1, 1, 1, 1])),
    (.ret 128 998 (some 14) [(13, (vi 3)), (12, v16x8), (11, v16x0), (5, v16x8), (9, v16x8), (8, v16x11), (4, (vi 0)), (2, (vp 1204 0)), (0, v16x0), (1, v16x11)] [(1204, o16x1)] 1250 (cdR F1 128)),
    (.ops (cdO F1 35 [1, 1, 0] 4)),
    (.code (cdF F1 35 [1, 1, 1])),
    (.ret 35 999 (some 26) [(25, v16x11), (24, v16x0), (4, (vi 0)), (23, (vi 0)), (22, v16x0), (3, (vp 456 0)), (21, v16x0), (20, v16x0), (19, (vp 337 1)), (18, (vp 337 1)), (17, (vp 337 0)), (16, (vp 337 0)), (15, (.bool false)), (14, (.bool true)), (2, (.bool true)), (1, (vp 337 0)), (13, (.bool true)), (12, (vp 337 0)), (10, v16x6), (11, v16x6), (0, (.bool false))] [(456, o16x1)] 1204 (cdR F1 35)),
    (.ops (cdO F1 29 [1, 1, 1, 1, 1, 0] 3)),
    (.code (cdF F1 29 [1, 1, 1, 1, 1, 1])),
    (.ret 29 1000 (some 0) [] [] 0 (cdR F1 29)),
    (.ops [])], .norm,
  [(25, (vi 3)), (39, (vi 3)), (8, (.slice (some (.mk 1600 0 none)) 3 3)), (38, (.slice (some (.mk 1600 0 none)) 3 3)), (37, (.slice (some (.mk 1599 0 none)) 1 1)), (36, (vw 1)), (35, (.slice (some (.mk 1575 0 none)) 2 2)), (11, (vi 0)), (10, (vw 1)), (34, (vi 0)), (33, (vw 1)), (28, (.tuple (.mk [(vw 1), (vi 0)]))), (32, (.tuple (.mk [(vw 1), (vi 0)]))), (31, (vi 2)), (30, v16x3), (29, v16x4), (9, (vi 2)), (27, (vi 2)), (26, (.bool true)), (25, (vi 2)), (39, (vi 2)), (8, (.slice (some (.mk 1575 0 none)) 2 2)), (38, (.slice (some (.mk 1575 0 none)) 2 2)), (37, (.slice (some (.mk 1574 0 none)) 1 1)), (36, (vw 0)), (35, (.slice (some (.mk 1550 0 none)) 1 1)), (11, (vi 0)), (10, (vw 0)), (34, (vi 0)), (33, (vw 0)), (28, (.tuple (.mk [(vw 0), (vi 0)]))), (32, (.tuple (.mk [(vw 0), (vi 0)]))), (31, (vi 1)), (30, v16x3), (29, v16x4), (9, (vi 1)), (27, (vi 1)), (26, (.bool true)), (25, (vi 1)), (39, (vi 1)), (8, (.slice (some (.mk 1550 0 none)) 1 1)), (38, (.slice (some (.mk 1550 0 none)) 1 1)), (37, (.slice (some (.mk 1549 0 none)) 1 1)), (36, (vw 1263421507)), (35, v16x10), (11, (vi 0)), (10, (vw 1263421507)), (34, (vi 0)), (33, (vw 1263421507)), (28, (.tuple (.mk [(vw 1263421507), (vi 0)]))), (32, (.tuple (.mk [(vw 1263421507), (vi 0)]))), (31, (vi 0)), (30, v16x3), (29, v16x4), (9, (vi 0)), (27, (vi 0)), (26, (.bool true)), (24, (vi 4)), (23, (.slice (some (.mk 1509 0 none)) 4 4)), (22, (vp 1511 0)), (20, (.bool false)), (19, (vi 0)), (7, (vi 0)), (6, v16x1), (18, (vi 0)), (17, v16x1), (12, (.tuple (.mk [v16x1, (vi 0)]))), (16, (.tuple (.mk [v16x1, (vi 0)]))), (15, (vi 24)), (14, v16x4), (13, v16x3), (5, (vi 0)), (4, v16x10), (3, (vp 1512 0)), (2, (vp 1511 0)), (0, v16x4), (1, v16x3)],
  ⟨[(1512, (.cells [(vp 1 0), (vi 8192), (vi 32)])), (1511, (.cells [(.slice (some (.mk 1509 0 none)) 4 4)]))],
  [(1600, (.grown 1 42 [(vw 1263421507), (vw 0), (vw 1)])), (1599, (.cells [(vw 1)])), (1574, (.cells [(vw 0)])), (1549, (.cells [(vw 1263421507)])), (1509, o16x9), (1508, (.cells [])), (1506, o16x10), (1203, o16x4), (337, o16x0), (324, o16x5), (313, o16x7), (312, (.cells [(vi 0), (vi 0), (.bool true)])), (2, o16x3), (1, o16x2)], 1601⟩⟩
set_option maxRecDepth 1000000 in
theorem t16_2 : machS F1 cleanT (hookL h15a) 15000 s16_1 = some (s16_2 : Ms Ar) := by kernel_rfl
noncomputable def s16_3 : Ms Ar := ⟨994, [(.ops (cdO F1 159 [1, 1, 0, 0] 1)),
    (.code (cdF F1 159 [1, 1, 0, 1])),
    (.code (cdF F1 159 [1, 1, 1])),
    (.ret 159 995 (some 11) [(10, (vi 24)), (9, v16x9), (8, (vp 2731 5)), (4, (vi 0)), (2, (vp 2731 0)), (0, v16x0), (1, (vi 24))] [(2731, o16x1)] 2732 (cdR F1 159)),
    (.ops (cdO F1 124 [1, 0] 4)),
    (.code (cdF F1 124 [1, 1])),
    (.ret 124 996 (some 4) [(3, v16x0), (2, (vi 0)), (1, (vp 2730 0)), (0, v16x0)] [(2730, o16x1)] 2731 (cdR F1 124)),
    (.ops (cdO F1 28 [1, 0] 2)),
    (.code (cdF F1 28 [1, 1])),
    (.ret 28 997 (some 16) [(15, v16x0), (14, (vp 2728 0)), (6, (.bool false)), (11, (.bool false)), (10, (vp 324 0)), (9, (vp 2728 0)), (8, (vp 2728 0)), (7, (vp 2728 0)), (3, (vi 0)), (2, (vp 2729 0)), (1, (vp 2728 0)), (0, v16x0)] [(2729, (.cells [(vi 0), (vi 0), (vi 0)])), (2728, o16x1)] 2730 (cdR F1 28)),
    (.ops (cdO F1 126 [1, 0, 0, 1, 1, 0] 3)),
    (.code (cdF F1 126 [1, 0, 0, 1, 1, 1])),
    (.block 0),
    (.code (cdF F1 126 [1, 1])),
    (.ret 126 998 (some 9) [(8, v16x0), (4, (vi 0)), (2, (vp 2727 0)), (0, v16x0), (1, (vi 1))] [(2727, o16x1)] 2728 (cdR F1 126)),
    (.ops (cdO F1 38 [1, 0] 2)),
    (.code (cdF F1 38 [1, 1])),
    (.ret 38 999 (some 30) [(29, v16x0), (6, (vi 0)), (28, (vi 0)), (27, v16x0), (5, (vi 0)), (26, (vi 0)), (25, v16x11), (24, v16x0), (4, (vi 0)), (23, (vi 0)), (22, v16x0), (3, (vp 456 0)), (21, v16x0), (20, v16x0), (19, (vp 337 1)), (18, (vp 337 1)), (17, (vp 337 0)), (16, (vp 337 0)), (15, (.bool false)), (14, (.bool true)), (2, (.bool true)), (1, (vp 337 0)), (13, (.bool true)), (12, (vp 337 0)), (10, v16x6), (11, v16x6), (0, (.bool false))] [(456, o16x1)] 2727 (cdR F1 38)),
    (.ops (cdO F1 29 [1, 1, 1, 1, 1, 1, 1, 0] 2)),
    (.code (cdF F1 29 [1, 1, 1, 1, 1, 1, 1, 1])),
    (.ret 29 1000 (some 0) [] [] 0 (cdR F1 29)),
    (.ops [])], .norm,
  [(16, v16x9), (14, (.bool false)), (13, (vi 0)), (8, (vi 0)), (12, (vi 0)), (11, (vi 8)), (10, v16x9), (7, (vi 0)), (6, (vw 0)), (3, (vp 2732 0)), (0, v16x9), (1, (vi 24)), (2, (vi 8))],
  ⟨[(2732, (.cells [(vp 1 0), (vi 4160), (vi 32)]))],
  [(2187, (.cells [(.string (.mk (.mk [(UInt8.ofNat 100)])))])), (2186, (.cells [(vb 100)])), (1203, o16x4), (337, o16x0), (324, o16x5), (313, o16x7), (312, (.cells [(vi 0), (vi 0), (.bool true)])), (2, o16x3), (1, (.ext (.mk [(some q16x0), (some 0x800000000000000040000000000002030000000000000200000000000000000000000000000000000000000000000001000000000000000000000000000000000000000000000000000000000000000000000000000000000), (some 0x6463626100000000000000000000000000000004000000000000000000000000000000000000000000000001000000004b4e4843), none, none, none, none, none, none, none, none, none, none, none, none, none, none, none, none, none] false 0)))], 2734⟩⟩
set_option maxRecDepth 1000000 in
theorem t16_3 : machS F1 cleanT (hookL h15a) 15000 s16_2 = some (s16_3 : Ms Ar) := by kernel_rfl
noncomputable def s16_4 : Ms Ar := ⟨1000, [], .norm,
  [(0, (.bool true))],
  ⟨[],
  [], 3510⟩⟩
set_option maxRecDepth 1000000 in
theorem t16_4 : machS F1 cleanT (hookL h15a) 15000 s16_3 = some (s16_4 : Ms Ar) := by kernel_rfl
theorem r16 : ∃ h', run F1 cleanT (hookL h15a) 1000 29 [] (⟨[], 0⟩ : Hp Ar) = some (.bool true, h') := by
  have h0 := Ms.call_den (F := F1) (clean := cleanT) (hook := hookL h15a) 1000 29 (⟨[], 0⟩ : Hp Ar)
  rw [machS_den t16_1] at h0
  rw [machS_den t16_2] at h0
  rw [machS_den t16_3] at h0
  rw [machS_den t16_4] at h0
  exact ⟨_, h0.symm.trans (Ms.end_den rfl)⟩
theorem h16a_ok {W0 : World} {Cls : Nat → Int → Prop} (hT : Tabs W0) : ∀ x ∈ h16a, HookOk (Ext1 Cls) PZ W0 x.1 x.2 := next_ok (h15a_ok hT) r16
end Go.AI
