/- What the states of several reckonings share. -/
import Derived.Test.YtleknndhobpjcaaGreatDoorKCk
namespace Go.AI
open Go.Proofs
def qTWq0 : Nat := 0x1000000000000000000000000000000000000000000000000000000000000000000000000000000000
def qTWq1 : Nat := 0x30303030000000000000000000000000000000000000000000000000000000000000000000000000000000000000000000000000000000000000000000000000000000000000000000000000000000000000000000000000000000000000000000000000000000000000000000000000000000000000000000000000000000000000000000000000000000000000000000000000059444455424c494d0000000000000004000000000000000000000000000000000000000000000000000000000000000000000000000000000000000000000000000000000000000000000000000000000000000000000000000000000000000000000000000000000000000000000000
def qTWq2 : Nat := 0x6e010000000000000000000000000000000000000000000000000000000000004000000000000000000000000000000000000000000045444f4e0000000000000000000000000000000000000000000000000000000000000000000000000000000000000000000000000000000000000000000000000000000000000000000000000000000000000000000000000000000000000000000000000000000000000003000000000000000000000000000000000000000000000003000000004b4e4843
def qTWq3 : Nat := 0x6e010000000000000000000000000000000000000000000000000000000000002000000000000000000000000000000000000000000045444f4e0000000000000000000000000000000000000000000000000000000000000000000000000000000000000000000000000000000000000000000000000000000000000000000000000000000000000000000000000000000000000000000000000000000000000001000000000000000000000000000000000000000000000001000000004b4e4843
def qTWq4 : Nat := 0x6e010000000000000000000000000000000000000000000000000000000000003000000000000000000000000000000000000000000045444f4e0000000000000000000000000000000000000000000000000000000000000000000000000000000000000000000000000000000000000000000000000000000000000000000000000000000000000000000000000000000000000000000020000000000000000002000000000000000000000000000000000000000000000002000000004b4e4843
def qTWq5 : Nat := 0x6e010000000000000000000000000000000000000000000000000000000000002000000000000000000000000000000000000000000045444f4e0000000000000000000000000000000000000000000000000000000000000000000000000000000000000000000000000000000000000000000000000000000000000000000000000000000000003000000000000000300000000000000000000000000000000001000000000000000000000000000000000000000000000001000000004b4e4843
def qTWq6 : Nat := 0x6e010000000000000000000000000000000000000000000000000000000000003000000000000000000000000000000000000000000045444f4e0000000000000000000000000000000000000000000000000000000000000000000000000000000000000000000000000000000000000000000000000000000000000000000000000000000000000000000000000000000000000000000000000000000000000002000000000000000000000000000000000000000000000002000000004b4e4843
def qTWq7 : Nat := 0x303030000000000000000000000000000000000000000000000000000000000000000000000000000000000000000000000000000000000000000000000000000000000000000000000000000000000000000000000000000000000000000000000000000000000000000000000000000000000000000000000000000000000000000000000000000000000000000000000000059444455424c494d0000000000000003000000000000000000000000000000000000000000000000000000000000000000000000000000000000000000000000000000000000000000000000000000000000000000000000000000000000000000000000000000000000000000000000
def qTWq8 : Nat := 0x3030000000000000000000000000000000000000000000000000000000000000000000000000000000000000000000000000000000000000000000000000000000000000000000000000000000000000000000000000000000000000000000000000000000000000000000000000000000000000000000000000000000000000000000000000000000000000000000000000059444455424c494d0000000000000002000000000000000000000000000000000000000000000000000000000000000000000000000000000000000000000000000000000000000000000000000000000000000000000000000000000000000000000000000000000000000000000000
def qTWq9 : Nat := 0x45444f4e0000000000000000000000000000000000000000000000000000000000000000000000000000000000000000000000000000000000000000000000000000000000000000000000000000000000000000000000000000000000000000000000000000000000000000000000000000000000000000000000000000000000000001000000004b4e4843
def qTWq10 : Nat := 0x6e010000000000000000000000000000000000000000000000000000000000002000000000000000000000000000000000000000000045444f4e0000000000000000000000000000000000000000000000000000000000000000000000000000000000000000000000000000000000000000000000000000000000000000000000000000000000003000000000000000000000000000000000000000000000000001000000000000000000000000000000000000000000000001000000004b4e4843
def qTWq11 : Nat := 0x2000000000000000000000000000000000000000000045444f4e0000000000000000000000000000000000000000000000000000000000000000000000000000000000000000000000000000000000000000000000000000000000000000000000000000000000000000000000000000000000000000000000000000000000000001000000000000000000000000000000000000000000000001000000004b4e4843
noncomputable def vTWq0 : Value := (.string (.mk (.mk [(UInt8.ofNat 0), (UInt8.ofNat 0), (UInt8.ofNat 0), (UInt8.ofNat 0), (UInt8.ofNat 0), (UInt8.ofNat 0), (UInt8.ofNat 0), (UInt8.ofNat 0), (UInt8.ofNat 0), (UInt8.ofNat 0), (UInt8.ofNat 0), (UInt8.ofNat 0), (UInt8.ofNat 0), (UInt8.ofNat 0), (UInt8.ofNat 0), (UInt8.ofNat 0), (UInt8.ofNat 0), (UInt8.ofNat 0), (UInt8.ofNat 0), (UInt8.ofNat 0), (UInt8.ofNat 0), (UInt8.ofNat 0), (UInt8.ofNat 0), (UInt8.ofNat 0)])))
noncomputable def vTWq1 : Value := (.string (.mk (.mk [(UInt8.ofNat 67), (UInt8.ofNat 72), (UInt8.ofNat 78), (UInt8.ofNat 75), (UInt8.ofNat 0), (UInt8.ofNat 0), (UInt8.ofNat 0), (UInt8.ofNat 0), (UInt8.ofNat 1), (UInt8.ofNat 0), (UInt8.ofNat 0), (UInt8.ofNat 0), (UInt8.ofNat 0), (UInt8.ofNat 0), (UInt8.ofNat 0), (UInt8.ofNat 0), (UInt8.ofNat 0), (UInt8.ofNat 0), (UInt8.ofNat 0), (UInt8.ofNat 0), (UInt8.ofNat 0), (UInt8.ofNat 0), (UInt8.ofNat 0), (UInt8.ofNat 0)])))
noncomputable def vTWq2 : Value := (.agg (.mk (ap [(vp 324 0), (vp 1 0), (vi 8352), (vi 32), (vw 1), (vp 1 0), (vi 8352), (vi 32), (vi 1024), (vp 1 0), (vi 8224), (vi 992)] [])))
noncomputable def vTWq3 : Value := (.agg (.mk [(.slice (some (.mk 1427 0 none)) 4 4)]))
noncomputable def vTWq4 : Value := (.agg (.mk (ap [(vp 325 0), (vp 2 0), (vi 8352), (vi 32), (vw 1), (vp 2 0), (vi 8352), (vi 32), (vi 1024), (vp 2 0), (vi 8224), (vi 992)] [])))
noncomputable def vTWq5 : Value := (.agg (.mk [(vp 1 0), (vi 12288), (vi 32)]))
noncomputable def vTWq6 : Value := (.slice (some (.mk 2710 0 none)) 3 3)
noncomputable def vTWq7 : Value := (.agg (.mk [(vi 8192), (vi 0), (vw 1), (vi 0)]))
noncomputable def vTWq8 : Value := (.agg (.mk [(vp 324 0)]))
noncomputable def vTWq9 : Value := (.agg (.mk (ap [(.pointer none), (.pointer none), (vi 0), (vi 0), (vw 0), (.pointer none), (vi 0), (vi 0), (vi 0), (.pointer none), (vi 0), (vi 0)] [])))
noncomputable def vTWq10 : Value := (.string (.mk (.mk [(UInt8.ofNat 67), (UInt8.ofNat 72), (UInt8.ofNat 78), (UInt8.ofNat 75), (UInt8.ofNat 0), (UInt8.ofNat 0), (UInt8.ofNat 0), (UInt8.ofNat 0), (UInt8.ofNat 3), (UInt8.ofNat 0), (UInt8.ofNat 0), (UInt8.ofNat 0), (UInt8.ofNat 0), (UInt8.ofNat 0), (UInt8.ofNat 0), (UInt8.ofNat 0), (UInt8.ofNat 0), (UInt8.ofNat 0), (UInt8.ofNat 0), (UInt8.ofNat 0), (UInt8.ofNat 0), (UInt8.ofNat 0), (UInt8.ofNat 0), (UInt8.ofNat 0)])))
noncomputable def vTWq11 : Value := (.agg (.mk [(vp 1 0), (vi 8192), (vi 32)]))
noncomputable def vTWq12 : Value := (.agg (.mk (ap [(vp 325 0), (vp 2 0), (vi 12448), (vi 32), (vw 2), (vp 2 0), (vi 12448), (vi 32), (vi 1024), (vp 2 0), (vi 12320), (vi 992)] [])))
noncomputable def vTWq13 : Value := (.string (.mk (.mk [(UInt8.ofNat 110)])))
noncomputable def vTWq14 : Value := (.slice (some (.mk 2219 0 none)) 4 4)
noncomputable def vTWq15 : Value := (.tuple (.mk [(vp 337 0), vTWq6, (.bool true)]))
noncomputable def vTWq16 : Value := (.agg (.mk [(.slice (some (.mk 5996 0 none)) 4 4)]))
noncomputable def vTWq17 : Value := (.agg (.mk [(vi 12288), (vi 0), (vw 2), (vi 0)]))
noncomputable def vTWq18 : Value := (.agg (.mk [(vp 325 0)]))
noncomputable def vTWq19 : Value := (.agg (.mk [(vp 2 0), (vi 8224), (vi 992)]))
noncomputable def vTWq20 : Value := (.slice (some (.mk 2711 0 none)) 3 3)
noncomputable def vTWq21 : Value := (.slice none 0 0)
noncomputable def vTWq22 : Value := (.slice (some (.mk 1420 0 none)) 4 4)
noncomputable def vTWq23 : Value := (.tuple (.mk [(vi 0), (.bool false)]))
noncomputable def vTWq24 : Value := (.slice (some (.mk 1427 0 none)) 4 4)
noncomputable def vTWq25 : Value := (.agg (.mk (ap [(vp 324 0), (vp 1 0), (vi 12448), (vi 32), (vw 2), (vp 1 0), (vi 12448), (vi 32), (vi 1024), (vp 1 0), (vi 12320), (vi 992)] [])))
noncomputable def vTWq26 : Value := (.agg (.mk [(vp 2 0), (vi 12320), (vi 992)]))
noncomputable def vTWq27 : Value := (.agg (.mk [(vp 2 0), (vi 16384), (vi 32)]))
noncomputable def vTWq28 : Value := (.tuple (.mk [vTWq7, (vi 0)]))
noncomputable def vTWq29 : Value := (.tuple (.mk [(vp 337 0), (.bool true)]))
noncomputable def vTWq30 : Value := (.slice (some (.mk 5129 0 none)) 4 4)
noncomputable def vTWq31 : Value := (.slice (some (.mk 1128 0 none)) 1 1)
noncomputable def vTWq32 : Value := (.pointer none)
noncomputable def vTWq33 : Value := (.agg (.mk [(vp 1 0), (vi 16384), (vi 32)]))
noncomputable def vTWq34 : Value := (.agg (.mk [(vp 324 0), (vp 1 0), (vi 8352), (vi 32), (vw 1)]))
noncomputable def vTWq35 : Value := (.agg (.mk [(.slice (some (.mk 1000 0 none)) 4 4)]))
noncomputable def vTWq36 : Value := (.slice (some (.mk 6120 0 none)) 4 4)
noncomputable def vTWq37 : Value := (.string (.mk (.mk [(UInt8.ofNat 1), (UInt8.ofNat 110)])))
noncomputable def vTWq38 : Value := (.tuple (.mk [(.agg (.mk [(vp 1 0), (vi 8224), (vi 992)])), (vi 0)]))
noncomputable def vTWq39 : Value := (.tuple (.mk [vTWq2, (vi 0)]))
noncomputable def vTWq40 : Value := (.tuple (.mk [(vp 338 0), (.bool true)]))
noncomputable def vTWq41 : Value := (.agg (.mk [vTWq14]))
noncomputable def vTWq42 : Value := (.slice (some (.mk 5996 0 none)) 4 4)
noncomputable def vTWq43 : Value := (.slice (some (.mk 2212 0 none)) 4 4)
noncomputable def vTWq44 : Value := (.tuple (.mk [(vi 12288), (vi 0)]))
noncomputable def vTWq45 : Value := (.tuple (.mk [vTWq5, (vi 0)]))
noncomputable def vTWq46 : Value := (.tuple (.mk [vTWq4, (vi 0)]))
noncomputable def vTWq47 : Value := (.tuple (.mk [vTWq0, (vi 0)]))
noncomputable def vTWq48 : Value := (.slice (some (.mk 6131 0 none)) 1 1)
noncomputable def vTWq49 : Value := (.slice (some (.mk 1129 0 none)) 1 1)
noncomputable def vTWq50 : Value := (.agg (.mk [(vp 1 0), (vi 4096), (vi 64)]))
noncomputable def vTWq51 : Value := (.tuple (.mk [(vp 338 0), vTWq20, (.bool true)]))
noncomputable def vTWq52 : Value := (.agg (.mk [(vi 16384), (vi 0), (vw 3), (vi 0)]))
noncomputable def vTWq53 : Value := (.agg (.mk [(vi 12288), (vi 0), (vw 0), (vi 0)]))
noncomputable def vTWq54 : Value := (.tuple (.mk []))
noncomputable def vTWq55 : Value := (.slice (some (.mk 1127 0 none)) 1 1)
noncomputable def vTWq56 : Value := (.tuple (.mk [vTWq11, (vi 0)]))
noncomputable def vTWq57 : Value := (.tuple (.mk [vTWq9, (vi 7)]))
noncomputable def vTWq58 : Value := (.tuple (.mk [vTWq1, (vi 0)]))
noncomputable def vTWq59 : Value := (.agg (.mk [vTWq30]))
noncomputable def vTWq60 : Value := (.slice (some (.mk 6352 0 none)) 2 2)
noncomputable def vTWq61 : Value := (.slice (some (.mk 1920 0 none)) 2 2)
noncomputable def vTWq62 : Value := (.slice (some (.mk 993 0 none)) 4 4)
noncomputable def vTWq63 : Value := (.tuple (.mk [(vi 16384), (vi 0)]))
noncomputable def vTWq64 : Value := (.agg (.mk [(vp 1 0), (vi 4096), (vi 32)]))
noncomputable def vTWq65 : Value := (.tuple (.mk [vTWq27, (vi 0)]))
noncomputable def vTWq66 : Value := (.tuple (.mk [vTWq26, (vi 0)]))
noncomputable def vTWq67 : Value := (.tuple (.mk [vTWq17, (vi 0)]))
noncomputable def vTWq68 : Value := (.tuple (.mk [vTWq12, (vi 0)]))
noncomputable def vTWq69 : Value := (.agg (.mk [(vp 1 0), (vi 0), (vi 32)]))
noncomputable def oTWq0 : AObj Ar := (.cells (ap [(vp 324 0), (vi 1), (vi 29), (vi 1), (.int .i64 (.negSucc 0)), (.slice (some (.mk 313 0 none)) 1 1), vTWq21, vTWq21, vTWq21, vTWq21, vTWq21, (vi 16), vTWq21, vTWq21] []))
noncomputable def oTWq1 : AObj Ar := (.ext (.mk [(some qTWq1), (some qTWq0), (some qTWq5), (some qTWq4), (some qTWq2), none, none, none, none, none, none, none, none, none, none, none, none, none, none, none, none, none, none, none, none, none, none, none, none, none] false 0))
noncomputable def oTWq2 : AObj Ar := (.cells (ap [vTWq32, vTWq32, (vi 0), (vi 0), (vw 0), vTWq32, (vi 0), (vi 0), (vi 0), vTWq32, (vi 0), (vi 0)] []))
noncomputable def oTWq3 : AObj Ar := (.cells (ap [(vp 1 0), (vi 1), (vi 29), (vp 1 0), (vi 0), (vi 256), (vp 1 0), (vi 0), (vi 88), (vp 1 0), (vi 257), (vi 29)] []))
noncomputable def oTWq4 : AObj Ar := (.cells (ap [(vp 325 0), (vi 1), (vi 29), (vi 1), (.int .i64 (.negSucc 0)), (.slice (some (.mk 314 0 none)) 1 1), vTWq21, vTWq21, vTWq21, vTWq21, vTWq21, (vi 16), vTWq21, vTWq21] []))
noncomputable def oTWq5 : AObj Ar := (.cells [(vp 2 0), (vp 1 0), (vi 4096), (vi 64), (vp 1 0), (vi 4096), (vi 64)])
noncomputable def oTWq6 : AObj Ar := (.grown 3 314 [(vi 0), (vi 0), (.bool true)])
noncomputable def oTWq7 : AObj Ar := (.cells (ap [(vp 2 0), (vi 1), (vi 29), (vp 2 0), (vi 0), (vi 256), (vp 2 0), (vi 0), (vi 88), (vp 2 0), (vi 257), (vi 29)] []))
noncomputable def oTWq8 : AObj Ar := (.ext (.mk [(some qTWq1), (some qTWq0), (some qTWq3), (some qTWq6), (some qTWq2), none, none, none, none, none, none, none, none, none, none, none, none, none, none, none, none, none, none, none, none, none, none, none, none, none] false 0))
noncomputable def oTWq9 : AObj Ar := (.grown 1 3 [(vi 8192), (vi 12288), (vi 16384)])
noncomputable def oTWq10 : AObj Ar := (.ext (.mk [(some qTWq7), (some qTWq0), (some qTWq3), (some 1263421507), none, none, none, none, none, none, none, none, none, none, none, none, none, none, none, none, none, none, none, none, none, none, none, none, none, none] false 0))
noncomputable def oTWq11 : AObj Ar := (.ext (.mk [(some qTWq7), (some qTWq0), (some qTWq3), (some 0), none, none, none, none, none, none, none, none, none, none, none, none, none, none, none, none, none, none, none, none, none, none, none, none, none, none] false 0))
noncomputable def oTWq12 : AObj Ar := (.cells [(vp 3 0), (vp 2 0), (vi 4096), (vi 64), (vp 2 0), (vi 4096), (vi 64)])
noncomputable def oTWq13 : AObj Ar := (.ext (.mk [(some qTWq1), (some qTWq0), (some qTWq3), (some qTWq6), (some 0), none, none, none, none, none, none, none, none, none, none, none, none, none, none, none, none, none, none, none, none, none, none, none, none, none] false 0))
noncomputable def oTWq14 : AObj Ar := (.grown 1 3 [(vi 4), (vi 4), (vi 8), (vi 8)])
noncomputable def oTWq15 : AObj Ar := (.cells [(vi 4), (vi 4), (vi 8), (vi 8)])
noncomputable def oTWq16 : AObj Ar := (.ext (.mk [(some qTWq8), (some qTWq0), (some qTWq9), none, none, none, none, none, none, none, none, none, none, none, none, none, none, none, none, none, none, none, none, none, none, none, none, none, none, none] false 0))
noncomputable def oTWq17 : AObj Ar := (.ext (.mk [(some qTWq1), (some qTWq0), (some qTWq10), (some qTWq4), (some qTWq2), none, none, none, none, none, none, none, none, none, none, none, none, none, none, none, none, none, none, none, none, none, none, none, none, none] false 0))
noncomputable def oTWq18 : AObj Ar := (.cells [(vi 0), (vi 0), (vw 0), (vi 0)])
noncomputable def oTWq19 : AObj Ar := (.cells [(vi 12288), (vi 0), (vw 2), (vi 0)])
noncomputable def oTWq20 : AObj Ar := (.cells [(vi 8192), (vi 0), (vw 1), (vi 0)])
noncomputable def oTWq21 : AObj Ar := (.cells (ap [(vp 324 0), (vp 1 0), (vi 8352), (vi 32), (vw 1), (vp 1 0), (vi 8352), (vi 32), (vi 1024), (vp 1 0), (vi 8224), (vi 992)] []))
noncomputable def oTWq22 : AObj Ar := (.cells [(vw 1263421507), (vw 0), (vw 2), (vw 0)])
noncomputable def oTWq23 : AObj Ar := (.cells [vTWq24])
noncomputable def oTWq24 : AObj Ar := (.cells (ap [(vp 325 0), (vp 2 0), (vi 8352), (vi 32), (vw 1), (vp 2 0), (vi 8352), (vi 32), (vi 1024), (vp 2 0), (vi 8224), (vi 992)] []))
noncomputable def oTWq25 : AObj Ar := (.ext (.mk [(some qTWq8), (some qTWq0), (some qTWq11), none, none, none, none, none, none, none, none, none, none, none, none, none, none, none, none, none, none, none, none, none, none, none, none, none, none, none] false 0))
noncomputable def oTWq26 : AObj Ar := (.cells [(vi 16384), (vi 0), (vw 3), (vi 0)])
noncomputable def oTWq27 : AObj Ar := (.cells [vTWq42])
noncomputable def oTWq28 : AObj Ar := (.cells [vTWq14])
noncomputable def oTWq29 : AObj Ar := (.cells [(vw 1263421507), (vw 0), (vw 3), (vw 0)])
noncomputable def oTWq30 : AObj Ar := (.cells (ap [(vp 325 0), (vp 2 0), (vi 12448), (vi 32), (vw 2), (vp 2 0), (vi 12448), (vi 32), (vi 1024), (vp 2 0), (vi 12320), (vi 992)] []))
noncomputable def oTWq31 : AObj Ar := (.cells [(vw 1263421507), (vw 0), (vw 1), (vw 0)])
noncomputable def oTWq32 : AObj Ar := (.cells [vTWq30])
noncomputable def oTWq33 : AObj Ar := (.cells [(vp 324 0), (vp 1 0), (vi 8352), (vi 32), (vw 1)])
noncomputable def oTWq34 : AObj Ar := (.cells [(vp 2 0), (vi 12320), (vi 992)])
noncomputable def oTWq35 : AObj Ar := (.cells [(.slice (some (.mk 1000 0 none)) 4 4)])
noncomputable def oTWq36 : AObj Ar := (.cells [vTWq32, (vi 0), (vi 0)])
end Go.AI
/- A reckoning, piece by piece. -/
namespace Go.AI
open Go.Proofs
noncomputable def sTWA_1 : Ms Ar := ⟨994, [(.code (cdF F1 229 [1, 0, 0, 0])),
    (.code (cdF F1 229 [1, 0, 0, 1])),
    (.block 0),
    (.code (cdF F1 229 [1, 1])),
    (.ret 229 995 (some 12) [(11, (vi 2)), (10, vTWq37), (9, (vi 160)), (8, vTWq19), (6, (vi 0)), (3, (vp 1123 0)), (0, vTWq19), (1, (vi 160)), (2, vTWq37)] [(1123, (.cells [(vp 2 0), (vi 8224), (vi 992)]))] 1124 (cdR F1 229)),
    (.ops (cdO F1 282 [1, 0, 0] 5)),
    (.code (cdF F1 282 [1, 0, 1])),
    (.code (cdF F1 282 [1, 1])),
    (.ret 282 996 (some 35) [(34, vTWq37), (33, vTWq13), (32, (.string (.mk (.mk [(UInt8.ofNat 1)])))), (31, (.slice (some (.mk 1122 0 none)) 1 1)), (30, (vb 1)), (29, (vi 1)), (28, vTWq13), (27, (vi 160)), (26, vTWq19), (24, (.bool false)), (23, (vi 0)), (9, (vi 0)), (22, (vi 0)), (21, (vi 16)), (20, (vi 160)), (19, vTWq19), (14, (.bool false)), (18, (.bool false)), (17, (vi 16)), (16, (vi 1)), (15, vTWq13), (10, (.bool false)), (13, (.bool false)), (12, (.bool true)), (11, (vi 16)), (8, (vi 0)), (4, (vp 1118 0)), (0, vTWq19), (1, (vi 160)), (2, (vi 16)), (3, vTWq13)] [(1118, (.cells [(vp 2 0), (vi 8224), (vi 992)]))] 1123 (cdR F1 282)),
    (.ops (cdO F1 219 [1, 1, 1, 0] 10)),
    (.code (cdF F1 219 [1, 0, 0, 1, 0, 1])),
    (.ret 219 997 (some 63) [(62, vTWq13), (61, vTWq19), (60, (vp 788 9)), (59, vTWq54), (58, (vw 1)), (57, vTWq4), (56, (vi 0)), (55, (vi 8192)), (54, (vp 746 0)), (53, (.agg (.mk [(vp 325 0), (vp 2 0), (vi 8352), (vi 32), (vw 1)]))), (52, (vp 788 0)), (51, (vp 788 0)), (50, (vp 788 0)), (49, (vi 0)), (48, vTWq19), (47, (vp 788 9)), (46, (vi 0)), (45, vTWq19), (44, (vp 788 9)), (13, (vi 0)), (12, (vp 788 0)), (43, (vi 0)), (42, vTWq4), (38, vTWq46), (41, vTWq46), (40, vTWq7), (39, (vp 325 0)), (35, (.bool false)), (34, (vi 0)), (11, (vi 0)), (10, (vp 746 0)), (33, (vi 0)), (32, vTWq7), (27, vTWq28), (31, vTWq28), (30, (vw 1)), (29, (vi 0)), (28, (vp 325 0)), (22, (.bool false)), (25, (.bool false)), (24, (vi 1)), (23, vTWq13), (18, (.bool false)), (20, (.bool false)), (19, (vw 1)), (14, (.bool false)), (16, (.bool false)), (15, (vp 325 0)), (9, (vi 0)), (8, (vp 339 0)), (0, (vp 325 0)), (1, (vi 0)), (2, (vw 1)), (3, vTWq13)] [(788, oTWq24), (746, oTWq20), (339, oTWq2)] 1118 (cdR F1 219)),
    (.ops []),
    (.code (cdF F1 132 [1, 1, 1, 1, 1, 1, 1, 1, 1, 1])),
    (.ret 132 998 (some 29) [(28, (vw 1)), (27, (vi 1)), (26, (vi 0)), (25, (vp 325 0)), (24, (vp 338 0)), (23, (vp 338 0)), (22, (vp 338 0)), (8, (vi 0)), (20, (vi 0)), (19, (.bool true)), (18, (vi 0)), (17, (vi 3)), (16, (vi 3)), (15, (vi 3)), (7, vTWq21), (6, (.bool true)), (5, (vp 338 0)), (14, (.bool true)), (13, (vp 338 0)), (11, vTWq40), (12, vTWq40), (4, (.bool false)), (3, vTWq21), (2, vTWq32), (0, (vi 3))] [] 339 (cdR F1 132)),
    (.ops (cdO F1 60 [1, 1, 1, 0, 1, 0, 0, 1, 1, 0, 0, 1, 0] 8)),
    (.code (cdF F1 60 [1, 1, 1, 0, 1, 0, 0, 1, 1, 0, 0, 1, 1])),
    (.block 1),
    (.code (cdF F1 60 [1, 1, 1, 0, 1, 0, 0, 1, 1, 1])),
    (.loop (cdF F1 60 [1, 1, 1, 0, 1, 0, 0]) 997),
    (.block 0),
    (.code (cdF F1 60 [1, 1, 1, 1])),
    (.ret 60 999 (some 13) [(11, (.bool false)), (10, (.bool true)), (2, (.bool false)), (0, (.chan (some 0)))] [] 1 (cdR F1 60)),
    (.ops (cdO F1 7 [1, 1, 0] 1)),
    (.code (cdF F1 7 [1, 1, 1])),
    (.ret 7 1000 (some 0) [] [] 1 (cdR F1 7)),
    (.ops [])], .norm,
  [(6, (vi 0)), (3, (vp 1124 0)), (0, vTWq19), (1, (vi 160)), (2, (vi 2))],
  ⟨[(1124, (.cells [(vp 2 0), (vi 8224), (vi 992)]))],
  [(1122, (.cells [(vb 1)])), (338, oTWq4), (325, oTWq12), (314, oTWq6), (313, (.cells [(vi 0), (vi 0), (.bool true)])), (3, oTWq7), (2, oTWq25), (0, (.ext (.mk [] true 9223372036854775808)))], 1125⟩⟩
set_option maxRecDepth 1000000 in
theorem tTWA_1 : machS F1 cleanT (hookL hTW) 22000 (Ms.callA 1000 7 [.chan (some 0)] ⟨[(0, tkO kA)], 1⟩ : Ms Ar) = some (sTWA_1 : Ms Ar) := by kernel_rfl
noncomputable def sTWA_2 : Ms Ar := ⟨992, [(.ops (cdO F1 294 [1, 1, 0, 1, 0, 0, 1, 1, 0, 0, 1] 2)),
    (.block 1),
    (.code (cdF F1 294 [1, 1, 0, 1, 0, 0, 1, 1, 1])),
    (.loop (cdF F1 294 [1, 1, 0, 1, 0, 0]) 989),
    (.block 0),
    (.code (cdF F1 294 [1, 1, 1])),
    (.ret 294 993 (some 7) [(6, (vi 4)), (5, vTWq14), (4, (vp 2236 0)), (3, vTWq41), (2, (vi 0)), (1, (vp 2236 0)), (0, vTWq41)] [(2236, oTWq28)] 2237 (cdR F1 294)),
    (.ops (cdO F1 232 [1, 0] 5)),
    (.code (cdF F1 232 [1, 1])),
    (.ret 232 994 (some 0) [] [(2222, (.cells [(vp 2 0), (vi 16384), (vi 32)])), (2221, oTWq28)] 2236 (cdR F1 232)),
    (.drc (cdD F1 205 [1, 1, 1, 0, 0]) (cdB F1 205 [1, 1, 1, 0, 0]) (List.drop 3 (cdD F1 205 [1, 1, 1, 0, 0])) 2227 2 (some 35) [(22, (.bool false)), (21, (vi 4)), (31, (vi 4)), (30, (.bool false)), (29, (.bool true)), (28, (vw 0)), (27, (vi 3)), (26, vTWq41), (8, (vw 0)), (7, (vi 3)), (25, (vw 0)), (24, (vp 2212 3)), (23, (vi 3)), (22, (.bool true)), (21, (vi 3)), (31, (vi 3)), (30, (.bool false)), (29, (.bool true)), (28, (vw 3)), (27, (vi 2)), (26, vTWq41), (8, (vw 3)), (7, (vi 2)), (25, (vw 3)), (24, (vp 2212 2)), (23, (vi 2)), (22, (.bool true)), (21, (vi 2)), (31, (vi 2)), (30, (.bool false)), (29, (.bool true)), (28, (vw 0)), (27, (vi 1)), (26, vTWq41), (8, (vw 0)), (7, (vi 1)), (25, (vw 0)), (24, (vp 2212 1)), (23, (vi 1)), (22, (.bool true)), (20, (vi 4)), (19, vTWq43), (18, (.bool false)), (17, (vi 4)), (16, vTWq14), (15, (vp 2221 0)), (14, (vi 4)), (13, vTWq43), (6, (vi 0)), (4, (vp 2222 0)), (3, (vp 2221 0)), (0, vTWq41), (1, vTWq27), (2, vTWq43)] (.mk [(1, ((some 34), vTWq41)), (0, ((some 33), vTWq27))] [(.mk [(2222, (.cells [(vp 2 0), (vi 16384), (vi 32)])), (2221, oTWq28)] [(2212, oTWq29), (2219, oTWq14), (2218, (.cells [])), (2216, oTWq15), (1920, (.grown 1 3 [(vi 8192), (vi 12288)])), (1919, (.cells [(vi 12288)])), (1128, (.cells [(vi 8192)])), (338, oTWq4), (325, oTWq12), (314, oTWq6), (313, (.cells [(vi 0), (vi 0), (.bool true)])), (3, oTWq7), (2, oTWq13), (0, (.ext (.mk [] true 9223372036854775808)))] 2236)] [] [] [(1, ((.mk 2221 0 none), (1, [vTWq14]))), (0, ((.mk 2222 0 none), (3, [(vp 2 0), (vi 16384), (vi 32)])))])),
    (.code (cdF F1 205 [1, 1, 1, 0, 1])),
    (.code (cdF F1 205 [1, 1, 1, 1])),
    (.ret 205 995 (some 0) [] [(2201, (.cells [(vp 2 0), (vi 16384), (vi 32)])), (2199, oTWq26)] 2221 (cdR F1 205)),
    (.drc (cdD F1 270 [1, 1, 1, 1, 0]) (cdB F1 270 [1, 1, 1, 1, 0]) (List.drop 12 (cdD F1 270 [1, 1, 1, 1, 0])) 2202 11 (some 52) [(39, (.bool false)), (38, (vi 0)), (6, (vi 0)), (5, (vp 2201 0)), (37, (vi 0)), (36, vTWq27), (31, vTWq65), (35, vTWq65), (34, (vi 16384)), (33, (vp 2199 0)), (32, (vp 2 0)), (10, (.bool false)), (30, (.bool false)), (29, (.bool false)), (28, (vi 4096)), (27, (vi 0)), (26, (vp 2199 1)), (25, (.bool false)), (24, (.bool false)), (23, (.bool false)), (22, (vi 0)), (21, (vp 2199 3)), (20, (.bool false)), (19, (.bool false)), (18, (.bool false)), (17, (vi 0)), (16, (vi 16384)), (15, (vp 2199 0)), (14, (.bool false)), (13, (.bool false)), (12, (vi 16384)), (11, (vp 2199 0)), (7, (.bool false)), (9, (.bool false)), (8, (vp 2 0)), (4, (vi 0)), (3, (vp 2199 0)), (0, (vp 2 0)), (1, vTWq52)] (.mk [(10, ((some 51), vTWq43)), (9, ((some 50), (vw 0))), (8, ((some 49), (vi 0))), (7, ((some 48), (vp 2199 3))), (6, ((some 47), (vw 3))), (5, ((some 46), (vp 2199 2))), (4, ((some 45), (vw 0))), (3, ((some 44), (vi 0))), (2, ((some 43), (vp 2199 1))), (1, ((some 42), vTWq27)), (0, ((some 41), vTWq41))] [(.mk [(2201, (.cells [(vp 2 0), (vi 16384), (vi 32)])), (2199, oTWq26)] [(2219, oTWq14), (2218, (.cells [])), (2216, oTWq15), (1920, (.grown 1 3 [(vi 8192), (vi 12288)])), (1919, (.cells [(vi 12288)])), (1128, (.cells [(vi 8192)])), (338, oTWq4), (325, oTWq12), (314, oTWq6), (313, (.cells [(vi 0), (vi 0), (.bool true)])), (3, oTWq7), (2, oTWq13), (0, (.ext (.mk [] true 9223372036854775808)))] 2221), (.mk [(2201, (.cells [(vp 2 0), (vi 16384), (vi 32)])), (2199, oTWq26)] [(1920, (.grown 1 3 [(vi 8192), (vi 12288)])), (1919, (.cells [(vi 12288)])), (1128, (.cells [(vi 8192)])), (338, oTWq4), (325, oTWq12), (314, oTWq6), (313, (.cells [(vi 0), (vi 0), (.bool true)])), (3, oTWq7), (2, oTWq13), (0, (.ext (.mk [] true 9223372036854775808)))] 2215)] [0] [(10, (true, oTWq29))] [(8, ((.mk 2199 3 none), (1, [(vi 0)]))), (6, ((.mk 2199 2 none), (1, [(vw 3)]))), (3, ((.mk 2199 1 none), (1, [(vi 0)]))), (1, ((.mk 2201 0 none), (3, [(vp 2 0), (vi 16384), (vi 32)])))])),
    (.code (cdF F1 270 [1, 0, 0, 1, 0, 1])),
    (.ret 270 996 (some 0) [] [(1923, oTWq26), (1922, oTWq18)] 2199 (cdR F1 270)),
    (.drc (cdD F1 216 [1, 1, 1, 1, 1, 0]) (cdB F1 216 [1, 1, 1, 1, 1, 0]) (List.drop 9 (cdD F1 216 [1, 1, 1, 1, 1, 0])) 2190 8 (some 71) [(62, (vp 1923 2)), (61, (vw 3)), (60, (.agg (.mk [(vi 16384), (vi 0), (vw 0), (vi 0)]))), (59, (vi 0)), (58, (vi 16384)), (55, (.bool false)), (54, (vi 0)), (12, (vi 0)), (11, (vi 16384)), (53, (vi 0)), (52, (vi 16384)), (48, vTWq63), (51, vTWq63), (50, (vi 0)), (49, (vp 325 0)), (38, (.bool false)), (10, (.bool false)), (9, (vi 0)), (37, (.bool false)), (36, (vi 0)), (29, vTWq23), (35, vTWq23), (34, (vi 0)), (33, (.agg (.mk [(vp 2 0), (vi 4096), (vi 64)]))), (32, (vp 325 4)), (31, (vp 325 0)), (30, (vp 325 0)), (8, (vp 1923 0)), (17, (.bool false)), (27, (.bool false)), (26, (.bool false)), (25, (vw 3)), (24, (.bool false)), (23, (.bool false)), (22, (.bool false)), (21, (vi 0)), (20, (.bool false)), (19, (.bool false)), (18, (vi 0)), (13, (.bool false)), (15, (.bool false)), (14, (vp 325 0)), (7, (vi 0)), (6, (vp 1922 0)), (0, (vp 325 0)), (1, (vi 0)), (2, (vw 3))] (.mk [(7, ((some 70), vTWq52)), (6, ((some 69), (vp 2 0))), (5, ((some 68), (vp 3 0))), (4, ((some 67), (vp 3 0))), (3, ((some 66), (vp 3 0))), (2, ((some 65), (vp 325 0))), (1, ((some 64), (vp 325 0))), (0, ((some 63), (vp 325 0)))] [(.mk [(1923, oTWq26), (1922, oTWq18)] [(1920, (.grown 1 3 [(vi 8192), (vi 12288)])), (1919, (.cells [(vi 12288)])), (1128, (.cells [(vi 8192)])), (338, oTWq4), (325, oTWq12), (314, oTWq6), (313, (.cells [(vi 0), (vi 0), (.bool true)])), (3, oTWq7), (2, oTWq13), (0, (.ext (.mk [] true 9223372036854775808)))] 2199)] [] [] [(7, ((.mk 1923 0 none), (4, [(vi 16384), (vi 0), (vw 3), (vi 0)]))), (6, ((.mk 3 0 none), (1, [(vp 2 0)]))), (3, ((.mk 325 0 none), (1, [(vp 3 0)])))])),
    (.code (cdF F1 216 [1, 1, 1, 1, 1, 1])),
    (.ret 216 997 (some 31) [(30, (vw 3)), (29, (vi 0)), (28, (vp 325 0)), (22, (.bool false)), (25, (.bool false)), (24, (vi 1)), (23, vTWq13), (18, (.bool false)), (20, (.bool false)), (19, (vw 3)), (14, (.bool false)), (16, (.bool false)), (15, (vp 325 0)), (9, (vi 0)), (8, (vp 1921 0)), (0, (vp 325 0)), (1, (vi 0)), (2, (vw 3)), (3, vTWq13)] [(1921, oTWq2)] 1922 (cdR F1 216)),
    (.ops (cdO F1 132 [1, 1, 0] 4)),
    (.code (cdF F1 132 [1, 1, 1])),
    (.ret 132 998 (some 29) [(28, (vw 3)), (27, (vi 3)), (26, (vi 2)), (25, (vp 325 0)), (24, (vp 338 0)), (23, (vp 338 0)), (22, (vp 338 0)), (8, (vi 2)), (20, (vi 2)), (19, (.bool true)), (18, (vi 2)), (42, (vi 2)), (7, vTWq61), (41, vTWq61), (40, (.slice (some (.mk 1919 0 none)) 1 1)), (39, (vi 12288)), (38, vTWq12), (37, vTWq49), (6, (.bool true)), (36, (.bool true)), (35, (.bool true)), (34, (vi 0)), (33, (.bool true)), (32, (.bool true)), (10, (vi 0)), (9, (vp 1916 0)), (31, (vi 0)), (30, vTWq12), (21, vTWq68), (29, vTWq68), (28, (vw 2)), (27, (vi 2)), (26, (vi 1)), (25, (vp 325 0)), (24, (vp 338 0)), (23, (vp 338 0)), (22, (vp 338 0)), (8, (vi 1)), (20, (vi 1)), (19, (.bool true)), (18, (vi 1)), (42, (vi 1)), (7, vTWq49), (41, vTWq49), (40, vTWq31), (39, (vi 8192)), (38, vTWq4), (37, vTWq21), (6, (.bool true)), (36, (.bool true)), (35, (.bool true)), (34, (vi 0)), (33, (.bool true)), (32, (.bool true)), (10, (vi 0)), (9, (vp 1125 0)), (31, (vi 0)), (30, vTWq4), (21, vTWq46), (29, vTWq46), (28, (vw 1)), (27, (vi 1)), (26, (vi 0)), (25, (vp 325 0)), (24, (vp 338 0)), (23, (vp 338 0)), (22, (vp 338 0)), (8, (vi 0)), (20, (vi 0)), (19, (.bool true)), (18, (vi 0)), (17, (vi 3)), (16, (vi 3)), (15, (vi 3)), (7, vTWq21), (6, (.bool true)), (5, (vp 338 0)), (14, (.bool true)), (13, (vp 338 0)), (11, vTWq40), (12, vTWq40), (4, (.bool false)), (3, vTWq21), (2, vTWq32), (0, (vi 3))] [(1916, oTWq30), (1125, oTWq24)] 1921 (cdR F1 132)),
    (.ops (cdO F1 60 [1, 1, 1, 0, 1, 0, 0, 1, 1, 0, 0, 1, 0] 8)),
    (.code (cdF F1 60 [1, 1, 1, 0, 1, 0, 0, 1, 1, 0, 0, 1, 1])),
    (.block 1),
    (.code (cdF F1 60 [1, 1, 1, 0, 1, 0, 0, 1, 1, 1])),
    (.loop (cdF F1 60 [1, 1, 1, 0, 1, 0, 0]) 995),
    (.block 0),
    (.code (cdF F1 60 [1, 1, 1, 1])),
    (.ret 60 999 (some 13) [(11, (.bool false)), (10, (.bool true)), (2, (.bool false)), (0, (.chan (some 0)))] [] 1 (cdR F1 60)),
    (.ops (cdO F1 7 [1, 1, 0] 1)),
    (.code (cdF F1 7 [1, 1, 1])),
    (.ret 7 1000 (some 0) [] [] 1 (cdR F1 7)),
    (.ops [])], .norm,
  [(18, (vi 8)), (17, (vi 8)), (7, (vi 8)), (16, (vi 8)), (15, (vp 2219 2)), (14, (.bool true)), (13, (vi 2)), (20, (vi 2)), (5, (vi 8)), (19, (vi 8)), (18, (vi 4)), (17, (vi 4)), (7, (vi 4)), (16, (vi 4)), (15, (vp 2219 1)), (14, (.bool true)), (13, (vi 1)), (20, (vi 1)), (5, (vi 4)), (19, (vi 4)), (18, (vi 4)), (17, (vi 0)), (7, (vi 4)), (16, (vi 4)), (15, (vp 2219 0)), (14, (.bool true)), (13, (vi 0)), (12, (vi 4)), (11, vTWq14), (10, (vi 4)), (9, vTWq14), (8, (vp 2237 0)), (5, (vi 0)), (4, (vi 0)), (2, (vp 2237 0)), (0, vTWq41), (1, (vi 4))],
  ⟨[(2237, oTWq28)],
  [(2212, oTWq29), (2219, oTWq14), (2218, (.cells [])), (2216, oTWq15), (1920, (.grown 1 3 [(vi 8192), (vi 12288)])), (1919, (.cells [(vi 12288)])), (1128, (.cells [(vi 8192)])), (338, oTWq4), (325, oTWq12), (314, oTWq6), (313, (.cells [(vi 0), (vi 0), (.bool true)])), (3, oTWq7), (2, oTWq13), (0, (.ext (.mk [] true 9223372036854775808)))], 2238⟩⟩
set_option maxRecDepth 1000000 in
theorem tTWA_2 : machS F1 cleanT (hookL hTW) 22000 sTWA_1 = some (sTWA_2 : Ms Ar) := by kernel_rfl
noncomputable def sTWA_3 : Ms Ar := ⟨993, [(.ops (cdO F1 147 [1, 1, 0] 5)),
    (.code (cdF F1 147 [1, 0, 1, 1, 0, 1])),
    (.ret 147 994 (some 31) [(30, vTWq26), (26, (.bool false)), (25, (vi 0)), (7, (vi 0)), (6, (vp 6738 0)), (24, (vi 0)), (23, vTWq26), (11, vTWq66), (22, vTWq66), (21, (vi 12320)), (20, (vi 12288)), (19, (vp 6722 0)), (18, (vp 2 0)), (17, (vp 3 0)), (16, (vp 3 0)), (15, (vp 3 0)), (14, (vp 325 0)), (13, (vp 325 0)), (12, (vp 325 0)), (5, (vi 0)), (4, (vp 6723 0)), (3, (vp 6722 0)), (0, (vp 325 0)), (1, vTWq17)] [(6738, oTWq34), (6723, oTWq2), (6722, oTWq19)] 6742 (cdR F1 147)),
    (.ops (cdO F1 158 [1, 1, 1, 0] 2)),
    (.code (cdF F1 158 [1, 1, 1, 1])),
    (.ret 158 995 (some 33) [(32, vTWq17), (31, (vp 325 0)), (27, (.bool false)), (26, (vi 0)), (7, (vi 0)), (6, (vp 6721 0)), (25, (vi 0)), (24, vTWq17), (14, vTWq67), (23, vTWq67), (22, (vi 12288)), (21, (vp 2 0)), (20, (vp 3 0)), (19, (vp 3 0)), (18, (vp 3 0)), (17, (vp 325 0)), (16, (vp 325 0)), (15, (vp 325 0)), (12, (.bool false)), (11, (vp 325 0)), (5, (vi 0)), (4, (vp 6573 0)), (0, (vp 325 0)), (1, (vi 12288))] [(6721, oTWq19), (6573, oTWq2)] 6722 (cdR F1 158)),
    (.ops (cdO F1 64 [1, 1, 1, 1, 0] 3)),
    (.code (cdF F1 64 [1, 1, 1, 1, 1])),
    (.ret 64 996 (some 13) [(12, (vi 12288)), (11, (vp 325 0)), (10, (vp 6572 0)), (6, (vi 0)), (3, (vp 6572 0)), (0, vTWq18), (1, (vi 12288)), (2, (vi 4))] [(6572, (.cells [(vp 325 0)]))] 6573 (cdR F1 64)),
    (.ops (cdO F1 155 [1, 0] 4)),
    (.code (cdF F1 155 [1, 1])),
    (.ret 155 997 (some 20) [(19, (vi 12288)), (18, vTWq18), (17, (.bool true)), (16, (vi 8192)), (15, (vi 12288)), (13, (.bool false)), (12, (vi 0)), (7, (vi 0)), (11, (vi 0)), (10, (vi 12288)), (9, vTWq18), (6, (vi 0)), (3, (vp 6353 0)), (0, vTWq18), (1, (vi 12288)), (2, (vi 8192))] [(6353, (.cells [(vp 325 0)]))] 6572 (cdR F1 155)),
    (.ops (cdO F1 160 [1, 1, 0, 0, 0, 1, 0, 0, 0] 3)),
    (.code (cdF F1 160 [1, 1, 0, 0, 0, 1, 0, 0, 1])),
    (.code (cdF F1 160 [1, 1, 0, 0, 0, 1, 0, 1])),
    (.block 1),
    (.loop (cdF F1 160 [1, 1, 0, 0, 0]) 996),
    (.block 0),
    (.code (cdF F1 160 [1, 1, 1])),
    (.ret 160 998 (some 17) [(16, (vi 8192)), (15, (vi 12288)), (14, vTWq18), (5, vTWq60), (21, vTWq60), (20, (.slice (some (.mk 6351 0 none)) 1 1)), (19, (vi 12288)), (18, vTWq48), (13, (.bool true)), (12, (vi 12288)), (6, (vi 12288)), (17, (vi 12288)), (16, (vi 8192)), (15, (vi 8192)), (14, vTWq18), (5, vTWq48), (21, vTWq48), (20, (.slice (some (.mk 6130 0 none)) 1 1)), (19, (vi 8192)), (18, vTWq21), (13, (.bool true)), (12, (vi 8192)), (6, (vi 8192)), (11, (vi 8192)), (5, vTWq21), (10, (.bool false)), (9, (vi 0)), (8, (vi 8192)), (7, vTWq18), (4, vTWq21), (2, (vp 5915 0)), (0, vTWq18), (1, (vi 8192))] [(5915, (.cells [(vp 325 0)]))] 6353 (cdR F1 160)),
    (.ops (cdO F1 68 [1, 1, 1, 0, 1, 0, 0, 1, 1] 4)),
    (.loop (cdF F1 68 [1, 1, 1, 0, 1, 0, 0]) 996),
    (.block 0),
    (.code (cdF F1 68 [1, 1, 1, 1])),
    (.ret 68 999 (some 0) [] [(5335, (.cells [vTWq32])), (5333, oTWq2), (2713, (.cells [(vp 325 0)]))] 5915 (cdR F1 68)),
    (.drc (cdD F1 7 [1, 1, 1, 1, 1, 1, 1, 1, 0]) (cdB F1 7 [1, 1, 1, 1, 1, 1, 1, 1, 0]) (List.drop 74 (cdD F1 7 [1, 1, 1, 1, 1, 1, 1, 1, 0])) 5336 73 (some 147) [(9, (vp 5335 0)), (73, (.agg (.mk [vTWq32]))), (8, (vi 3)), (7, (vp 5333 0)), (72, (vi 3)), (71, vTWq9), (64, (.tuple (.mk [vTWq9, (vi 3)]))), (70, (.tuple (.mk [vTWq9, (vi 3)]))), (69, (.chan (some 0))), (68, (vp 325 0)), (67, (vp 338 0)), (66, (vp 338 0)), (65, (vp 338 0)), (37, (.bool false)), (36, (.chan (some 0))), (35, vTWq20), (34, (.bool false)), (33, (.bool false)), (32, (vi 0)), (31, (vi 12288)), (30, (vp 2711 1)), (29, vTWq20), (28, (vi 8192)), (27, (vp 2711 0)), (26, vTWq20), (25, vTWq18), (24, (.bool false)), (23, (.bool false)), (22, (.bool true)), (6, (vp 2713 0)), (21, vTWq18), (20, (vp 325 0)), (19, (vp 338 0)), (18, (vp 338 0)), (17, (vp 338 0)), (5, (.bool true)), (4, vTWq20), (3, (vp 338 0)), (16, (.bool true)), (15, vTWq20), (14, (vp 338 0)), (12, vTWq51), (13, vTWq51), (11, (.bool false)), (10, (.bool true)), (2, (.bool false)), (0, (.chan (some 0)))] (.mk [(72, ((some 146), (vi 8192))), (71, ((some 145), (vp 2711 0))), (70, ((some 144), vTWq20)), (69, ((some 143), vTWq18)), (68, ((some 142), (.bool true))), (67, ((some 141), (.bool true))), (66, ((some 140), (.bool true))), (65, ((some 139), (.bool false))), (64, ((some 138), (.chan (some 0)))), (63, ((some 137), (vi 8192))), (62, ((some 136), (vp 2711 0))), (61, ((some 135), vTWq20)), (60, ((some 134), vTWq18)), (59, ((some 133), (.bool true))), (58, ((some 132), (.bool true))), (57, ((some 131), (.bool true))), (56, ((some 130), (.bool false))), (55, ((some 129), (.chan (some 0)))), (54, ((some 128), (.chan (some 0)))), (53, ((some 127), vTWq18)), (52, ((some 126), (.bool true))), (51, ((some 125), (.bool true))), (50, ((some 124), (.bool true))), (49, ((some 123), (vi 0))), (48, ((some 122), (vi 0))), (47, ((some 121), vTWq21)), (46, ((some 120), (.chan (some 0)))), (45, ((some 119), vTWq18)), (44, ((some 118), (vi 0))), (43, ((some 117), (vi 0))), (42, ((some 116), vTWq21)), (41, ((some 115), (.chan (some 0)))), (40, ((some 114), vTWq18)), (39, ((some 113), (vi 0))), (38, ((some 112), vTWq21)), (37, ((some 111), (.chan (some 0)))), (36, ((some 110), vTWq18)), (35, ((some 109), (.bool true))), (34, ((some 108), (.bool true))), (33, ((some 107), (.bool true))), (32, ((some 106), (vi 0))), (31, ((some 105), (.chan (some 0)))), (30, ((some 104), vTWq18)), (29, ((some 103), (.bool true))), (28, ((some 102), (.bool true))), (27, ((some 101), (.bool true))), (26, ((some 100), (vi 3))), (25, ((some 99), (vi 3))), (24, ((some 98), (.chan (some 0)))), (23, ((some 97), vTWq18)), (22, ((some 96), (.bool true))), (21, ((some 95), (.bool true))), (20, ((some 94), (.bool true))), (19, ((some 93), (vi 3))), (18, ((some 92), (vi 3))), (17, ((some 91), (.chan (some 0)))), (16, ((some 90), (vi 16384))), (15, ((some 89), (vp 2711 2))), (14, ((some 88), vTWq20)), (13, ((some 87), vTWq18)), (12, ((some 86), (.bool true))), (11, ((some 85), (.bool true))), (10, ((some 84), (.bool true))), (9, ((some 83), (vi 3))), (8, ((some 82), (vi 3))), (7, ((some 81), (vi 16384))), (6, ((some 80), (vp 2711 2))), (5, ((some 79), vTWq20)), (4, ((some 78), (.chan (some 0)))), (3, ((some 77), vTWq18)), (2, ((some 76), (.bool true))), (1, ((some 75), (.bool true))), (0, ((some 74), (vi 3)))] [(.mk [(5335, (.cells [vTWq32])), (5333, oTWq2), (2713, (.cells [(vp 325 0)]))] [(2711, oTWq9), (2710, (.cells [(vi 16384)])), (1919, (.cells [(vi 12288)])), (1128, (.cells [(vi 8192)])), (338, oTWq4), (325, oTWq12), (314, oTWq6), (313, (.cells [(vi 0), (vi 0), (.bool true)])), (3, oTWq7), (2, oTWq1), (0, (.ext (.mk [] true 9223372036854775808)))] 5915), (.mk [(5335, (.cells [vTWq32])), (5333, oTWq2), (2713, (.cells [(vp 325 0)]))] [(2711, oTWq9), (2710, (.cells [(vi 16384)])), (1919, (.cells [(vi 12288)])), (1128, (.cells [(vi 8192)])), (338, oTWq4), (325, oTWq12), (314, oTWq6), (313, (.cells [(vi 0), (vi 0), (.bool true)])), (3, oTWq7), (2, oTWq1), (0, (.ext (.mk [] true 9223372036854775808)))] 5696), (.mk [(5335, (.cells [vTWq32])), (5333, oTWq2), (2713, (.cells [(vp 325 0)]))] [(2711, oTWq9), (2710, (.cells [(vi 16384)])), (1919, (.cells [(vi 12288)])), (1128, (.cells [(vi 8192)])), (338, oTWq4), (325, oTWq12), (314, oTWq6), (313, (.cells [(vi 0), (vi 0), (.bool true)])), (3, oTWq7), (2, oTWq1), (0, (.ext (.mk [] true 9223372036854775808)))] 5691), (.mk [(5335, (.cells [vTWq32])), (5333, oTWq2), (2713, (.cells [(vp 325 0)]))] [(2711, oTWq9), (2710, (.cells [(vi 16384)])), (1919, (.cells [(vi 12288)])), (1128, (.cells [(vi 8192)])), (338, oTWq4), (325, oTWq12), (314, oTWq6), (313, (.cells [(vi 0), (vi 0), (.bool true)])), (3, oTWq7), (2, oTWq1), (0, (.ext (.mk [] true 9223372036854775808)))] 5685), (.mk [(5335, (.cells [vTWq32])), (5333, oTWq2), (2713, (.cells [(vp 325 0)]))] [(2711, oTWq9), (2710, (.cells [(vi 16384)])), (1919, (.cells [(vi 12288)])), (1128, (.cells [(vi 8192)])), (338, oTWq4), (325, oTWq12), (314, oTWq6), (313, (.cells [(vi 0), (vi 0), (.bool true)])), (3, oTWq7), (2, oTWq1), (0, (.ext (.mk [] true 9223372036854775808)))] 5680), (.mk [(5335, (.cells [vTWq32])), (5333, oTWq2), (2713, (.cells [(vp 325 0)]))] [(2711, oTWq9), (2710, (.cells [(vi 16384)])), (1919, (.cells [(vi 12288)])), (1128, (.cells [(vi 8192)])), (338, oTWq4), (325, oTWq12), (314, oTWq6), (313, (.cells [(vi 0), (vi 0), (.bool true)])), (3, oTWq7), (2, oTWq1), (0, (.ext (.mk [] true 9223372036854775808)))] 5675), (.mk [(5335, (.cells [vTWq32])), (5333, oTWq2), (2713, (.cells [(vp 325 0)]))] [(2711, oTWq9), (2710, (.cells [(vi 16384)])), (1919, (.cells [(vi 12288)])), (1128, (.cells [(vi 8192)])), (338, oTWq4), (325, oTWq12), (314, oTWq6), (313, (.cells [(vi 0), (vi 0), (.bool true)])), (3, oTWq7), (2, oTWq1), (0, (.ext (.mk [] true 9223372036854775808)))] 5670), (.mk [(5335, (.cells [vTWq32])), (5333, oTWq2), (2713, (.cells [(vp 325 0)]))] [(2711, oTWq9), (2710, (.cells [(vi 16384)])), (1919, (.cells [(vi 12288)])), (1128, (.cells [(vi 8192)])), (338, oTWq4), (325, oTWq12), (314, oTWq6), (313, (.cells [(vi 0), (vi 0), (.bool true)])), (3, oTWq7), (2, oTWq1), (0, (.ext (.mk [] true 9223372036854775808)))] 5665), (.mk [(5335, (.cells [vTWq32])), (5333, oTWq2), (2713, (.cells [(vp 325 0)]))] [(2711, oTWq9), (2710, (.cells [(vi 16384)])), (1919, (.cells [(vi 12288)])), (1128, (.cells [(vi 8192)])), (338, oTWq4), (325, oTWq12), (314, oTWq6), (313, (.cells [(vi 0), (vi 0), (.bool true)])), (3, oTWq7), (2, oTWq1), (0, (.ext (.mk [] true 9223372036854775808)))] 5446), (.mk [(5335, (.cells [vTWq32])), (5333, oTWq2), (2713, (.cells [(vp 325 0)]))] [(2711, oTWq9), (2710, (.cells [(vi 16384)])), (1919, (.cells [(vi 12288)])), (1128, (.cells [(vi 8192)])), (338, oTWq4), (325, oTWq12), (314, oTWq6), (313, (.cells [(vi 0), (vi 0), (.bool true)])), (3, oTWq7), (2, oTWq1), (0, (.ext (.mk [] true 9223372036854775808)))] 5441)] [65, 56, 47, 42, 38, 32, 25, 18, 8] [] [(72, ((.mk 2711 0 none), (1, [(vi 8192)]))), (69, ((.mk 2713 0 none), (1, [(vp 325 0)]))), (63, ((.mk 2711 0 none), (1, [(vi 8192)]))), (60, ((.mk 2713 0 none), (1, [(vp 325 0)]))), (53, ((.mk 2713 0 none), (1, [(vp 325 0)]))), (45, ((.mk 2713 0 none), (1, [(vp 325 0)]))), (40, ((.mk 2713 0 none), (1, [(vp 325 0)]))), (36, ((.mk 2713 0 none), (1, [(vp 325 0)]))), (30, ((.mk 2713 0 none), (1, [(vp 325 0)]))), (23, ((.mk 2713 0 none), (1, [(vp 325 0)]))), (16, ((.mk 2711 2 none), (1, [(vi 16384)]))), (13, ((.mk 2713 0 none), (1, [(vp 325 0)]))), (7, ((.mk 2711 2 none), (1, [(vi 16384)]))), (3, ((.mk 2713 0 none), (1, [(vp 325 0)])))])),
    (.code (cdF F1 7 [1, 0, 1, 0, 1])),
    (.ret 7 1000 (some 0) [] [] 1 (cdR F1 7)),
    (.ops [])], .norm,
  [(21, (vi 128)), (20, (vi 12320)), (19, (vp 6742 1)), (18, (vp 2 0)), (17, (vp 6742 0)), (14, (.bool false)), (13, (vi 0)), (8, (vi 0)), (12, (vi 0)), (11, (vi 32)), (10, (vi 128)), (9, vTWq26), (7, (vi 0)), (6, (vp 6743 0)), (3, (vp 6742 0)), (0, vTWq26), (1, (vi 128)), (2, (vi 32))],
  ⟨[(6743, oTWq36), (6742, oTWq34)],
  [(6352, (.grown 1 3 [(vi 8192), (vi 12288)])), (6351, (.cells [(vi 12288)])), (6130, (.cells [(vi 8192)])), (2711, oTWq9), (2710, (.cells [(vi 16384)])), (1919, (.cells [(vi 12288)])), (1128, (.cells [(vi 8192)])), (338, oTWq4), (325, oTWq12), (314, oTWq6), (313, (.cells [(vi 0), (vi 0), (.bool true)])), (3, oTWq7), (2, oTWq1), (0, (.ext (.mk [] true 9223372036854775808)))], 6745⟩⟩
set_option maxRecDepth 1000000 in
theorem tTWA_3 : machS F1 cleanT (hookL hTW) 22000 sTWA_2 = some (sTWA_3 : Ms Ar) := by kernel_rfl
noncomputable def sTWA_4 : Ms Ar := ⟨1000, [], .norm,
  [(0, (.bool true))],
  ⟨[],
  [(0, (.ext (.mk [] true 9223372036854775808)))], 7047⟩⟩
set_option maxRecDepth 1000000 in
theorem tTWA_4 : machS F1 cleanT (hookL hTW) 22000 sTWA_3 = some (sTWA_4 : Ms Ar) := by kernel_rfl
theorem rTWA : ∃ h', run F1 cleanT (hookL hTW) 1000 7 [.chan (some 0)] (⟨[(0, tkO kA)], 1⟩ : Hp Ar) = some (.bool true, h') := by
  have h0 := Ms.callA_den (F := F1) (clean := cleanT) (hook := hookL hTW) 1000 7 [.chan (some 0)] (⟨[(0, tkO kA)], 1⟩ : Hp Ar)
  rw [machS_den tTWA_1] at h0
  rw [machS_den tTWA_2] at h0
  rw [machS_den tTWA_3] at h0
  rw [machS_den tTWA_4] at h0
  exact ⟨_, h0.symm.trans (Ms.end_den rfl)⟩
end Go.AI
/- A reckoning, piece by piece. -/
namespace Go.AI
open Go.Proofs
noncomputable def sTWB_1 : Ms Ar := ⟨994, [(.code (cdF F1 229 [1, 0, 0, 0])),
    (.code (cdF F1 229 [1, 0, 0, 1])),
    (.block 0),
    (.code (cdF F1 229 [1, 1])),
    (.ret 229 995 (some 12) [(11, (vi 2)), (10, vTWq37), (9, (vi 160)), (8, vTWq19), (6, (vi 0)), (3, (vp 1123 0)), (0, vTWq19), (1, (vi 160)), (2, vTWq37)] [(1123, (.cells [(vp 2 0), (vi 8224), (vi 992)]))] 1124 (cdR F1 229)),
    (.ops (cdO F1 282 [1, 0, 0] 5)),
    (.code (cdF F1 282 [1, 0, 1])),
    (.code (cdF F1 282 [1, 1])),
    (.ret 282 996 (some 35) [(34, vTWq37), (33, vTWq13), (32, (.string (.mk (.mk [(UInt8.ofNat 1)])))), (31, (.slice (some (.mk 1122 0 none)) 1 1)), (30, (vb 1)), (29, (vi 1)), (28, vTWq13), (27, (vi 160)), (26, vTWq19), (24, (.bool false)), (23, (vi 0)), (9, (vi 0)), (22, (vi 0)), (21, (vi 16)), (20, (vi 160)), (19, vTWq19), (14, (.bool false)), (18, (.bool false)), (17, (vi 16)), (16, (vi 1)), (15, vTWq13), (10, (.bool false)), (13, (.bool false)), (12, (.bool true)), (11, (vi 16)), (8, (vi 0)), (4, (vp 1118 0)), (0, vTWq19), (1, (vi 160)), (2, (vi 16)), (3, vTWq13)] [(1118, (.cells [(vp 2 0), (vi 8224), (vi 992)]))] 1123 (cdR F1 282)),
    (.ops (cdO F1 219 [1, 1, 1, 0] 10)),
    (.code (cdF F1 219 [1, 0, 0, 1, 0, 1])),
    (.ret 219 997 (some 63) [(62, vTWq13), (61, vTWq19), (60, (vp 788 9)), (59, vTWq54), (58, (vw 1)), (57, vTWq4), (56, (vi 0)), (55, (vi 8192)), (54, (vp 746 0)), (53, (.agg (.mk [(vp 325 0), (vp 2 0), (vi 8352), (vi 32), (vw 1)]))), (52, (vp 788 0)), (51, (vp 788 0)), (50, (vp 788 0)), (49, (vi 0)), (48, vTWq19), (47, (vp 788 9)), (46, (vi 0)), (45, vTWq19), (44, (vp 788 9)), (13, (vi 0)), (12, (vp 788 0)), (43, (vi 0)), (42, vTWq4), (38, vTWq46), (41, vTWq46), (40, vTWq7), (39, (vp 325 0)), (35, (.bool false)), (34, (vi 0)), (11, (vi 0)), (10, (vp 746 0)), (33, (vi 0)), (32, vTWq7), (27, vTWq28), (31, vTWq28), (30, (vw 1)), (29, (vi 0)), (28, (vp 325 0)), (22, (.bool false)), (25, (.bool false)), (24, (vi 1)), (23, vTWq13), (18, (.bool false)), (20, (.bool false)), (19, (vw 1)), (14, (.bool false)), (16, (.bool false)), (15, (vp 325 0)), (9, (vi 0)), (8, (vp 339 0)), (0, (vp 325 0)), (1, (vi 0)), (2, (vw 1)), (3, vTWq13)] [(788, oTWq24), (746, oTWq20), (339, oTWq2)] 1118 (cdR F1 219)),
    (.ops []),
    (.code (cdF F1 132 [1, 1, 1, 1, 1, 1, 1, 1, 1, 1])),
    (.ret 132 998 (some 29) [(28, (vw 1)), (27, (vi 1)), (26, (vi 0)), (25, (vp 325 0)), (24, (vp 338 0)), (23, (vp 338 0)), (22, (vp 338 0)), (8, (vi 0)), (20, (vi 0)), (19, (.bool true)), (18, (vi 0)), (17, (vi 3)), (16, (vi 3)), (15, (vi 3)), (7, vTWq21), (6, (.bool true)), (5, (vp 338 0)), (14, (.bool true)), (13, (vp 338 0)), (11, vTWq40), (12, vTWq40), (4, (.bool false)), (3, vTWq21), (2, vTWq32), (0, (vi 3))] [] 339 (cdR F1 132)),
    (.ops (cdO F1 60 [1, 1, 1, 0, 1, 0, 0, 1, 1, 0, 0, 1, 0] 8)),
    (.code (cdF F1 60 [1, 1, 1, 0, 1, 0, 0, 1, 1, 0, 0, 1, 1])),
    (.block 1),
    (.code (cdF F1 60 [1, 1, 1, 0, 1, 0, 0, 1, 1, 1])),
    (.loop (cdF F1 60 [1, 1, 1, 0, 1, 0, 0]) 997),
    (.block 0),
    (.code (cdF F1 60 [1, 1, 1, 1])),
    (.ret 60 999 (some 13) [(11, (.bool false)), (10, (.bool true)), (2, (.bool false)), (0, (.chan (some 0)))] [] 1 (cdR F1 60)),
    (.ops (cdO F1 7 [1, 1, 0] 1)),
    (.code (cdF F1 7 [1, 1, 1])),
    (.ret 7 1000 (some 0) [] [] 1 (cdR F1 7)),
    (.ops [])], .norm,
  [(6, (vi 0)), (3, (vp 1124 0)), (0, vTWq19), (1, (vi 160)), (2, (vi 2))],
  ⟨[(1124, (.cells [(vp 2 0), (vi 8224), (vi 992)]))],
  [(1122, (.cells [(vb 1)])), (338, oTWq4), (325, oTWq12), (314, oTWq6), (313, (.cells [(vi 0), (vi 0), (.bool true)])), (3, oTWq7), (2, oTWq25), (0, (.ext (.mk [] true 9223372036854775809)))], 1125⟩⟩
set_option maxRecDepth 1000000 in
theorem tTWB_1 : machS F1 cleanT (hookL hTW) 22000 (Ms.callA 1000 7 [.chan (some 0)] ⟨[(0, tkO kB)], 1⟩ : Ms Ar) = some (sTWB_1 : Ms Ar) := by kernel_rfl
noncomputable def sTWB_2 : Ms Ar := ⟨992, [(.ops (cdO F1 294 [1, 1, 0, 1, 0, 0, 1, 1, 0, 0, 1] 2)),
    (.block 1),
    (.code (cdF F1 294 [1, 1, 0, 1, 0, 0, 1, 1, 1])),
    (.loop (cdF F1 294 [1, 1, 0, 1, 0, 0]) 989),
    (.block 0),
    (.code (cdF F1 294 [1, 1, 1])),
    (.ret 294 993 (some 7) [(6, (vi 4)), (5, vTWq14), (4, (vp 2236 0)), (3, vTWq41), (2, (vi 0)), (1, (vp 2236 0)), (0, vTWq41)] [(2236, oTWq28)] 2237 (cdR F1 294)),
    (.ops (cdO F1 232 [1, 0] 5)),
    (.code (cdF F1 232 [1, 1])),
    (.ret 232 994 (some 0) [] [(2222, (.cells [(vp 2 0), (vi 16384), (vi 32)])), (2221, oTWq28)] 2236 (cdR F1 232)),
    (.drc (cdD F1 205 [1, 1, 1, 0, 0]) (cdB F1 205 [1, 1, 1, 0, 0]) (List.drop 3 (cdD F1 205 [1, 1, 1, 0, 0])) 2227 2 (some 35) [(22, (.bool false)), (21, (vi 4)), (31, (vi 4)), (30, (.bool false)), (29, (.bool true)), (28, (vw 0)), (27, (vi 3)), (26, vTWq41), (8, (vw 0)), (7, (vi 3)), (25, (vw 0)), (24, (vp 2212 3)), (23, (vi 3)), (22, (.bool true)), (21, (vi 3)), (31, (vi 3)), (30, (.bool false)), (29, (.bool true)), (28, (vw 3)), (27, (vi 2)), (26, vTWq41), (8, (vw 3)), (7, (vi 2)), (25, (vw 3)), (24, (vp 2212 2)), (23, (vi 2)), (22, (.bool true)), (21, (vi 2)), (31, (vi 2)), (30, (.bool false)), (29, (.bool true)), (28, (vw 0)), (27, (vi 1)), (26, vTWq41), (8, (vw 0)), (7, (vi 1)), (25, (vw 0)), (24, (vp 2212 1)), (23, (vi 1)), (22, (.bool true)), (20, (vi 4)), (19, vTWq43), (18, (.bool false)), (17, (vi 4)), (16, vTWq14), (15, (vp 2221 0)), (14, (vi 4)), (13, vTWq43), (6, (vi 0)), (4, (vp 2222 0)), (3, (vp 2221 0)), (0, vTWq41), (1, vTWq27), (2, vTWq43)] (.mk [(1, ((some 34), vTWq41)), (0, ((some 33), vTWq27))] [(.mk [(2222, (.cells [(vp 2 0), (vi 16384), (vi 32)])), (2221, oTWq28)] [(2212, oTWq29), (2219, oTWq14), (2218, (.cells [])), (2216, oTWq15), (1920, (.grown 1 3 [(vi 8192), (vi 12288)])), (1919, (.cells [(vi 12288)])), (1128, (.cells [(vi 8192)])), (338, oTWq4), (325, oTWq12), (314, oTWq6), (313, (.cells [(vi 0), (vi 0), (.bool true)])), (3, oTWq7), (2, oTWq13), (0, (.ext (.mk [] true 9223372036854775809)))] 2236)] [] [] [(1, ((.mk 2221 0 none), (1, [vTWq14]))), (0, ((.mk 2222 0 none), (3, [(vp 2 0), (vi 16384), (vi 32)])))])),
    (.code (cdF F1 205 [1, 1, 1, 0, 1])),
    (.code (cdF F1 205 [1, 1, 1, 1])),
    (.ret 205 995 (some 0) [] [(2201, (.cells [(vp 2 0), (vi 16384), (vi 32)])), (2199, oTWq26)] 2221 (cdR F1 205)),
    (.drc (cdD F1 270 [1, 1, 1, 1, 0]) (cdB F1 270 [1, 1, 1, 1, 0]) (List.drop 12 (cdD F1 270 [1, 1, 1, 1, 0])) 2202 11 (some 52) [(39, (.bool false)), (38, (vi 0)), (6, (vi 0)), (5, (vp 2201 0)), (37, (vi 0)), (36, vTWq27), (31, vTWq65), (35, vTWq65), (34, (vi 16384)), (33, (vp 2199 0)), (32, (vp 2 0)), (10, (.bool false)), (30, (.bool false)), (29, (.bool false)), (28, (vi 4096)), (27, (vi 0)), (26, (vp 2199 1)), (25, (.bool false)), (24, (.bool false)), (23, (.bool false)), (22, (vi 0)), (21, (vp 2199 3)), (20, (.bool false)), (19, (.bool false)), (18, (.bool false)), (17, (vi 0)), (16, (vi 16384)), (15, (vp 2199 0)), (14, (.bool false)), (13, (.bool false)), (12, (vi 16384)), (11, (vp 2199 0)), (7, (.bool false)), (9, (.bool false)), (8, (vp 2 0)), (4, (vi 0)), (3, (vp 2199 0)), (0, (vp 2 0)), (1, vTWq52)] (.mk [(10, ((some 51), vTWq43)), (9, ((some 50), (vw 0))), (8, ((some 49), (vi 0))), (7, ((some 48), (vp 2199 3))), (6, ((some 47), (vw 3))), (5, ((some 46), (vp 2199 2))), (4, ((some 45), (vw 0))), (3, ((some 44), (vi 0))), (2, ((some 43), (vp 2199 1))), (1, ((some 42), vTWq27)), (0, ((some 41), vTWq41))] [(.mk [(2201, (.cells [(vp 2 0), (vi 16384), (vi 32)])), (2199, oTWq26)] [(2219, oTWq14), (2218, (.cells [])), (2216, oTWq15), (1920, (.grown 1 3 [(vi 8192), (vi 12288)])), (1919, (.cells [(vi 12288)])), (1128, (.cells [(vi 8192)])), (338, oTWq4), (325, oTWq12), (314, oTWq6), (313, (.cells [(vi 0), (vi 0), (.bool true)])), (3, oTWq7), (2, oTWq13), (0, (.ext (.mk [] true 9223372036854775809)))] 2221), (.mk [(2201, (.cells [(vp 2 0), (vi 16384), (vi 32)])), (2199, oTWq26)] [(1920, (.grown 1 3 [(vi 8192), (vi 12288)])), (1919, (.cells [(vi 12288)])), (1128, (.cells [(vi 8192)])), (338, oTWq4), (325, oTWq12), (314, oTWq6), (313, (.cells [(vi 0), (vi 0), (.bool true)])), (3, oTWq7), (2, oTWq13), (0, (.ext (.mk [] true 9223372036854775809)))] 2215)] [0] [(10, (true, oTWq29))] [(8, ((.mk 2199 3 none), (1, [(vi 0)]))), (6, ((.mk 2199 2 none), (1, [(vw 3)]))), (3, ((.mk 2199 1 none), (1, [(vi 0)]))), (1, ((.mk 2201 0 none), (3, [(vp 2 0), (vi 16384), (vi 32)])))])),
    (.code (cdF F1 270 [1, 0, 0, 1, 0, 1])),
    (.ret 270 996 (some 0) [] [(1923, oTWq26), (1922, oTWq18)] 2199 (cdR F1 270)),
    (.drc (cdD F1 216 [1, 1, 1, 1, 1, 0]) (cdB F1 216 [1, 1, 1, 1, 1, 0]) (List.drop 9 (cdD F1 216 [1, 1, 1, 1, 1, 0])) 2190 8 (some 71) [(62, (vp 1923 2)), (61, (vw 3)), (60, (.agg (.mk [(vi 16384), (vi 0), (vw 0), (vi 0)]))), (59, (vi 0)), (58, (vi 16384)), (55, (.bool false)), (54, (vi 0)), (12, (vi 0)), (11, (vi 16384)), (53, (vi 0)), (52, (vi 16384)), (48, vTWq63), (51, vTWq63), (50, (vi 0)), (49, (vp 325 0)), (38, (.bool false)), (10, (.bool false)), (9, (vi 0)), (37, (.bool false)), (36, (vi 0)), (29, vTWq23), (35, vTWq23), (34, (vi 0)), (33, (.agg (.mk [(vp 2 0), (vi 4096), (vi 64)]))), (32, (vp 325 4)), (31, (vp 325 0)), (30, (vp 325 0)), (8, (vp 1923 0)), (17, (.bool false)), (27, (.bool false)), (26, (.bool false)), (25, (vw 3)), (24, (.bool false)), (23, (.bool false)), (22, (.bool false)), (21, (vi 0)), (20, (.bool false)), (19, (.bool false)), (18, (vi 0)), (13, (.bool false)), (15, (.bool false)), (14, (vp 325 0)), (7, (vi 0)), (6, (vp 1922 0)), (0, (vp 325 0)), (1, (vi 0)), (2, (vw 3))] (.mk [(7, ((some 70), vTWq52)), (6, ((some 69), (vp 2 0))), (5, ((some 68), (vp 3 0))), (4, ((some 67), (vp 3 0))), (3, ((some 66), (vp 3 0))), (2, ((some 65), (vp 325 0))), (1, ((some 64), (vp 325 0))), (0, ((some 63), (vp 325 0)))] [(.mk [(1923, oTWq26), (1922, oTWq18)] [(1920, (.grown 1 3 [(vi 8192), (vi 12288)])), (1919, (.cells [(vi 12288)])), (1128, (.cells [(vi 8192)])), (338, oTWq4), (325, oTWq12), (314, oTWq6), (313, (.cells [(vi 0), (vi 0), (.bool true)])), (3, oTWq7), (2, oTWq13), (0, (.ext (.mk [] true 9223372036854775809)))] 2199)] [] [] [(7, ((.mk 1923 0 none), (4, [(vi 16384), (vi 0), (vw 3), (vi 0)]))), (6, ((.mk 3 0 none), (1, [(vp 2 0)]))), (3, ((.mk 325 0 none), (1, [(vp 3 0)])))])),
    (.code (cdF F1 216 [1, 1, 1, 1, 1, 1])),
    (.ret 216 997 (some 31) [(30, (vw 3)), (29, (vi 0)), (28, (vp 325 0)), (22, (.bool false)), (25, (.bool false)), (24, (vi 1)), (23, vTWq13), (18, (.bool false)), (20, (.bool false)), (19, (vw 3)), (14, (.bool false)), (16, (.bool false)), (15, (vp 325 0)), (9, (vi 0)), (8, (vp 1921 0)), (0, (vp 325 0)), (1, (vi 0)), (2, (vw 3)), (3, vTWq13)] [(1921, oTWq2)] 1922 (cdR F1 216)),
    (.ops (cdO F1 132 [1, 1, 0] 4)),
    (.code (cdF F1 132 [1, 1, 1])),
    (.ret 132 998 (some 29) [(28, (vw 3)), (27, (vi 3)), (26, (vi 2)), (25, (vp 325 0)), (24, (vp 338 0)), (23, (vp 338 0)), (22, (vp 338 0)), (8, (vi 2)), (20, (vi 2)), (19, (.bool true)), (18, (vi 2)), (42, (vi 2)), (7, vTWq61), (41, vTWq61), (40, (.slice (some (.mk 1919 0 none)) 1 1)), (39, (vi 12288)), (38, vTWq12), (37, vTWq49), (6, (.bool true)), (36, (.bool true)), (35, (.bool true)), (34, (vi 0)), (33, (.bool true)), (32, (.bool true)), (10, (vi 0)), (9, (vp 1916 0)), (31, (vi 0)), (30, vTWq12), (21, vTWq68), (29, vTWq68), (28, (vw 2)), (27, (vi 2)), (26, (vi 1)), (25, (vp 325 0)), (24, (vp 338 0)), (23, (vp 338 0)), (22, (vp 338 0)), (8, (vi 1)), (20, (vi 1)), (19, (.bool true)), (18, (vi 1)), (42, (vi 1)), (7, vTWq49), (41, vTWq49), (40, vTWq31), (39, (vi 8192)), (38, vTWq4), (37, vTWq21), (6, (.bool true)), (36, (.bool true)), (35, (.bool true)), (34, (vi 0)), (33, (.bool true)), (32, (.bool true)), (10, (vi 0)), (9, (vp 1125 0)), (31, (vi 0)), (30, vTWq4), (21, vTWq46), (29, vTWq46), (28, (vw 1)), (27, (vi 1)), (26, (vi 0)), (25, (vp 325 0)), (24, (vp 338 0)), (23, (vp 338 0)), (22, (vp 338 0)), (8, (vi 0)), (20, (vi 0)), (19, (.bool true)), (18, (vi 0)), (17, (vi 3)), (16, (vi 3)), (15, (vi 3)), (7, vTWq21), (6, (.bool true)), (5, (vp 338 0)), (14, (.bool true)), (13, (vp 338 0)), (11, vTWq40), (12, vTWq40), (4, (.bool false)), (3, vTWq21), (2, vTWq32), (0, (vi 3))] [(1916, oTWq30), (1125, oTWq24)] 1921 (cdR F1 132)),
    (.ops (cdO F1 60 [1, 1, 1, 0, 1, 0, 0, 1, 1, 0, 0, 1, 0] 8)),
    (.code (cdF F1 60 [1, 1, 1, 0, 1, 0, 0, 1, 1, 0, 0, 1, 1])),
    (.block 1),
    (.code (cdF F1 60 [1, 1, 1, 0, 1, 0, 0, 1, 1, 1])),
    (.loop (cdF F1 60 [1, 1, 1, 0, 1, 0, 0]) 995),
    (.block 0),
    (.code (cdF F1 60 [1, 1, 1, 1])),
    (.ret 60 999 (some 13) [(11, (.bool false)), (10, (.bool true)), (2, (.bool false)), (0, (.chan (some 0)))] [] 1 (cdR F1 60)),
    (.ops (cdO F1 7 [1, 1, 0] 1)),
    (.code (cdF F1 7 [1, 1, 1])),
    (.ret 7 1000 (some 0) [] [] 1 (cdR F1 7)),
    (.ops [])], .norm,
  [(18, (vi 8)), (17, (vi 8)), (7, (vi 8)), (16, (vi 8)), (15, (vp 2219 2)), (14, (.bool true)), (13, (vi 2)), (20, (vi 2)), (5, (vi 8)), (19, (vi 8)), (18, (vi 4)), (17, (vi 4)), (7, (vi 4)), (16, (vi 4)), (15, (vp 2219 1)), (14, (.bool true)), (13, (vi 1)), (20, (vi 1)), (5, (vi 4)), (19, (vi 4)), (18, (vi 4)), (17, (vi 0)), (7, (vi 4)), (16, (vi 4)), (15, (vp 2219 0)), (14, (.bool true)), (13, (vi 0)), (12, (vi 4)), (11, vTWq14), (10, (vi 4)), (9, vTWq14), (8, (vp 2237 0)), (5, (vi 0)), (4, (vi 0)), (2, (vp 2237 0)), (0, vTWq41), (1, (vi 4))],
  ⟨[(2237, oTWq28)],
  [(2212, oTWq29), (2219, oTWq14), (2218, (.cells [])), (2216, oTWq15), (1920, (.grown 1 3 [(vi 8192), (vi 12288)])), (1919, (.cells [(vi 12288)])), (1128, (.cells [(vi 8192)])), (338, oTWq4), (325, oTWq12), (314, oTWq6), (313, (.cells [(vi 0), (vi 0), (.bool true)])), (3, oTWq7), (2, oTWq13), (0, (.ext (.mk [] true 9223372036854775809)))], 2238⟩⟩
set_option maxRecDepth 1000000 in
theorem tTWB_2 : machS F1 cleanT (hookL hTW) 22000 sTWB_1 = some (sTWB_2 : Ms Ar) := by kernel_rfl
noncomputable def sTWB_3 : Ms Ar := ⟨993, [(.ops (cdO F1 147 [1, 1, 0] 5)),
    (.code (cdF F1 147 [1, 0, 1, 1, 0, 1])),
    (.ret 147 994 (some 31) [(30, vTWq26), (26, (.bool false)), (25, (vi 0)), (7, (vi 0)), (6, (vp 6738 0)), (24, (vi 0)), (23, vTWq26), (11, vTWq66), (22, vTWq66), (21, (vi 12320)), (20, (vi 12288)), (19, (vp 6722 0)), (18, (vp 2 0)), (17, (vp 3 0)), (16, (vp 3 0)), (15, (vp 3 0)), (14, (vp 325 0)), (13, (vp 325 0)), (12, (vp 325 0)), (5, (vi 0)), (4, (vp 6723 0)), (3, (vp 6722 0)), (0, (vp 325 0)), (1, vTWq17)] [(6738, oTWq34), (6723, oTWq2), (6722, oTWq19)] 6742 (cdR F1 147)),
    (.ops (cdO F1 158 [1, 1, 1, 0] 2)),
    (.code (cdF F1 158 [1, 1, 1, 1])),
    (.ret 158 995 (some 33) [(32, vTWq17), (31, (vp 325 0)), (27, (.bool false)), (26, (vi 0)), (7, (vi 0)), (6, (vp 6721 0)), (25, (vi 0)), (24, vTWq17), (14, vTWq67), (23, vTWq67), (22, (vi 12288)), (21, (vp 2 0)), (20, (vp 3 0)), (19, (vp 3 0)), (18, (vp 3 0)), (17, (vp 325 0)), (16, (vp 325 0)), (15, (vp 325 0)), (12, (.bool false)), (11, (vp 325 0)), (5, (vi 0)), (4, (vp 6573 0)), (0, (vp 325 0)), (1, (vi 12288))] [(6721, oTWq19), (6573, oTWq2)] 6722 (cdR F1 158)),
    (.ops (cdO F1 64 [1, 1, 1, 1, 0] 3)),
    (.code (cdF F1 64 [1, 1, 1, 1, 1])),
    (.ret 64 996 (some 13) [(12, (vi 12288)), (11, (vp 325 0)), (10, (vp 6572 0)), (6, (vi 0)), (3, (vp 6572 0)), (0, vTWq18), (1, (vi 12288)), (2, (vi 4))] [(6572, (.cells [(vp 325 0)]))] 6573 (cdR F1 64)),
    (.ops (cdO F1 155 [1, 0] 4)),
    (.code (cdF F1 155 [1, 1])),
    (.ret 155 997 (some 20) [(19, (vi 12288)), (18, vTWq18), (17, (.bool true)), (16, (vi 8192)), (15, (vi 12288)), (13, (.bool false)), (12, (vi 0)), (7, (vi 0)), (11, (vi 0)), (10, (vi 12288)), (9, vTWq18), (6, (vi 0)), (3, (vp 6353 0)), (0, vTWq18), (1, (vi 12288)), (2, (vi 8192))] [(6353, (.cells [(vp 325 0)]))] 6572 (cdR F1 155)),
    (.ops (cdO F1 160 [1, 1, 0, 0, 0, 1, 0, 0, 0] 3)),
    (.code (cdF F1 160 [1, 1, 0, 0, 0, 1, 0, 0, 1])),
    (.code (cdF F1 160 [1, 1, 0, 0, 0, 1, 0, 1])),
    (.block 1),
    (.loop (cdF F1 160 [1, 1, 0, 0, 0]) 996),
    (.block 0),
    (.code (cdF F1 160 [1, 1, 1])),
    (.ret 160 998 (some 17) [(16, (vi 8192)), (15, (vi 12288)), (14, vTWq18), (5, vTWq60), (21, vTWq60), (20, (.slice (some (.mk 6351 0 none)) 1 1)), (19, (vi 12288)), (18, vTWq48), (13, (.bool true)), (12, (vi 12288)), (6, (vi 12288)), (17, (vi 12288)), (16, (vi 8192)), (15, (vi 8192)), (14, vTWq18), (5, vTWq48), (21, vTWq48), (20, (.slice (some (.mk 6130 0 none)) 1 1)), (19, (vi 8192)), (18, vTWq21), (13, (.bool true)), (12, (vi 8192)), (6, (vi 8192)), (11, (vi 8192)), (5, vTWq21), (10, (.bool false)), (9, (vi 0)), (8, (vi 8192)), (7, vTWq18), (4, vTWq21), (2, (vp 5915 0)), (0, vTWq18), (1, (vi 8192))] [(5915, (.cells [(vp 325 0)]))] 6353 (cdR F1 160)),
    (.ops (cdO F1 68 [1, 1, 1, 0, 1, 0, 0, 1, 1] 4)),
    (.loop (cdF F1 68 [1, 1, 1, 0, 1, 0, 0]) 996),
    (.block 0),
    (.code (cdF F1 68 [1, 1, 1, 1])),
    (.ret 68 999 (some 0) [] [(5335, (.cells [vTWq32])), (5333, oTWq2), (2713, (.cells [(vp 325 0)]))] 5915 (cdR F1 68)),
    (.drc (cdD F1 7 [1, 1, 1, 1, 1, 1, 1, 1, 0]) (cdB F1 7 [1, 1, 1, 1, 1, 1, 1, 1, 0]) (List.drop 74 (cdD F1 7 [1, 1, 1, 1, 1, 1, 1, 1, 0])) 5336 73 (some 147) [(9, (vp 5335 0)), (73, (.agg (.mk [vTWq32]))), (8, (vi 7)), (7, (vp 5333 0)), (72, (vi 7)), (71, vTWq9), (64, vTWq57), (70, vTWq57), (69, (.chan (some 0))), (68, (vp 325 0)), (67, (vp 338 0)), (66, (vp 338 0)), (65, (vp 338 0)), (37, (.bool false)), (36, (.chan (some 0))), (35, vTWq20), (34, (.bool false)), (33, (.bool false)), (32, (vi 0)), (31, (vi 12288)), (30, (vp 2711 1)), (29, vTWq20), (28, (vi 8192)), (27, (vp 2711 0)), (26, vTWq20), (25, vTWq18), (24, (.bool false)), (23, (.bool false)), (22, (.bool true)), (6, (vp 2713 0)), (21, vTWq18), (20, (vp 325 0)), (19, (vp 338 0)), (18, (vp 338 0)), (17, (vp 338 0)), (5, (.bool true)), (4, vTWq20), (3, (vp 338 0)), (16, (.bool true)), (15, vTWq20), (14, (vp 338 0)), (12, vTWq51), (13, vTWq51), (11, (.bool false)), (10, (.bool true)), (2, (.bool false)), (0, (.chan (some 0)))] (.mk [(72, ((some 146), (vi 8192))), (71, ((some 145), (vp 2711 0))), (70, ((some 144), vTWq20)), (69, ((some 143), vTWq18)), (68, ((some 142), (.bool true))), (67, ((some 141), (.bool true))), (66, ((some 140), (.bool true))), (65, ((some 139), (.bool false))), (64, ((some 138), (.chan (some 0)))), (63, ((some 137), (vi 8192))), (62, ((some 136), (vp 2711 0))), (61, ((some 135), vTWq20)), (60, ((some 134), vTWq18)), (59, ((some 133), (.bool true))), (58, ((some 132), (.bool true))), (57, ((some 131), (.bool true))), (56, ((some 130), (.bool false))), (55, ((some 129), (.chan (some 0)))), (54, ((some 128), (.chan (some 0)))), (53, ((some 127), vTWq18)), (52, ((some 126), (.bool true))), (51, ((some 125), (.bool true))), (50, ((some 124), (.bool true))), (49, ((some 123), (vi 0))), (48, ((some 122), (vi 0))), (47, ((some 121), vTWq21)), (46, ((some 120), (.chan (some 0)))), (45, ((some 119), vTWq18)), (44, ((some 118), (vi 0))), (43, ((some 117), (vi 0))), (42, ((some 116), vTWq21)), (41, ((some 115), (.chan (some 0)))), (40, ((some 114), vTWq18)), (39, ((some 113), (vi 0))), (38, ((some 112), vTWq21)), (37, ((some 111), (.chan (some 0)))), (36, ((some 110), vTWq18)), (35, ((some 109), (.bool true))), (34, ((some 108), (.bool true))), (33, ((some 107), (.bool true))), (32, ((some 106), (vi 0))), (31, ((some 105), (.chan (some 0)))), (30, ((some 104), vTWq18)), (29, ((some 103), (.bool true))), (28, ((some 102), (.bool true))), (27, ((some 101), (.bool true))), (26, ((some 100), (vi 7))), (25, ((some 99), (vi 7))), (24, ((some 98), (.chan (some 0)))), (23, ((some 97), vTWq18)), (22, ((some 96), (.bool true))), (21, ((some 95), (.bool true))), (20, ((some 94), (.bool true))), (19, ((some 93), (vi 7))), (18, ((some 92), (vi 7))), (17, ((some 91), (.chan (some 0)))), (16, ((some 90), (vi 16384))), (15, ((some 89), (vp 2711 2))), (14, ((some 88), vTWq20)), (13, ((some 87), vTWq18)), (12, ((some 86), (.bool true))), (11, ((some 85), (.bool true))), (10, ((some 84), (.bool true))), (9, ((some 83), (vi 7))), (8, ((some 82), (vi 7))), (7, ((some 81), (vi 16384))), (6, ((some 80), (vp 2711 2))), (5, ((some 79), vTWq20)), (4, ((some 78), (.chan (some 0)))), (3, ((some 77), vTWq18)), (2, ((some 76), (.bool true))), (1, ((some 75), (.bool true))), (0, ((some 74), (vi 7)))] [(.mk [(5335, (.cells [vTWq32])), (5333, oTWq2), (2713, (.cells [(vp 325 0)]))] [(2711, oTWq9), (2710, (.cells [(vi 16384)])), (1919, (.cells [(vi 12288)])), (1128, (.cells [(vi 8192)])), (338, oTWq4), (325, oTWq12), (314, oTWq6), (313, (.cells [(vi 0), (vi 0), (.bool true)])), (3, oTWq7), (2, oTWq1), (0, (.ext (.mk [] true 9223372036854775809)))] 5915), (.mk [(5335, (.cells [vTWq32])), (5333, oTWq2), (2713, (.cells [(vp 325 0)]))] [(2711, oTWq9), (2710, (.cells [(vi 16384)])), (1919, (.cells [(vi 12288)])), (1128, (.cells [(vi 8192)])), (338, oTWq4), (325, oTWq12), (314, oTWq6), (313, (.cells [(vi 0), (vi 0), (.bool true)])), (3, oTWq7), (2, oTWq1), (0, (.ext (.mk [] true 9223372036854775809)))] 5696), (.mk [(5335, (.cells [vTWq32])), (5333, oTWq2), (2713, (.cells [(vp 325 0)]))] [(2711, oTWq9), (2710, (.cells [(vi 16384)])), (1919, (.cells [(vi 12288)])), (1128, (.cells [(vi 8192)])), (338, oTWq4), (325, oTWq12), (314, oTWq6), (313, (.cells [(vi 0), (vi 0), (.bool true)])), (3, oTWq7), (2, oTWq1), (0, (.ext (.mk [] true 9223372036854775809)))] 5691), (.mk [(5335, (.cells [vTWq32])), (5333, oTWq2), (2713, (.cells [(vp 325 0)]))] [(2711, oTWq9), (2710, (.cells [(vi 16384)])), (1919, (.cells [(vi 12288)])), (1128, (.cells [(vi 8192)])), (338, oTWq4), (325, oTWq12), (314, oTWq6), (313, (.cells [(vi 0), (vi 0), (.bool true)])), (3, oTWq7), (2, oTWq1), (0, (.ext (.mk [] true 9223372036854775809)))] 5685), (.mk [(5335, (.cells [vTWq32])), (5333, oTWq2), (2713, (.cells [(vp 325 0)]))] [(2711, oTWq9), (2710, (.cells [(vi 16384)])), (1919, (.cells [(vi 12288)])), (1128, (.cells [(vi 8192)])), (338, oTWq4), (325, oTWq12), (314, oTWq6), (313, (.cells [(vi 0), (vi 0), (.bool true)])), (3, oTWq7), (2, oTWq1), (0, (.ext (.mk [] true 9223372036854775809)))] 5680), (.mk [(5335, (.cells [vTWq32])), (5333, oTWq2), (2713, (.cells [(vp 325 0)]))] [(2711, oTWq9), (2710, (.cells [(vi 16384)])), (1919, (.cells [(vi 12288)])), (1128, (.cells [(vi 8192)])), (338, oTWq4), (325, oTWq12), (314, oTWq6), (313, (.cells [(vi 0), (vi 0), (.bool true)])), (3, oTWq7), (2, oTWq1), (0, (.ext (.mk [] true 9223372036854775809)))] 5675), (.mk [(5335, (.cells [vTWq32])), (5333, oTWq2), (2713, (.cells [(vp 325 0)]))] [(2711, oTWq9), (2710, (.cells [(vi 16384)])), (1919, (.cells [(vi 12288)])), (1128, (.cells [(vi 8192)])), (338, oTWq4), (325, oTWq12), (314, oTWq6), (313, (.cells [(vi 0), (vi 0), (.bool true)])), (3, oTWq7), (2, oTWq1), (0, (.ext (.mk [] true 9223372036854775809)))] 5670), (.mk [(5335, (.cells [vTWq32])), (5333, oTWq2), (2713, (.cells [(vp 325 0)]))] [(2711, oTWq9), (2710, (.cells [(vi 16384)])), (1919, (.cells [(vi 12288)])), (1128, (.cells [(vi 8192)])), (338, oTWq4), (325, oTWq12), (314, oTWq6), (313, (.cells [(vi 0), (vi 0), (.bool true)])), (3, oTWq7), (2, oTWq1), (0, (.ext (.mk [] true 9223372036854775809)))] 5665), (.mk [(5335, (.cells [vTWq32])), (5333, oTWq2), (2713, (.cells [(vp 325 0)]))] [(2711, oTWq9), (2710, (.cells [(vi 16384)])), (1919, (.cells [(vi 12288)])), (1128, (.cells [(vi 8192)])), (338, oTWq4), (325, oTWq12), (314, oTWq6), (313, (.cells [(vi 0), (vi 0), (.bool true)])), (3, oTWq7), (2, oTWq1), (0, (.ext (.mk [] true 9223372036854775809)))] 5446), (.mk [(5335, (.cells [vTWq32])), (5333, oTWq2), (2713, (.cells [(vp 325 0)]))] [(2711, oTWq9), (2710, (.cells [(vi 16384)])), (1919, (.cells [(vi 12288)])), (1128, (.cells [(vi 8192)])), (338, oTWq4), (325, oTWq12), (314, oTWq6), (313, (.cells [(vi 0), (vi 0), (.bool true)])), (3, oTWq7), (2, oTWq1), (0, (.ext (.mk [] true 9223372036854775809)))] 5441)] [65, 56, 47, 42, 38, 32, 25, 18, 8] [] [(72, ((.mk 2711 0 none), (1, [(vi 8192)]))), (69, ((.mk 2713 0 none), (1, [(vp 325 0)]))), (63, ((.mk 2711 0 none), (1, [(vi 8192)]))), (60, ((.mk 2713 0 none), (1, [(vp 325 0)]))), (53, ((.mk 2713 0 none), (1, [(vp 325 0)]))), (45, ((.mk 2713 0 none), (1, [(vp 325 0)]))), (40, ((.mk 2713 0 none), (1, [(vp 325 0)]))), (36, ((.mk 2713 0 none), (1, [(vp 325 0)]))), (30, ((.mk 2713 0 none), (1, [(vp 325 0)]))), (23, ((.mk 2713 0 none), (1, [(vp 325 0)]))), (16, ((.mk 2711 2 none), (1, [(vi 16384)]))), (13, ((.mk 2713 0 none), (1, [(vp 325 0)]))), (7, ((.mk 2711 2 none), (1, [(vi 16384)]))), (3, ((.mk 2713 0 none), (1, [(vp 325 0)])))])),
    (.code (cdF F1 7 [1, 0, 1, 0, 1])),
    (.ret 7 1000 (some 0) [] [] 1 (cdR F1 7)),
    (.ops [])], .norm,
  [(21, (vi 128)), (20, (vi 12320)), (19, (vp 6742 1)), (18, (vp 2 0)), (17, (vp 6742 0)), (14, (.bool false)), (13, (vi 0)), (8, (vi 0)), (12, (vi 0)), (11, (vi 32)), (10, (vi 128)), (9, vTWq26), (7, (vi 0)), (6, (vp 6743 0)), (3, (vp 6742 0)), (0, vTWq26), (1, (vi 128)), (2, (vi 32))],
  ⟨[(6743, oTWq36), (6742, oTWq34)],
  [(6352, (.grown 1 3 [(vi 8192), (vi 12288)])), (6351, (.cells [(vi 12288)])), (6130, (.cells [(vi 8192)])), (2711, oTWq9), (2710, (.cells [(vi 16384)])), (1919, (.cells [(vi 12288)])), (1128, (.cells [(vi 8192)])), (338, oTWq4), (325, oTWq12), (314, oTWq6), (313, (.cells [(vi 0), (vi 0), (.bool true)])), (3, oTWq7), (2, oTWq1), (0, (.ext (.mk [] true 9223372036854775809)))], 6745⟩⟩
set_option maxRecDepth 1000000 in
theorem tTWB_3 : machS F1 cleanT (hookL hTW) 22000 sTWB_2 = some (sTWB_3 : Ms Ar) := by kernel_rfl
noncomputable def sTWB_4 : Ms Ar := ⟨1000, [], .norm,
  [(0, (.bool true))],
  ⟨[],
  [(0, (.ext (.mk [] true 9223372036854775809)))], 7047⟩⟩
set_option maxRecDepth 1000000 in
theorem tTWB_4 : machS F1 cleanT (hookL hTW) 22000 sTWB_3 = some (sTWB_4 : Ms Ar) := by kernel_rfl
theorem rTWB : ∃ h', run F1 cleanT (hookL hTW) 1000 7 [.chan (some 0)] (⟨[(0, tkO kB)], 1⟩ : Hp Ar) = some (.bool true, h') := by
  have h0 := Ms.callA_den (F := F1) (clean := cleanT) (hook := hookL hTW) 1000 7 [.chan (some 0)] (⟨[(0, tkO kB)], 1⟩ : Hp Ar)
  rw [machS_den tTWB_1] at h0
  rw [machS_den tTWB_2] at h0
  rw [machS_den tTWB_3] at h0
  rw [machS_den tTWB_4] at h0
  exact ⟨_, h0.symm.trans (Ms.end_den rfl)⟩
end Go.AI
/- A reckoning, piece by piece. -/
namespace Go.AI
open Go.Proofs
noncomputable def sTW0_1 : Ms Ar := ⟨991, [(.ret 229 992 (some 20) [(19, (vi 4)), (18, (vi 4)), (17, vTWq5), (15, (.bool false)), (14, (vi 0)), (9, (vi 0)), (13, (vi 0)), (12, (vi 4)), (11, vTWq5), (8, (vi 0)), (4, (vp 1489 0)), (0, vTWq5), (1, (vi 4)), (2, (vi 4)), (3, (vw 0))] [(1489, (.cells [(vp 1 0), (vi 12288), (vi 32)]))] 1491 (cdR F1 229)),
    (.ops (cdO F1 207 [1, 1, 0, 0] 4)),
    (.code (cdF F1 207 [1, 1, 0, 1])),
    (.code (cdF F1 207 [1, 1, 1])),
    (.ret 207 993 (some 0) [] [(1471, (.cells [(vp 1 0), (vi 12288), (vi 32)])), (1470, oTWq23)] 1489 (cdR F1 207)),
    (.drc (cdD F1 268 [1, 1, 0]) (cdB F1 268 [1, 1, 0]) (List.drop 11 (cdD F1 268 [1, 1, 0])) 1474 10 (some 30) [(14, (.bool false)), (19, (.bool false)), (18, (.bool true)), (17, (vw 0)), (16, (vi 1)), (15, vTWq3), (9, (.bool false)), (13, (.bool false)), (12, (.bool true)), (11, (vi 1)), (10, vTWq3), (8, (vi 0)), (5, (vp 1471 0)), (4, (vp 1470 0)), (0, vTWq3), (1, vTWq5), (2, (vi 1)), (3, (vw 0))] (.mk [(9, ((some 29), (vw 0))), (8, ((some 28), (vi 4))), (7, ((some 27), (vp 1427 1))), (6, ((some 26), (vi 1))), (5, ((some 25), vTWq24)), (4, ((some 24), (vp 1470 0))), (3, ((some 23), (vi 4))), (2, ((some 22), (vi 1))), (1, ((some 21), vTWq3)), (0, ((some 20), vTWq5))] [(.mk [(1471, (.cells [(vp 1 0), (vi 12288), (vi 32)])), (1470, oTWq23)] [(1420, oTWq22), (1427, oTWq14), (1426, (.cells [])), (1424, oTWq15), (1128, (.grown 1 3 [(vi 8192)])), (1127, (.cells [(vi 8192)])), (337, oTWq0), (324, oTWq5), (313, oTWq6), (312, (.cells [(vi 0), (vi 0), (.bool true)])), (2, oTWq3), (1, oTWq10)] 1489), (.mk [(1471, (.cells [(vp 1 0), (vi 12288), (vi 32)])), (1470, oTWq23)] [(1420, oTWq22), (1427, oTWq14), (1426, (.cells [])), (1424, oTWq15), (1128, (.grown 1 3 [(vi 8192)])), (1127, (.cells [(vi 8192)])), (337, oTWq0), (324, oTWq5), (313, oTWq6), (312, (.cells [(vi 0), (vi 0), (.bool true)])), (2, oTWq3), (1, oTWq10)] 1486)] [3] [] [(8, ((.mk 1427 1 none), (1, [(vi 4)]))), (5, ((.mk 1470 0 none), (1, [vTWq24]))), (1, ((.mk 1470 0 none), (1, [vTWq24]))), (0, ((.mk 1471 0 none), (3, [(vp 1 0), (vi 12288), (vi 32)])))])),
    (.code (cdF F1 268 [1, 0, 0, 1, 0, 1])),
    (.ret 268 994 (some 53) [(52, (vw 0)), (51, (vi 1)), (50, vTWq5), (49, vTWq3), (12, (vw 0)), (11, (vi 1)), (48, (vw 0)), (47, (vp 1420 1)), (46, (vi 1)), (45, (.bool true)), (44, (vi 1)), (54, (vi 1)), (53, (vi 0)), (52, (vw 1263421507)), (51, (vi 0)), (50, vTWq5), (49, vTWq3), (12, (vw 1263421507)), (11, (vi 0)), (48, (vw 1263421507)), (47, (vp 1420 0)), (46, (vi 0)), (45, (.bool true)), (44, (vi 0)), (43, (vi 4)), (42, vTWq22), (40, (.bool false)), (39, (vi 0)), (10, (vi 0)), (9, vTWq0), (38, (vi 0)), (37, vTWq0), (32, vTWq47), (36, vTWq47), (35, (vi 24)), (34, vTWq3), (33, vTWq5), (22, (.bool false)), (21, (vi 4)), (31, (vi 4)), (30, (.bool false)), (29, (.bool true)), (28, (vw 0)), (27, (vi 3)), (26, vTWq3), (8, (vw 0)), (7, (vi 3)), (25, (vw 0)), (24, (vp 1420 3)), (23, (vi 3)), (22, (.bool true)), (21, (vi 3)), (31, (vi 3)), (30, (.bool false)), (29, (.bool true)), (28, (vw 2)), (27, (vi 2)), (26, vTWq3), (8, (vw 2)), (7, (vi 2)), (25, (vw 2)), (24, (vp 1420 2)), (23, (vi 2)), (22, (.bool true)), (21, (vi 2)), (31, (vi 2)), (30, (.bool false)), (29, (.bool true)), (28, (vw 0)), (27, (vi 1)), (26, vTWq3), (8, (vw 0)), (7, (vi 1)), (25, (vw 0)), (24, (vp 1420 1)), (23, (vi 1)), (22, (.bool true)), (20, (vi 4)), (19, vTWq22), (18, (.bool false)), (17, (vi 4)), (16, vTWq24), (15, (vp 1429 0)), (14, (vi 4)), (13, vTWq22), (6, (vi 0)), (4, (vp 1430 0)), (3, (vp 1429 0)), (0, vTWq3), (1, vTWq5), (2, vTWq22)] [(1430, (.cells [(vp 1 0), (vi 12288), (vi 32)])), (1429, oTWq23)] 1470 (cdR F1 268)),
    (.ops []),
    (.block 3),
    (.code (cdF F1 205 [1, 1, 1, 1, 0, 1, 0, 0, 1, 1, 1])),
    (.loop (cdF F1 205 [1, 1, 1, 1, 0, 1, 0, 0]) 992),
    (.block 2),
    (.code (cdF F1 205 [1, 1, 1, 1, 1])),
    (.ret 205 995 (some 0) [] [(1409, (.cells [(vp 1 0), (vi 12288), (vi 32)])), (1407, oTWq19)] 1429 (cdR F1 205)),
    (.drc (cdD F1 270 [1, 1, 1, 1, 0]) (cdB F1 270 [1, 1, 1, 1, 0]) (List.drop 12 (cdD F1 270 [1, 1, 1, 1, 0])) 1410 11 (some 52) [(39, (.bool false)), (38, (vi 0)), (6, (vi 0)), (5, (vp 1409 0)), (37, (vi 0)), (36, vTWq5), (31, vTWq45), (35, vTWq45), (34, (vi 12288)), (33, (vp 1407 0)), (32, (vp 1 0)), (10, (.bool false)), (30, (.bool false)), (29, (.bool false)), (28, (vi 4096)), (27, (vi 0)), (26, (vp 1407 1)), (25, (.bool false)), (24, (.bool false)), (23, (.bool false)), (22, (vi 0)), (21, (vp 1407 3)), (20, (.bool false)), (19, (.bool false)), (18, (.bool false)), (17, (vi 0)), (16, (vi 12288)), (15, (vp 1407 0)), (14, (.bool false)), (13, (.bool false)), (12, (vi 12288)), (11, (vp 1407 0)), (7, (.bool false)), (9, (.bool false)), (8, (vp 1 0)), (4, (vi 0)), (3, (vp 1407 0)), (0, (vp 1 0)), (1, vTWq17)] (.mk [(10, ((some 51), vTWq22)), (9, ((some 50), (vw 0))), (8, ((some 49), (vi 0))), (7, ((some 48), (vp 1407 3))), (6, ((some 47), (vw 2))), (5, ((some 46), (vp 1407 2))), (4, ((some 45), (vw 0))), (3, ((some 44), (vi 0))), (2, ((some 43), (vp 1407 1))), (1, ((some 42), vTWq5)), (0, ((some 41), vTWq3))] [(.mk [(1409, (.cells [(vp 1 0), (vi 12288), (vi 32)])), (1407, oTWq19)] [(1427, oTWq14), (1426, (.cells [])), (1424, oTWq15), (1128, (.grown 1 3 [(vi 8192)])), (1127, (.cells [(vi 8192)])), (337, oTWq0), (324, oTWq5), (313, oTWq6), (312, (.cells [(vi 0), (vi 0), (.bool true)])), (2, oTWq3), (1, oTWq11)] 1429), (.mk [(1409, (.cells [(vp 1 0), (vi 12288), (vi 32)])), (1407, oTWq19)] [(1128, (.grown 1 3 [(vi 8192)])), (1127, (.cells [(vi 8192)])), (337, oTWq0), (324, oTWq5), (313, oTWq6), (312, (.cells [(vi 0), (vi 0), (.bool true)])), (2, oTWq3), (1, oTWq11)] 1423)] [0] [(10, (true, oTWq22))] [(8, ((.mk 1407 3 none), (1, [(vi 0)]))), (6, ((.mk 1407 2 none), (1, [(vw 2)]))), (3, ((.mk 1407 1 none), (1, [(vi 0)]))), (1, ((.mk 1409 0 none), (3, [(vp 1 0), (vi 12288), (vi 32)])))])),
    (.code (cdF F1 270 [1, 0, 0, 1, 0, 1])),
    (.ret 270 996 (some 0) [] [(1131, oTWq19), (1130, oTWq18)] 1407 (cdR F1 270)),
    (.drc (cdD F1 216 [1, 1, 1, 1, 1, 0]) (cdB F1 216 [1, 1, 1, 1, 1, 0]) (List.drop 9 (cdD F1 216 [1, 1, 1, 1, 1, 0])) 1398 8 (some 71) [(62, (vp 1131 2)), (61, (vw 2)), (60, vTWq53), (59, (vi 0)), (58, (vi 12288)), (55, (.bool false)), (54, (vi 0)), (12, (vi 0)), (11, (vi 12288)), (53, (vi 0)), (52, (vi 12288)), (48, vTWq44), (51, vTWq44), (50, (vi 0)), (49, (vp 324 0)), (38, (.bool false)), (10, (.bool false)), (9, (vi 0)), (37, (.bool false)), (36, (vi 0)), (29, vTWq23), (35, vTWq23), (34, (vi 0)), (33, vTWq50), (32, (vp 324 4)), (31, (vp 324 0)), (30, (vp 324 0)), (8, (vp 1131 0)), (17, (.bool false)), (27, (.bool false)), (26, (.bool false)), (25, (vw 2)), (24, (.bool false)), (23, (.bool false)), (22, (.bool false)), (21, (vi 0)), (20, (.bool false)), (19, (.bool false)), (18, (vi 0)), (13, (.bool false)), (15, (.bool false)), (14, (vp 324 0)), (7, (vi 0)), (6, (vp 1130 0)), (0, (vp 324 0)), (1, (vi 0)), (2, (vw 2))] (.mk [(7, ((some 70), vTWq17)), (6, ((some 69), (vp 1 0))), (5, ((some 68), (vp 2 0))), (4, ((some 67), (vp 2 0))), (3, ((some 66), (vp 2 0))), (2, ((some 65), (vp 324 0))), (1, ((some 64), (vp 324 0))), (0, ((some 63), (vp 324 0)))] [(.mk [(1131, oTWq19), (1130, oTWq18)] [(1128, (.grown 1 3 [(vi 8192)])), (1127, (.cells [(vi 8192)])), (337, oTWq0), (324, oTWq5), (313, oTWq6), (312, (.cells [(vi 0), (vi 0), (.bool true)])), (2, oTWq3), (1, oTWq11)] 1407)] [] [] [(7, ((.mk 1131 0 none), (4, [(vi 12288), (vi 0), (vw 2), (vi 0)]))), (6, ((.mk 2 0 none), (1, [(vp 1 0)]))), (3, ((.mk 324 0 none), (1, [(vp 2 0)])))])),
    (.code (cdF F1 216 [1, 1, 1, 1, 1, 1])),
    (.ret 216 997 (some 31) [(30, (vw 2)), (29, (vi 0)), (28, (vp 324 0)), (22, (.bool false)), (25, (.bool false)), (24, (vi 1)), (23, vTWq13), (18, (.bool false)), (20, (.bool false)), (19, (vw 2)), (14, (.bool false)), (16, (.bool false)), (15, (vp 324 0)), (9, (vi 0)), (8, (vp 1129 0)), (0, (vp 324 0)), (1, (vi 0)), (2, (vw 2)), (3, vTWq13)] [(1129, oTWq2)] 1130 (cdR F1 216)),
    (.ops (cdO F1 132 [1, 1, 0] 4)),
    (.code (cdF F1 132 [1, 1, 1])),
    (.ret 132 998 (some 29) [(28, (vw 2)), (27, (vi 2)), (26, (vi 1)), (25, (vp 324 0)), (24, (vp 337 0)), (23, (vp 337 0)), (22, (vp 337 0)), (8, (vi 1)), (20, (vi 1)), (19, (.bool true)), (18, (vi 1)), (42, (vi 1)), (7, vTWq31), (41, vTWq31), (40, vTWq55), (39, (vi 8192)), (38, vTWq2), (37, vTWq21), (6, (.bool true)), (36, (.bool true)), (35, (.bool true)), (34, (vi 0)), (33, (.bool true)), (32, (.bool true)), (10, (vi 0)), (9, (vp 1124 0)), (31, (vi 0)), (30, vTWq2), (21, vTWq39), (29, vTWq39), (28, (vw 1)), (27, (vi 1)), (26, (vi 0)), (25, (vp 324 0)), (24, (vp 337 0)), (23, (vp 337 0)), (22, (vp 337 0)), (8, (vi 0)), (20, (vi 0)), (19, (.bool true)), (18, (vi 0)), (17, (vi 3)), (16, (vi 3)), (15, (vi 3)), (7, vTWq21), (6, (.bool true)), (5, (vp 337 0)), (14, (.bool true)), (13, (vp 337 0)), (11, vTWq29), (12, vTWq29), (4, (.bool false)), (3, vTWq21), (2, vTWq32), (0, (vi 3))] [(1124, oTWq21)] 1129 (cdR F1 132)),
    (.ops (cdO F1 60 [1, 1, 1, 0, 1, 0, 0, 1, 1, 0, 0, 1, 0] 8)),
    (.code (cdF F1 60 [1, 1, 1, 0, 1, 0, 0, 1, 1, 0, 0, 1, 1])),
    (.block 1),
    (.code (cdF F1 60 [1, 1, 1, 0, 1, 0, 0, 1, 1, 1])),
    (.loop (cdF F1 60 [1, 1, 1, 0, 1, 0, 0]) 996),
    (.block 0),
    (.code (cdF F1 60 [1, 1, 1, 1])),
    (.ret 60 999 (some 13) [(11, (.bool false)), (10, (.bool true)), (2, (.bool false)), (0, (vi 0))] [] 0 (cdR F1 60)),
    (.ops (cdO F1 7 [1, 1, 0] 1)),
    (.code (cdF F1 7 [1, 1, 1])),
    (.ret 7 1000 (some 0) [] [] 0 (cdR F1 7)),
    (.ops [])], .ret,
  [(6, (vi 0)), (11, (.bool false)), (31, (.bool false)), (30, (.bool false)), (29, (vi 28)), (28, (vi 4)), (27, (vi 32)), (26, (vp 1491 2)), (25, (vi 4)), (24, (.bool false)), (23, (.bool false)), (22, (.bool false)), (21, (vi 32)), (20, (vp 1491 2)), (19, (vi 4)), (18, (.bool false)), (17, (.bool false)), (16, (.bool false)), (15, (vi 4)), (14, (.bool false)), (13, (.bool false)), (12, (vi 4)), (7, (.bool false)), (10, (.bool false)), (9, (vp 1 0)), (8, (vp 1491 0)), (6, (vi 0)), (3, (vp 1491 0)), (0, vTWq5), (1, (vi 4)), (2, (vi 4))],
  ⟨[(1491, (.cells [(vp 1 0), (vi 12288), (vi 32)]))],
  [(1420, oTWq22), (1427, oTWq14), (1426, (.cells [])), (1424, oTWq15), (1128, (.grown 1 3 [(vi 8192)])), (1127, (.cells [(vi 8192)])), (337, oTWq0), (324, oTWq5), (313, oTWq6), (312, (.cells [(vi 0), (vi 0), (.bool true)])), (2, oTWq3), (1, oTWq10)], 1492⟩⟩
set_option maxRecDepth 1000000 in
theorem tTW0_1 : machS F1 cleanT (hookL h19a) 33000 (Ms.callA 1000 7 [.int .i64 (.ofNat 0)] ⟨[], 0⟩ : Ms Ar) = some (sTW0_1 : Ms Ar) := by kernel_rfl
noncomputable def sTW0_2 : Ms Ar := ⟨994, [(.drc (cdD F1 158 [1, 0]) (cdB F1 158 [1, 0]) (List.drop 11 (cdD F1 158 [1, 0])) 3527 10 (some 22) [(5, (vi 0)), (4, (vp 3526 0)), (3, (vp 3525 0)), (0, (vp 324 0)), (1, vTWq7)] (.mk [(9, ((some 21), (vi 8224))), (8, ((some 20), (vi 8192))), (7, ((some 19), (vp 3525 0))), (6, ((some 18), (vp 1 0))), (5, ((some 17), (vp 2 0))), (4, ((some 16), (vp 2 0))), (3, ((some 15), (vp 2 0))), (2, ((some 14), (vp 324 0))), (1, ((some 13), (vp 324 0))), (0, ((some 12), (vp 324 0)))] [(.mk [(3526, oTWq2), (3525, oTWq20)] [(2710, oTWq9), (2709, (.cells [(vi 16384)])), (1918, (.cells [(vi 12288)])), (1127, (.cells [(vi 8192)])), (337, oTWq0), (324, oTWq5), (313, oTWq6), (312, (.cells [(vi 0), (vi 0), (.bool true)])), (2, oTWq3), (1, oTWq8)] 3544)] [] [] [(8, ((.mk 3525 0 none), (1, [(vi 8192)]))), (6, ((.mk 2 0 none), (1, [(vp 1 0)]))), (3, ((.mk 324 0 none), (1, [(vp 2 0)])))])),
    (.code (cdF F1 158 [1, 1])),
    (.ret 158 995 (some 33) [(32, vTWq7), (31, (vp 324 0)), (27, (.bool false)), (26, (vi 0)), (7, (vi 0)), (6, (vp 3524 0)), (25, (vi 0)), (24, vTWq7), (14, vTWq28), (23, vTWq28), (22, (vi 8192)), (21, (vp 1 0)), (20, (vp 2 0)), (19, (vp 2 0)), (18, (vp 2 0)), (17, (vp 324 0)), (16, (vp 324 0)), (15, (vp 324 0)), (12, (.bool false)), (11, (vp 324 0)), (5, (vi 0)), (4, (vp 3376 0)), (0, (vp 324 0)), (1, (vi 8192))] [(3524, oTWq20), (3376, oTWq2)] 3525 (cdR F1 158)),
    (.ops (cdO F1 64 [1, 1, 1, 1, 0] 3)),
    (.code (cdF F1 64 [1, 1, 1, 1, 1])),
    (.ret 64 996 (some 11) [(10, (vi 8192)), (9, (vp 324 0)), (8, (vp 3375 0)), (4, (vi 0)), (2, (vp 3375 0)), (0, vTWq8), (1, (vi 8192))] [(3375, (.cells [(vp 324 0)]))] 3376 (cdR F1 64)),
    (.ops (cdO F1 154 [1, 0] 4)),
    (.code (cdF F1 154 [1, 1])),
    (.ret 154 997 (some 9) [(8, (vi 8192)), (7, vTWq8), (6, (.bool false)), (3, (vp 3374 0)), (0, vTWq8), (1, (vi 8192)), (2, (vi 12288))] [(3374, (.cells [(vp 324 0)]))] 3375 (cdR F1 154)),
    (.ops (cdO F1 70 [1, 0, 0] 3)),
    (.code (cdF F1 70 [1, 0, 1])),
    (.code (cdF F1 70 [1, 1])),
    (.ret 70 998 (some 32) [(31, (vi 12288)), (30, (vi 8192)), (29, vTWq8), (23, (.bool false)), (27, (.bool false)), (26, (vi 0)), (25, (vi 12288)), (24, vTWq8), (19, (.bool false)), (21, (.bool false)), (20, (vi 0)), (8, (vi 0)), (18, (vi 0)), (17, (vi 12288)), (16, vTWq8), (14, (.bool false)), (13, (vi 0)), (7, (vi 0)), (12, (vi 0)), (11, (vi 8192)), (10, vTWq8), (6, (vi 0)), (3, (vp 2726 0)), (0, vTWq8), (1, (vi 8192)), (2, (vi 12288))] [(2726, (.cells [(vp 324 0)]))] 3374 (cdR F1 70)),
    (.ops (cdO F1 62 [1, 1, 0, 1, 0, 1, 1, 1, 1, 0] 4)),
    (.code (cdF F1 62 [1, 1, 0, 1, 0, 1, 1, 1, 1, 1])),
    (.block 0),
    (.code (cdF F1 62 [1, 1, 1])),
    (.ret 62 999 (some 0) [] [(2712, (.cells [(vp 324 0)]))] 2726 (cdR F1 62)),
    (.drc (cdD F1 7 [1, 1, 1, 1, 0, 0]) (cdB F1 7 [1, 1, 1, 1, 0, 0]) (List.drop 11 (cdD F1 7 [1, 1, 1, 1, 0, 0])) 2713 10 (some 32) [(6, (vp 2712 0)), (21, vTWq8), (20, (vp 324 0)), (19, (vp 337 0)), (18, (vp 337 0)), (17, (vp 337 0)), (5, (.bool true)), (4, vTWq6), (3, (vp 337 0)), (16, (.bool true)), (15, vTWq6), (14, (vp 337 0)), (12, vTWq15), (13, vTWq15), (11, (.bool false)), (10, (.bool true)), (2, (.bool false)), (0, (vi 0))] (.mk [(9, ((some 31), (vi 12288))), (8, ((some 30), (vp 2710 1))), (7, ((some 29), vTWq6)), (6, ((some 28), (vi 8192))), (5, ((some 27), (vp 2710 0))), (4, ((some 26), vTWq6)), (3, ((some 25), vTWq8)), (2, ((some 24), (.bool false))), (1, ((some 23), (.bool false))), (0, ((some 22), (.bool true)))] [(.mk [(2712, (.cells [(vp 324 0)]))] [(2710, oTWq9), (2709, (.cells [(vi 16384)])), (1918, (.cells [(vi 12288)])), (1127, (.cells [(vi 8192)])), (337, oTWq0), (324, oTWq5), (313, oTWq6), (312, (.cells [(vi 0), (vi 0), (.bool true)])), (2, oTWq3), (1, oTWq8)] 2726)] [] [] [(9, ((.mk 2710 1 none), (1, [(vi 12288)]))), (6, ((.mk 2710 0 none), (1, [(vi 8192)]))), (3, ((.mk 2712 0 none), (1, [(vp 324 0)])))])),
    (.code (cdF F1 7 [1, 1, 1, 1, 0, 1])),
    (.code (cdF F1 7 [1, 1, 1, 1, 1])),
    (.ret 7 1000 (some 0) [] [] 0 (cdR F1 7)),
    (.ops [])], .norm,
  [(0, vTWq38)],
  ⟨[(3526, oTWq2), (3525, oTWq20)],
  [(2710, oTWq9), (2709, (.cells [(vi 16384)])), (1918, (.cells [(vi 12288)])), (1127, (.cells [(vi 8192)])), (337, oTWq0), (324, oTWq5), (313, oTWq6), (312, (.cells [(vi 0), (vi 0), (.bool true)])), (2, oTWq3), (1, oTWq8)], 3545⟩⟩
set_option maxRecDepth 1000000 in
theorem tTW0_2 : machS F1 cleanT (hookL h19a) 33000 sTW0_1 = some (sTW0_2 : Ms Ar) := by kernel_rfl
noncomputable def sTW0_3 : Ms Ar := ⟨993, [(.ops (cdO F1 230 [1, 1, 0, 1, 0, 0, 1, 1, 0, 0, 1, 0] 3)),
    (.code (cdF F1 230 [1, 1, 0, 1, 0, 0, 1, 1, 0, 0, 1, 1])),
    (.block 2),
    (.code (cdF F1 230 [1, 1, 0, 1, 0, 0, 1, 1, 1])),
    (.loop (cdF F1 230 [1, 1, 0, 1, 0, 0]) 989),
    (.block 1),
    (.code (cdF F1 230 [1, 1, 1])),
    (.ret 230 994 (some 5) [(4, vTWq36), (0, (vp 6119 0))] [(6119, (.cells [vTWq21]))] 6121 (cdR F1 230)),
    (.ops (cdO F1 236 [1, 0] 2)),
    (.code (cdF F1 236 [1, 1])),
    (.ret 236 995 (some 0) [] [(6110, (.cells [(vp 1 0), (vi 0), (vi 32)])), (6108, oTWq18)] 6119 (cdR F1 236)),
    (.drc (cdD F1 157 [1, 1, 1, 0]) (cdB F1 157 [1, 1, 1, 0]) (List.drop 1 (cdD F1 157 [1, 1, 1, 0])) 6111 0 (some 22) [(18, (.bool false)), (17, (vi 0)), (7, (vi 0)), (6, (vp 6110 0)), (16, (vi 0)), (15, vTWq69), (11, (.tuple (.mk [vTWq69, (vi 0)]))), (14, (.tuple (.mk [vTWq69, (vi 0)]))), (13, (vi 0)), (12, (vp 1 0)), (5, (vi 0)), (4, (vp 6108 0)), (0, (vp 1 0)), (1, (vi 0))] (.mk [] [(.mk [(6110, (.cells [(vp 1 0), (vi 0), (vi 32)])), (6108, oTWq18)] [(2710, oTWq9), (2709, (.cells [(vi 16384)])), (1918, (.cells [(vi 12288)])), (1127, (.cells [(vi 8192)])), (337, oTWq0), (324, oTWq5), (313, oTWq6), (312, (.cells [(vi 0), (vi 0), (.bool true)])), (2, oTWq3), (1, oTWq1)] 6119)] [] [] [])),
    (.code (cdF F1 157 [1, 1, 1, 1])),
    (.ret 157 996 (some 23) [(22, (vi 0)), (21, (vp 1 0)), (20, (vp 2 0)), (19, (vp 2 0)), (18, (vp 2 0)), (17, (vp 324 0)), (16, (vp 324 0)), (15, (vp 324 0)), (12, (.bool false)), (11, (vp 324 0)), (5, (vi 0)), (4, (vp 6107 0)), (0, (vp 324 0)), (1, (vi 0))] [(6107, oTWq2)] 6108 (cdR F1 157)),
    (.ops (cdO F1 64 [1, 1, 0] 9)),
    (.code (cdF F1 64 [1, 1, 1])),
    (.ret 64 997 (some 11) [(10, (vi 0)), (9, (vp 324 0)), (8, (vp 6106 0)), (4, (vi 0)), (2, (vp 6106 0)), (0, vTWq8), (1, (vi 0))] [(6106, (.cells [(vp 324 0)]))] 6107 (cdR F1 64)),
    (.ops (cdO F1 154 [1, 0] 4)),
    (.code (cdF F1 154 [1, 1])),
    (.ret 154 998 (some 13) [(12, (vi 0)), (11, vTWq8), (4, (vi 0)), (2, (vp 6105 0)), (0, vTWq8), (1, (vi 0))] [(6105, (.cells [(vp 324 0)]))] 6106 (cdR F1 154)),
    (.ops (cdO F1 65 [1, 0, 0] 3)),
    (.code (cdF F1 65 [1, 0, 1])),
    (.code (cdF F1 65 [1, 1])),
    (.ret 65 999 (some 0) [] [(5481, (.cells [vTWq32])), (5479, oTWq2), (2712, (.cells [(vp 324 0)]))] 6105 (cdR F1 65)),
    (.drc (cdD F1 7 [1, 1, 1, 1, 1, 1, 1, 1, 0]) (cdB F1 7 [1, 1, 1, 1, 1, 1, 1, 1, 0]) (List.drop 26 (cdD F1 7 [1, 1, 1, 1, 1, 1, 1, 1, 0])) 5482 25 (some 99) [(9, (vp 5481 0)), (73, (.agg (.mk [vTWq32]))), (8, (vi 7)), (7, (vp 5479 0)), (72, (vi 7)), (71, vTWq9), (64, vTWq57), (70, vTWq57), (69, (vi 0)), (68, (vp 324 0)), (67, (vp 337 0)), (66, (vp 337 0)), (65, (vp 337 0)), (37, (.bool false)), (36, (vi 0)), (35, vTWq6), (34, (.bool false)), (33, (.bool false)), (32, (vi 0)), (31, (vi 12288)), (30, (vp 2710 1)), (29, vTWq6), (28, (vi 8192)), (27, (vp 2710 0)), (26, vTWq6), (25, vTWq8), (24, (.bool false)), (23, (.bool false)), (22, (.bool true)), (6, (vp 2712 0)), (21, vTWq8), (20, (vp 324 0)), (19, (vp 337 0)), (18, (vp 337 0)), (17, (vp 337 0)), (5, (.bool true)), (4, vTWq6), (3, (vp 337 0)), (16, (.bool true)), (15, vTWq6), (14, (vp 337 0)), (12, vTWq15), (13, vTWq15), (11, (.bool false)), (10, (.bool true)), (2, (.bool false)), (0, (vi 0))] (.mk [(24, ((some 98), (vi 0))), (23, ((some 97), vTWq8)), (22, ((some 96), (.bool true))), (21, ((some 95), (.bool true))), (20, ((some 94), (.bool true))), (19, ((some 93), (vi 7))), (18, ((some 92), (vi 7))), (17, ((some 91), (vi 0))), (16, ((some 90), (vi 16384))), (15, ((some 89), (vp 2710 2))), (14, ((some 88), vTWq6)), (13, ((some 87), vTWq8)), (12, ((some 86), (.bool true))), (11, ((some 85), (.bool true))), (10, ((some 84), (.bool true))), (9, ((some 83), (vi 7))), (8, ((some 82), (vi 7))), (7, ((some 81), (vi 16384))), (6, ((some 80), (vp 2710 2))), (5, ((some 79), vTWq6)), (4, ((some 78), (vi 0))), (3, ((some 77), vTWq8)), (2, ((some 76), (.bool true))), (1, ((some 75), (.bool true))), (0, ((some 74), (vi 7)))] [(.mk [(5481, (.cells [vTWq32])), (5479, oTWq2), (2712, (.cells [(vp 324 0)]))] [(2710, oTWq9), (2709, (.cells [(vi 16384)])), (1918, (.cells [(vi 12288)])), (1127, (.cells [(vi 8192)])), (337, oTWq0), (324, oTWq5), (313, oTWq6), (312, (.cells [(vi 0), (vi 0), (.bool true)])), (2, oTWq3), (1, oTWq1)] 6105), (.mk [(5481, (.cells [vTWq32])), (5479, oTWq2), (2712, (.cells [(vp 324 0)]))] [(2710, oTWq9), (2709, (.cells [(vi 16384)])), (1918, (.cells [(vi 12288)])), (1127, (.cells [(vi 8192)])), (337, oTWq0), (324, oTWq5), (313, oTWq6), (312, (.cells [(vi 0), (vi 0), (.bool true)])), (2, oTWq3), (1, oTWq1)] 5739), (.mk [(5481, (.cells [vTWq32])), (5479, oTWq2), (2712, (.cells [(vp 324 0)]))] [(2710, oTWq9), (2709, (.cells [(vi 16384)])), (1918, (.cells [(vi 12288)])), (1127, (.cells [(vi 8192)])), (337, oTWq0), (324, oTWq5), (313, oTWq6), (312, (.cells [(vi 0), (vi 0), (.bool true)])), (2, oTWq3), (1, oTWq1)] 5587)] [18, 8] [] [(23, ((.mk 2712 0 none), (1, [(vp 324 0)]))), (16, ((.mk 2710 2 none), (1, [(vi 16384)]))), (13, ((.mk 2712 0 none), (1, [(vp 324 0)]))), (7, ((.mk 2710 2 none), (1, [(vi 16384)]))), (3, ((.mk 2712 0 none), (1, [(vp 324 0)])))])),
    (.code (cdF F1 7 [1, 0, 1, 0, 1])),
    (.ret 7 1000 (some 0) [] [] 0 (cdR F1 7)),
    (.ops [])], .norm,
  [(24, (.bool true)), (23, (.bool true)), (22, (vi 8)), (5, (vi 8)), (21, (vi 8)), (20, (vp 6120 3)), (19, (.bool true)), (18, (vi 3)), (37, (vi 3)), (35, (.bool false)), (34, (.bool false)), (33, (vi 8)), (32, (.bool true)), (31, (.bool true)), (30, (.bool true)), (29, (vi 8)), (28, (.bool true)), (27, (.bool true)), (26, (.bool true)), (25, (vi 8)), (24, (.bool true)), (23, (.bool true)), (22, (vi 8)), (5, (vi 8)), (21, (vi 8)), (20, (vp 6120 2)), (19, (.bool true)), (18, (vi 2)), (37, (vi 2)), (35, (.bool false)), (34, vTWq54), (33, vTWq54), (32, (.bool false)), (31, (.bool false)), (30, (.bool false)), (29, (vi 4)), (28, (.bool true)), (27, (.bool true)), (26, (.bool true)), (25, (vi 4)), (24, (.bool true)), (23, (.bool true)), (22, (vi 4)), (5, (vi 4)), (21, (vi 4)), (20, (vp 6120 1)), (19, (.bool true)), (18, (vi 1)), (37, (vi 1)), (35, (.bool false)), (34, vTWq54), (33, vTWq54), (32, (.bool false)), (31, (.bool false)), (30, (.bool false)), (29, (vi 4)), (28, (.bool true)), (27, (.bool true)), (26, (.bool true)), (25, (vi 4)), (24, (.bool true)), (23, (.bool true)), (22, (vi 4)), (5, (vi 4)), (21, (vi 4)), (20, (vp 6120 0)), (19, (.bool true)), (17, (vi 4)), (16, vTWq36), (11, (.bool false)), (14, (.bool false)), (13, (vi 4)), (12, vTWq36), (6, (.bool false)), (9, (.bool false)), (8, (vi 4)), (7, vTWq36), (3, (vi 0)), (2, (vp 6121 0)), (0, vTWq36)],
  ⟨[(6121, (.cells [vTWq21]))],
  [(6120, oTWq15), (2710, oTWq9), (2709, (.cells [(vi 16384)])), (1918, (.cells [(vi 12288)])), (1127, (.cells [(vi 8192)])), (337, oTWq0), (324, oTWq5), (313, oTWq6), (312, (.cells [(vi 0), (vi 0), (.bool true)])), (2, oTWq3), (1, oTWq1)], 6122⟩⟩
set_option maxRecDepth 1000000 in
theorem tTW0_3 : machS F1 cleanT (hookL h19a) 33000 sTW0_2 = some (sTW0_3 : Ms Ar) := by kernel_rfl
noncomputable def sTW0_4 : Ms Ar := ⟨1000, [], .norm,
  [(0, (.bool true))],
  ⟨[],
  [], 8516⟩⟩
set_option maxRecDepth 1000000 in
theorem tTW0_4 : machS F1 cleanT (hookL h19a) 33000 sTW0_3 = some (sTW0_4 : Ms Ar) := by kernel_rfl
theorem rTW0 : ∃ h', run F1 cleanT (hookL h19a) 1000 7 [.int .i64 (.ofNat 0)] (⟨[], 0⟩ : Hp Ar) = some (.bool true, h') := by
  have h0 := Ms.callA_den (F := F1) (clean := cleanT) (hook := hookL h19a) 1000 7 [.int .i64 (.ofNat 0)] (⟨[], 0⟩ : Hp Ar)
  rw [machS_den tTW0_1] at h0
  rw [machS_den tTW0_2] at h0
  rw [machS_den tTW0_3] at h0
  rw [machS_den tTW0_4] at h0
  exact ⟨_, h0.symm.trans (Ms.end_den rfl)⟩
end Go.AI
