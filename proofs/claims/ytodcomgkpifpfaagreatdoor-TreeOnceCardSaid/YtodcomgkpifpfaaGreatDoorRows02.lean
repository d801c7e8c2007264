/- millpondlaw02.rows at the chapter's example, a range over a function: walked by hand round by round, its regions by the evaluator. -/
import Derived.Test.YtodcomgkpifpfaaGreatDoorKHk
import Derived.Test.YtodcomgkpifpfaaGreatDoorTzLaid
import Derived.Test.YtodcomgkpifpfaaGreatDoorProg
import Derived.KernelRfl
import Derived.Eval
namespace Go.AI
open Go.Proofs
def escAll:Nat → Nat → Bool:=fun _ _=>true
noncomputable abbrev PZ:Program:=Tryz.prog
noncomputable def F0:Nat → Option IFn:=mkFn PZ escAll
def hook0 {X:Type}:Hook X:=fun k=>bif Nat.beq k 198 then some tz64H else bif Nat.beq k 197 then some tz32H else none
noncomputable def call0 {X:Type}:CallFn X:=run F0 (fun _=>false) hook0 60
def e_o0:List (Nat × Value):=[(2,(.slice none 0 0)),(1,(.pointer (some (.mk 48 0 none)))),(0,(.agg (.mk [(.int .i64 (.ofNat 10)),(.slice (some (.mk 31 0 none)) 1 1)])))]
def m_o0 {X:Type}:Mem X:=(.mk [] [(48,(.cells [(.int .i64 (.ofNat 10)),(.slice (some (.mk 31 0 none)) 1 1)])),(31,(.grown 1 67 [(.int .u64 (.ofNat 20))]))] 49)
def e_o1:List (Nat × Value):=[(3,(.pointer (some (.mk 49 0 none)))),(2,(.slice none 0 0)),(1,(.pointer (some (.mk 48 0 none)))),(0,(.agg (.mk [(.int .i64 (.ofNat 10)),(.slice (some (.mk 31 0 none)) 1 1)])))]
def m_o1 {X:Type}:Mem X:=(.mk [] [(49,(.cells [(.slice none 0 0)])),(48,(.cells [(.int .i64 (.ofNat 10)),(.slice (some (.mk 31 0 none)) 1 1)])),(31,(.grown 1 67 [(.int .u64 (.ofNat 20))]))] 50)
def e_o2:List (Nat × Value):=[(7,(.func (.func 286) (.mk []) (.mk [(.pointer (some (.mk 50 0 none)))]))),(6,(.agg (.mk [(.int .i64 (.ofNat 10)),(.slice (some (.mk 31 0 none)) 1 1)]))),(3,(.pointer (some (.mk 49 0 none)))),(2,(.slice none 0 0)),(1,(.pointer (some (.mk 48 0 none)))),(0,(.agg (.mk [(.int .i64 (.ofNat 10)),(.slice (some (.mk 31 0 none)) 1 1)])))]
def m_o2 {X:Type}:Mem X:=(.mk [] [(50,(.cells [(.int .i64 (.ofNat 10)),(.slice (some (.mk 31 0 none)) 1 1)])),(49,(.cells [(.slice none 0 0)])),(48,(.cells [(.int .i64 (.ofNat 10)),(.slice (some (.mk 31 0 none)) 1 1)])),(31,(.grown 1 67 [(.int .u64 (.ofNat 20))]))] 51)
def e_a0:List (Nat × Value):=[(3,(.int .i64 (.ofNat 2))),(6,(.int .i64 (.ofNat 2))),(5,(.agg (.mk [(.int .i64 (.ofNat 10)),(.slice (some (.mk 31 0 none)) 1 1)]))),(1,(.pointer (some (.mk 50 0 none))))]
def m_a0 {X:Type}:Mem X:=(.mk [] [(52,(.cells [(.int .i64 (.ofNat 10)),(.slice (some (.mk 31 0 none)) 1 1)])),(51,(.cells [(.int .i64 (.ofNat 10)),(.slice (some (.mk 31 0 none)) 1 1)])),(50,(.cells [(.int .i64 (.ofNat 10)),(.slice (some (.mk 31 0 none)) 1 1)])),(49,(.cells [(.slice none 0 0)])),(48,(.cells [(.int .i64 (.ofNat 10)),(.slice (some (.mk 31 0 none)) 1 1)])),(31,(.grown 1 67 [(.int .u64 (.ofNat 20))]))] 53)
def e_b1:List (Nat × Value):=[(10,(.bool true)),(9,(.int .i64 (.ofNat 10))),(8,(.pointer (some (.mk 50 0 none)))),(7,(.int .i64 (.ofNat 2))),(3,(.int .i64 (.ofNat 2))),(6,(.int .i64 (.ofNat 2))),(5,(.agg (.mk [(.int .i64 (.ofNat 10)),(.slice (some (.mk 31 0 none)) 1 1)]))),(1,(.pointer (some (.mk 50 0 none))))]
def m_b1 {X:Type}:Mem X:=(.mk [] [(52,(.cells [(.int .i64 (.ofNat 10)),(.slice (some (.mk 31 0 none)) 1 1)])),(51,(.cells [(.int .i64 (.ofNat 10)),(.slice (some (.mk 31 0 none)) 1 1)])),(50,(.cells [(.int .i64 (.ofNat 10)),(.slice (some (.mk 31 0 none)) 1 1)])),(49,(.cells [(.slice none 0 0)])),(48,(.cells [(.int .i64 (.ofNat 10)),(.slice (some (.mk 31 0 none)) 1 1)])),(31,(.grown 1 67 [(.int .u64 (.ofNat 20))]))] 53)
def e_c1:List (Nat × Value):=[(4,(.int .i64 (.ofNat 3))),(13,(.int .i64 (.ofNat 3))),(12,(.int .i64 (.ofNat 2))),(11,(.agg (.mk [(.int .i64 (.ofNat 10)),(.slice (some (.mk 31 0 none)) 1 1)]))),(10,(.bool true)),(9,(.int .i64 (.ofNat 10))),(8,(.pointer (some (.mk 50 0 none)))),(7,(.int .i64 (.ofNat 2))),(3,(.int .i64 (.ofNat 2))),(6,(.int .i64 (.ofNat 2))),(5,(.agg (.mk [(.int .i64 (.ofNat 10)),(.slice (some (.mk 31 0 none)) 1 1)]))),(1,(.pointer (some (.mk 50 0 none))))]
def m_c1 {X:Type}:Mem X:=(.mk [] [(54,(.cells [(.int .i64 (.ofNat 10)),(.slice (some (.mk 31 0 none)) 1 1)])),(53,(.cells [(.int .i64 (.ofNat 10)),(.slice (some (.mk 31 0 none)) 1 1)])),(52,(.cells [(.int .i64 (.ofNat 10)),(.slice (some (.mk 31 0 none)) 1 1)])),(51,(.cells [(.int .i64 (.ofNat 10)),(.slice (some (.mk 31 0 none)) 1 1)])),(50,(.cells [(.int .i64 (.ofNat 10)),(.slice (some (.mk 31 0 none)) 1 1)])),(49,(.cells [(.slice none 0 0)])),(48,(.cells [(.int .i64 (.ofNat 10)),(.slice (some (.mk 31 0 none)) 1 1)])),(31,(.grown 1 67 [(.int .u64 (.ofNat 20))]))] 55)
def e_y1a:List (Nat × Value):=[(4,(.int .i64 (.ofNat 2))),(9,(.int .i64 (.ofNat 1))),(8,(.int .i64 (.ofNat 2))),(7,(.func (.func 286) (.mk []) (.mk [(.pointer (some (.mk 50 0 none)))]))),(6,(.agg (.mk [(.int .i64 (.ofNat 10)),(.slice (some (.mk 31 0 none)) 1 1)]))),(3,(.pointer (some (.mk 49 0 none)))),(2,(.slice none 0 0)),(1,(.pointer (some (.mk 48 0 none)))),(0,(.agg (.mk [(.int .i64 (.ofNat 10)),(.slice (some (.mk 31 0 none)) 1 1)])))]
def m_y1a {X:Type}:Mem X:=(.mk [] [(54,(.cells [(.int .i64 (.ofNat 10)),(.slice (some (.mk 31 0 none)) 1 1)])),(53,(.cells [(.int .i64 (.ofNat 10)),(.slice (some (.mk 31 0 none)) 1 1)])),(52,(.cells [(.int .i64 (.ofNat 10)),(.slice (some (.mk 31 0 none)) 1 1)])),(51,(.cells [(.int .i64 (.ofNat 10)),(.slice (some (.mk 31 0 none)) 1 1)])),(50,(.cells [(.int .i64 (.ofNat 10)),(.slice (some (.mk 31 0 none)) 1 1)])),(49,(.cells [(.slice none 0 0)])),(48,(.cells [(.int .i64 (.ofNat 10)),(.slice (some (.mk 31 0 none)) 1 1)])),(31,(.grown 1 67 [(.int .u64 (.ofNat 20))]))] 55)
def e_y1b:List (Nat × Value):=[(5,(.int .i64 (.ofNat 1))),(4,(.int .i64 (.ofNat 2))),(9,(.int .i64 (.ofNat 1))),(8,(.int .i64 (.ofNat 2))),(7,(.func (.func 286) (.mk []) (.mk [(.pointer (some (.mk 50 0 none)))]))),(6,(.agg (.mk [(.int .i64 (.ofNat 10)),(.slice (some (.mk 31 0 none)) 1 1)]))),(3,(.pointer (some (.mk 49 0 none)))),(2,(.slice none 0 0)),(1,(.pointer (some (.mk 48 0 none)))),(0,(.agg (.mk [(.int .i64 (.ofNat 10)),(.slice (some (.mk 31 0 none)) 1 1)])))]
def m_y1b {X:Type}:Mem X:=(.mk [] [(54,(.cells [(.int .i64 (.ofNat 10)),(.slice (some (.mk 31 0 none)) 1 1)])),(53,(.cells [(.int .i64 (.ofNat 10)),(.slice (some (.mk 31 0 none)) 1 1)])),(52,(.cells [(.int .i64 (.ofNat 10)),(.slice (some (.mk 31 0 none)) 1 1)])),(51,(.cells [(.int .i64 (.ofNat 10)),(.slice (some (.mk 31 0 none)) 1 1)])),(50,(.cells [(.int .i64 (.ofNat 10)),(.slice (some (.mk 31 0 none)) 1 1)])),(49,(.cells [(.slice none 0 0)])),(48,(.cells [(.int .i64 (.ofNat 10)),(.slice (some (.mk 31 0 none)) 1 1)])),(31,(.grown 1 67 [(.int .u64 (.ofNat 20))]))] 55)
def e_y1:List (Nat × Value):=[(14,(.slice (some (.mk 56 0 none)) 2 2)),(13,(.slice (some (.mk 55 0 none)) 2 2)),(12,(.int .i64 (.ofNat 1))),(11,(.int .i64 (.ofNat 2))),(10,(.slice none 0 0)),(5,(.int .i64 (.ofNat 1))),(4,(.int .i64 (.ofNat 2))),(9,(.int .i64 (.ofNat 1))),(8,(.int .i64 (.ofNat 2))),(7,(.func (.func 286) (.mk []) (.mk [(.pointer (some (.mk 50 0 none)))]))),(6,(.agg (.mk [(.int .i64 (.ofNat 10)),(.slice (some (.mk 31 0 none)) 1 1)]))),(3,(.pointer (some (.mk 49 0 none)))),(2,(.slice none 0 0)),(1,(.pointer (some (.mk 48 0 none)))),(0,(.agg (.mk [(.int .i64 (.ofNat 10)),(.slice (some (.mk 31 0 none)) 1 1)])))]
def m_y1 {X:Type}:Mem X:=(.mk [] [(56,(.grown 1 3 [(.int .i64 (.ofNat 2)),(.int .i64 (.ofNat 1))])),(55,(.cells [(.int .i64 (.ofNat 2)),(.int .i64 (.ofNat 1))])),(54,(.cells [(.int .i64 (.ofNat 10)),(.slice (some (.mk 31 0 none)) 1 1)])),(53,(.cells [(.int .i64 (.ofNat 10)),(.slice (some (.mk 31 0 none)) 1 1)])),(52,(.cells [(.int .i64 (.ofNat 10)),(.slice (some (.mk 31 0 none)) 1 1)])),(51,(.cells [(.int .i64 (.ofNat 10)),(.slice (some (.mk 31 0 none)) 1 1)])),(50,(.cells [(.int .i64 (.ofNat 10)),(.slice (some (.mk 31 0 none)) 1 1)])),(49,(.cells [(.slice (some (.mk 56 0 none)) 2 2)])),(48,(.cells [(.int .i64 (.ofNat 10)),(.slice (some (.mk 31 0 none)) 1 1)])),(31,(.grown 1 67 [(.int .u64 (.ofNat 20))]))] 57)
def e_d1:List (Nat × Value):=[(3,(.int .i64 (.ofNat 4))),(23,(.int .i64 (.ofNat 4))),(22,(.int .i64 (.ofNat 3))),(21,(.agg (.mk [(.int .i64 (.ofNat 10)),(.slice (some (.mk 31 0 none)) 1 1)]))),(4,(.int .i64 (.ofNat 3))),(13,(.int .i64 (.ofNat 3))),(12,(.int .i64 (.ofNat 2))),(11,(.agg (.mk [(.int .i64 (.ofNat 10)),(.slice (some (.mk 31 0 none)) 1 1)]))),(10,(.bool true)),(9,(.int .i64 (.ofNat 10))),(8,(.pointer (some (.mk 50 0 none)))),(7,(.int .i64 (.ofNat 2))),(3,(.int .i64 (.ofNat 2))),(6,(.int .i64 (.ofNat 2))),(5,(.agg (.mk [(.int .i64 (.ofNat 10)),(.slice (some (.mk 31 0 none)) 1 1)]))),(1,(.pointer (some (.mk 50 0 none))))]
def m_d1 {X:Type}:Mem X:=(.mk [] [(58,(.cells [(.int .i64 (.ofNat 10)),(.slice (some (.mk 31 0 none)) 1 1)])),(57,(.cells [(.int .i64 (.ofNat 10)),(.slice (some (.mk 31 0 none)) 1 1)])),(56,(.grown 1 3 [(.int .i64 (.ofNat 2)),(.int .i64 (.ofNat 1))])),(55,(.cells [(.int .i64 (.ofNat 2)),(.int .i64 (.ofNat 1))])),(54,(.cells [(.int .i64 (.ofNat 10)),(.slice (some (.mk 31 0 none)) 1 1)])),(53,(.cells [(.int .i64 (.ofNat 10)),(.slice (some (.mk 31 0 none)) 1 1)])),(52,(.cells [(.int .i64 (.ofNat 10)),(.slice (some (.mk 31 0 none)) 1 1)])),(51,(.cells [(.int .i64 (.ofNat 10)),(.slice (some (.mk 31 0 none)) 1 1)])),(50,(.cells [(.int .i64 (.ofNat 10)),(.slice (some (.mk 31 0 none)) 1 1)])),(49,(.cells [(.slice (some (.mk 56 0 none)) 2 2)])),(48,(.cells [(.int .i64 (.ofNat 10)),(.slice (some (.mk 31 0 none)) 1 1)])),(31,(.grown 1 67 [(.int .u64 (.ofNat 20))]))] 59)
def e_b2:List (Nat × Value):=[(10,(.bool true)),(9,(.int .i64 (.ofNat 10))),(8,(.pointer (some (.mk 50 0 none)))),(7,(.int .i64 (.ofNat 4))),(3,(.int .i64 (.ofNat 4))),(23,(.int .i64 (.ofNat 4))),(22,(.int .i64 (.ofNat 3))),(21,(.agg (.mk [(.int .i64 (.ofNat 10)),(.slice (some (.mk 31 0 none)) 1 1)]))),(4,(.int .i64 (.ofNat 3))),(13,(.int .i64 (.ofNat 3))),(12,(.int .i64 (.ofNat 2))),(11,(.agg (.mk [(.int .i64 (.ofNat 10)),(.slice (some (.mk 31 0 none)) 1 1)]))),(10,(.bool true)),(9,(.int .i64 (.ofNat 10))),(8,(.pointer (some (.mk 50 0 none)))),(7,(.int .i64 (.ofNat 2))),(3,(.int .i64 (.ofNat 2))),(6,(.int .i64 (.ofNat 2))),(5,(.agg (.mk [(.int .i64 (.ofNat 10)),(.slice (some (.mk 31 0 none)) 1 1)]))),(1,(.pointer (some (.mk 50 0 none))))]
def m_b2 {X:Type}:Mem X:=(.mk [] [(58,(.cells [(.int .i64 (.ofNat 10)),(.slice (some (.mk 31 0 none)) 1 1)])),(57,(.cells [(.int .i64 (.ofNat 10)),(.slice (some (.mk 31 0 none)) 1 1)])),(56,(.grown 1 3 [(.int .i64 (.ofNat 2)),(.int .i64 (.ofNat 1))])),(55,(.cells [(.int .i64 (.ofNat 2)),(.int .i64 (.ofNat 1))])),(54,(.cells [(.int .i64 (.ofNat 10)),(.slice (some (.mk 31 0 none)) 1 1)])),(53,(.cells [(.int .i64 (.ofNat 10)),(.slice (some (.mk 31 0 none)) 1 1)])),(52,(.cells [(.int .i64 (.ofNat 10)),(.slice (some (.mk 31 0 none)) 1 1)])),(51,(.cells [(.int .i64 (.ofNat 10)),(.slice (some (.mk 31 0 none)) 1 1)])),(50,(.cells [(.int .i64 (.ofNat 10)),(.slice (some (.mk 31 0 none)) 1 1)])),(49,(.cells [(.slice (some (.mk 56 0 none)) 2 2)])),(48,(.cells [(.int .i64 (.ofNat 10)),(.slice (some (.mk 31 0 none)) 1 1)])),(31,(.grown 1 67 [(.int .u64 (.ofNat 20))]))] 59)
def e_c2:List (Nat × Value):=[(4,(.int .i64 (.ofNat 5))),(13,(.int .i64 (.ofNat 5))),(12,(.int .i64 (.ofNat 4))),(11,(.agg (.mk [(.int .i64 (.ofNat 10)),(.slice (some (.mk 31 0 none)) 1 1)]))),(10,(.bool true)),(9,(.int .i64 (.ofNat 10))),(8,(.pointer (some (.mk 50 0 none)))),(7,(.int .i64 (.ofNat 4))),(3,(.int .i64 (.ofNat 4))),(23,(.int .i64 (.ofNat 4))),(22,(.int .i64 (.ofNat 3))),(21,(.agg (.mk [(.int .i64 (.ofNat 10)),(.slice (some (.mk 31 0 none)) 1 1)]))),(4,(.int .i64 (.ofNat 3))),(13,(.int .i64 (.ofNat 3))),(12,(.int .i64 (.ofNat 2))),(11,(.agg (.mk [(.int .i64 (.ofNat 10)),(.slice (some (.mk 31 0 none)) 1 1)]))),(10,(.bool true)),(9,(.int .i64 (.ofNat 10))),(8,(.pointer (some (.mk 50 0 none)))),(7,(.int .i64 (.ofNat 2))),(3,(.int .i64 (.ofNat 2))),(6,(.int .i64 (.ofNat 2))),(5,(.agg (.mk [(.int .i64 (.ofNat 10)),(.slice (some (.mk 31 0 none)) 1 1)]))),(1,(.pointer (some (.mk 50 0 none))))]
def m_c2 {X:Type}:Mem X:=(.mk [] [(60,(.cells [(.int .i64 (.ofNat 10)),(.slice (some (.mk 31 0 none)) 1 1)])),(59,(.cells [(.int .i64 (.ofNat 10)),(.slice (some (.mk 31 0 none)) 1 1)])),(58,(.cells [(.int .i64 (.ofNat 10)),(.slice (some (.mk 31 0 none)) 1 1)])),(57,(.cells [(.int .i64 (.ofNat 10)),(.slice (some (.mk 31 0 none)) 1 1)])),(56,(.grown 1 3 [(.int .i64 (.ofNat 2)),(.int .i64 (.ofNat 1))])),(55,(.cells [(.int .i64 (.ofNat 2)),(.int .i64 (.ofNat 1))])),(54,(.cells [(.int .i64 (.ofNat 10)),(.slice (some (.mk 31 0 none)) 1 1)])),(53,(.cells [(.int .i64 (.ofNat 10)),(.slice (some (.mk 31 0 none)) 1 1)])),(52,(.cells [(.int .i64 (.ofNat 10)),(.slice (some (.mk 31 0 none)) 1 1)])),(51,(.cells [(.int .i64 (.ofNat 10)),(.slice (some (.mk 31 0 none)) 1 1)])),(50,(.cells [(.int .i64 (.ofNat 10)),(.slice (some (.mk 31 0 none)) 1 1)])),(49,(.cells [(.slice (some (.mk 56 0 none)) 2 2)])),(48,(.cells [(.int .i64 (.ofNat 10)),(.slice (some (.mk 31 0 none)) 1 1)])),(31,(.grown 1 67 [(.int .u64 (.ofNat 20))]))] 61)
def e_y2a:List (Nat × Value):=[(4,(.int .i64 (.ofNat 4))),(9,(.int .i64 (.ofNat 1))),(8,(.int .i64 (.ofNat 4))),(7,(.func (.func 286) (.mk []) (.mk [(.pointer (some (.mk 50 0 none)))]))),(6,(.agg (.mk [(.int .i64 (.ofNat 10)),(.slice (some (.mk 31 0 none)) 1 1)]))),(3,(.pointer (some (.mk 49 0 none)))),(2,(.slice none 0 0)),(1,(.pointer (some (.mk 48 0 none)))),(0,(.agg (.mk [(.int .i64 (.ofNat 10)),(.slice (some (.mk 31 0 none)) 1 1)])))]
def m_y2a {X:Type}:Mem X:=(.mk [] [(60,(.cells [(.int .i64 (.ofNat 10)),(.slice (some (.mk 31 0 none)) 1 1)])),(59,(.cells [(.int .i64 (.ofNat 10)),(.slice (some (.mk 31 0 none)) 1 1)])),(58,(.cells [(.int .i64 (.ofNat 10)),(.slice (some (.mk 31 0 none)) 1 1)])),(57,(.cells [(.int .i64 (.ofNat 10)),(.slice (some (.mk 31 0 none)) 1 1)])),(56,(.grown 1 3 [(.int .i64 (.ofNat 2)),(.int .i64 (.ofNat 1))])),(55,(.cells [(.int .i64 (.ofNat 2)),(.int .i64 (.ofNat 1))])),(54,(.cells [(.int .i64 (.ofNat 10)),(.slice (some (.mk 31 0 none)) 1 1)])),(53,(.cells [(.int .i64 (.ofNat 10)),(.slice (some (.mk 31 0 none)) 1 1)])),(52,(.cells [(.int .i64 (.ofNat 10)),(.slice (some (.mk 31 0 none)) 1 1)])),(51,(.cells [(.int .i64 (.ofNat 10)),(.slice (some (.mk 31 0 none)) 1 1)])),(50,(.cells [(.int .i64 (.ofNat 10)),(.slice (some (.mk 31 0 none)) 1 1)])),(49,(.cells [(.slice (some (.mk 56 0 none)) 2 2)])),(48,(.cells [(.int .i64 (.ofNat 10)),(.slice (some (.mk 31 0 none)) 1 1)])),(31,(.grown 1 67 [(.int .u64 (.ofNat 20))]))] 61)
def e_y2b:List (Nat × Value):=[(5,(.int .i64 (.ofNat 1))),(4,(.int .i64 (.ofNat 4))),(9,(.int .i64 (.ofNat 1))),(8,(.int .i64 (.ofNat 4))),(7,(.func (.func 286) (.mk []) (.mk [(.pointer (some (.mk 50 0 none)))]))),(6,(.agg (.mk [(.int .i64 (.ofNat 10)),(.slice (some (.mk 31 0 none)) 1 1)]))),(3,(.pointer (some (.mk 49 0 none)))),(2,(.slice none 0 0)),(1,(.pointer (some (.mk 48 0 none)))),(0,(.agg (.mk [(.int .i64 (.ofNat 10)),(.slice (some (.mk 31 0 none)) 1 1)])))]
def m_y2b {X:Type}:Mem X:=(.mk [] [(60,(.cells [(.int .i64 (.ofNat 10)),(.slice (some (.mk 31 0 none)) 1 1)])),(59,(.cells [(.int .i64 (.ofNat 10)),(.slice (some (.mk 31 0 none)) 1 1)])),(58,(.cells [(.int .i64 (.ofNat 10)),(.slice (some (.mk 31 0 none)) 1 1)])),(57,(.cells [(.int .i64 (.ofNat 10)),(.slice (some (.mk 31 0 none)) 1 1)])),(56,(.grown 1 3 [(.int .i64 (.ofNat 2)),(.int .i64 (.ofNat 1))])),(55,(.cells [(.int .i64 (.ofNat 2)),(.int .i64 (.ofNat 1))])),(54,(.cells [(.int .i64 (.ofNat 10)),(.slice (some (.mk 31 0 none)) 1 1)])),(53,(.cells [(.int .i64 (.ofNat 10)),(.slice (some (.mk 31 0 none)) 1 1)])),(52,(.cells [(.int .i64 (.ofNat 10)),(.slice (some (.mk 31 0 none)) 1 1)])),(51,(.cells [(.int .i64 (.ofNat 10)),(.slice (some (.mk 31 0 none)) 1 1)])),(50,(.cells [(.int .i64 (.ofNat 10)),(.slice (some (.mk 31 0 none)) 1 1)])),(49,(.cells [(.slice (some (.mk 56 0 none)) 2 2)])),(48,(.cells [(.int .i64 (.ofNat 10)),(.slice (some (.mk 31 0 none)) 1 1)])),(31,(.grown 1 67 [(.int .u64 (.ofNat 20))]))] 61)
def e_y2:List (Nat × Value):=[(14,(.slice (some (.mk 62 0 none)) 4 4)),(13,(.slice (some (.mk 61 0 none)) 2 2)),(12,(.int .i64 (.ofNat 1))),(11,(.int .i64 (.ofNat 4))),(10,(.slice (some (.mk 56 0 none)) 2 2)),(5,(.int .i64 (.ofNat 1))),(4,(.int .i64 (.ofNat 4))),(9,(.int .i64 (.ofNat 1))),(8,(.int .i64 (.ofNat 4))),(7,(.func (.func 286) (.mk []) (.mk [(.pointer (some (.mk 50 0 none)))]))),(6,(.agg (.mk [(.int .i64 (.ofNat 10)),(.slice (some (.mk 31 0 none)) 1 1)]))),(3,(.pointer (some (.mk 49 0 none)))),(2,(.slice none 0 0)),(1,(.pointer (some (.mk 48 0 none)))),(0,(.agg (.mk [(.int .i64 (.ofNat 10)),(.slice (some (.mk 31 0 none)) 1 1)])))]
def m_y2 {X:Type}:Mem X:=(.mk [] [(62,(.grown 1 3 [(.int .i64 (.ofNat 2)),(.int .i64 (.ofNat 1)),(.int .i64 (.ofNat 4)),(.int .i64 (.ofNat 1))])),(61,(.cells [(.int .i64 (.ofNat 4)),(.int .i64 (.ofNat 1))])),(60,(.cells [(.int .i64 (.ofNat 10)),(.slice (some (.mk 31 0 none)) 1 1)])),(59,(.cells [(.int .i64 (.ofNat 10)),(.slice (some (.mk 31 0 none)) 1 1)])),(58,(.cells [(.int .i64 (.ofNat 10)),(.slice (some (.mk 31 0 none)) 1 1)])),(57,(.cells [(.int .i64 (.ofNat 10)),(.slice (some (.mk 31 0 none)) 1 1)])),(55,(.cells [(.int .i64 (.ofNat 2)),(.int .i64 (.ofNat 1))])),(54,(.cells [(.int .i64 (.ofNat 10)),(.slice (some (.mk 31 0 none)) 1 1)])),(53,(.cells [(.int .i64 (.ofNat 10)),(.slice (some (.mk 31 0 none)) 1 1)])),(52,(.cells [(.int .i64 (.ofNat 10)),(.slice (some (.mk 31 0 none)) 1 1)])),(51,(.cells [(.int .i64 (.ofNat 10)),(.slice (some (.mk 31 0 none)) 1 1)])),(50,(.cells [(.int .i64 (.ofNat 10)),(.slice (some (.mk 31 0 none)) 1 1)])),(49,(.cells [(.slice (some (.mk 62 0 none)) 4 4)])),(48,(.cells [(.int .i64 (.ofNat 10)),(.slice (some (.mk 31 0 none)) 1 1)])),(31,(.grown 1 67 [(.int .u64 (.ofNat 20))]))] 63)
def e_d2:List (Nat × Value):=[(3,(.int .i64 (.ofNat 10))),(23,(.int .i64 (.ofNat 10))),(22,(.int .i64 (.ofNat 5))),(21,(.agg (.mk [(.int .i64 (.ofNat 10)),(.slice (some (.mk 31 0 none)) 1 1)]))),(4,(.int .i64 (.ofNat 5))),(13,(.int .i64 (.ofNat 5))),(12,(.int .i64 (.ofNat 4))),(11,(.agg (.mk [(.int .i64 (.ofNat 10)),(.slice (some (.mk 31 0 none)) 1 1)]))),(10,(.bool true)),(9,(.int .i64 (.ofNat 10))),(8,(.pointer (some (.mk 50 0 none)))),(7,(.int .i64 (.ofNat 4))),(3,(.int .i64 (.ofNat 4))),(23,(.int .i64 (.ofNat 4))),(22,(.int .i64 (.ofNat 3))),(21,(.agg (.mk [(.int .i64 (.ofNat 10)),(.slice (some (.mk 31 0 none)) 1 1)]))),(4,(.int .i64 (.ofNat 3))),(13,(.int .i64 (.ofNat 3))),(12,(.int .i64 (.ofNat 2))),(11,(.agg (.mk [(.int .i64 (.ofNat 10)),(.slice (some (.mk 31 0 none)) 1 1)]))),(10,(.bool true)),(9,(.int .i64 (.ofNat 10))),(8,(.pointer (some (.mk 50 0 none)))),(7,(.int .i64 (.ofNat 2))),(3,(.int .i64 (.ofNat 2))),(6,(.int .i64 (.ofNat 2))),(5,(.agg (.mk [(.int .i64 (.ofNat 10)),(.slice (some (.mk 31 0 none)) 1 1)]))),(1,(.pointer (some (.mk 50 0 none))))]
def m_d2 {X:Type}:Mem X:=(.mk [] [(64,(.cells [(.int .i64 (.ofNat 10)),(.slice (some (.mk 31 0 none)) 1 1)])),(63,(.cells [(.int .i64 (.ofNat 10)),(.slice (some (.mk 31 0 none)) 1 1)])),(62,(.grown 1 3 [(.int .i64 (.ofNat 2)),(.int .i64 (.ofNat 1)),(.int .i64 (.ofNat 4)),(.int .i64 (.ofNat 1))])),(61,(.cells [(.int .i64 (.ofNat 4)),(.int .i64 (.ofNat 1))])),(60,(.cells [(.int .i64 (.ofNat 10)),(.slice (some (.mk 31 0 none)) 1 1)])),(59,(.cells [(.int .i64 (.ofNat 10)),(.slice (some (.mk 31 0 none)) 1 1)])),(58,(.cells [(.int .i64 (.ofNat 10)),(.slice (some (.mk 31 0 none)) 1 1)])),(57,(.cells [(.int .i64 (.ofNat 10)),(.slice (some (.mk 31 0 none)) 1 1)])),(55,(.cells [(.int .i64 (.ofNat 2)),(.int .i64 (.ofNat 1))])),(54,(.cells [(.int .i64 (.ofNat 10)),(.slice (some (.mk 31 0 none)) 1 1)])),(53,(.cells [(.int .i64 (.ofNat 10)),(.slice (some (.mk 31 0 none)) 1 1)])),(52,(.cells [(.int .i64 (.ofNat 10)),(.slice (some (.mk 31 0 none)) 1 1)])),(51,(.cells [(.int .i64 (.ofNat 10)),(.slice (some (.mk 31 0 none)) 1 1)])),(50,(.cells [(.int .i64 (.ofNat 10)),(.slice (some (.mk 31 0 none)) 1 1)])),(49,(.cells [(.slice (some (.mk 62 0 none)) 4 4)])),(48,(.cells [(.int .i64 (.ofNat 10)),(.slice (some (.mk 31 0 none)) 1 1)])),(31,(.grown 1 67 [(.int .u64 (.ofNat 20))]))] 65)
def e_b3:List (Nat × Value):=[(10,(.bool false)),(9,(.int .i64 (.ofNat 10))),(8,(.pointer (some (.mk 50 0 none)))),(7,(.int .i64 (.ofNat 10))),(3,(.int .i64 (.ofNat 10))),(23,(.int .i64 (.ofNat 10))),(22,(.int .i64 (.ofNat 5))),(21,(.agg (.mk [(.int .i64 (.ofNat 10)),(.slice (some (.mk 31 0 none)) 1 1)]))),(4,(.int .i64 (.ofNat 5))),(13,(.int .i64 (.ofNat 5))),(12,(.int .i64 (.ofNat 4))),(11,(.agg (.mk [(.int .i64 (.ofNat 10)),(.slice (some (.mk 31 0 none)) 1 1)]))),(10,(.bool true)),(9,(.int .i64 (.ofNat 10))),(8,(.pointer (some (.mk 50 0 none)))),(7,(.int .i64 (.ofNat 4))),(3,(.int .i64 (.ofNat 4))),(23,(.int .i64 (.ofNat 4))),(22,(.int .i64 (.ofNat 3))),(21,(.agg (.mk [(.int .i64 (.ofNat 10)),(.slice (some (.mk 31 0 none)) 1 1)]))),(4,(.int .i64 (.ofNat 3))),(13,(.int .i64 (.ofNat 3))),(12,(.int .i64 (.ofNat 2))),(11,(.agg (.mk [(.int .i64 (.ofNat 10)),(.slice (some (.mk 31 0 none)) 1 1)]))),(10,(.bool true)),(9,(.int .i64 (.ofNat 10))),(8,(.pointer (some (.mk 50 0 none)))),(7,(.int .i64 (.ofNat 2))),(3,(.int .i64 (.ofNat 2))),(6,(.int .i64 (.ofNat 2))),(5,(.agg (.mk [(.int .i64 (.ofNat 10)),(.slice (some (.mk 31 0 none)) 1 1)]))),(1,(.pointer (some (.mk 50 0 none))))]
def m_b3 {X:Type}:Mem X:=(.mk [] [(64,(.cells [(.int .i64 (.ofNat 10)),(.slice (some (.mk 31 0 none)) 1 1)])),(63,(.cells [(.int .i64 (.ofNat 10)),(.slice (some (.mk 31 0 none)) 1 1)])),(62,(.grown 1 3 [(.int .i64 (.ofNat 2)),(.int .i64 (.ofNat 1)),(.int .i64 (.ofNat 4)),(.int .i64 (.ofNat 1))])),(61,(.cells [(.int .i64 (.ofNat 4)),(.int .i64 (.ofNat 1))])),(60,(.cells [(.int .i64 (.ofNat 10)),(.slice (some (.mk 31 0 none)) 1 1)])),(59,(.cells [(.int .i64 (.ofNat 10)),(.slice (some (.mk 31 0 none)) 1 1)])),(58,(.cells [(.int .i64 (.ofNat 10)),(.slice (some (.mk 31 0 none)) 1 1)])),(57,(.cells [(.int .i64 (.ofNat 10)),(.slice (some (.mk 31 0 none)) 1 1)])),(55,(.cells [(.int .i64 (.ofNat 2)),(.int .i64 (.ofNat 1))])),(54,(.cells [(.int .i64 (.ofNat 10)),(.slice (some (.mk 31 0 none)) 1 1)])),(53,(.cells [(.int .i64 (.ofNat 10)),(.slice (some (.mk 31 0 none)) 1 1)])),(52,(.cells [(.int .i64 (.ofNat 10)),(.slice (some (.mk 31 0 none)) 1 1)])),(51,(.cells [(.int .i64 (.ofNat 10)),(.slice (some (.mk 31 0 none)) 1 1)])),(50,(.cells [(.int .i64 (.ofNat 10)),(.slice (some (.mk 31 0 none)) 1 1)])),(49,(.cells [(.slice (some (.mk 62 0 none)) 4 4)])),(48,(.cells [(.int .i64 (.ofNat 10)),(.slice (some (.mk 31 0 none)) 1 1)])),(31,(.grown 1 67 [(.int .u64 (.ofNat 20))]))] 65)
def e_z:List (Nat × Value):=[(2,(.slice (some (.mk 62 0 none)) 4 4)),(15,(.slice (some (.mk 62 0 none)) 4 4)),(7,(.func (.func 286) (.mk []) (.mk [(.pointer (some (.mk 50 0 none)))]))),(6,(.agg (.mk [(.int .i64 (.ofNat 10)),(.slice (some (.mk 31 0 none)) 1 1)]))),(3,(.pointer (some (.mk 49 0 none)))),(2,(.slice none 0 0)),(1,(.pointer (some (.mk 48 0 none)))),(0,(.agg (.mk [(.int .i64 (.ofNat 10)),(.slice (some (.mk 31 0 none)) 1 1)])))]
def m_z {X:Type}:Mem X:=(.mk [] [(64,(.cells [(.int .i64 (.ofNat 10)),(.slice (some (.mk 31 0 none)) 1 1)])),(63,(.cells [(.int .i64 (.ofNat 10)),(.slice (some (.mk 31 0 none)) 1 1)])),(62,(.grown 1 3 [(.int .i64 (.ofNat 2)),(.int .i64 (.ofNat 1)),(.int .i64 (.ofNat 4)),(.int .i64 (.ofNat 1))])),(61,(.cells [(.int .i64 (.ofNat 4)),(.int .i64 (.ofNat 1))])),(60,(.cells [(.int .i64 (.ofNat 10)),(.slice (some (.mk 31 0 none)) 1 1)])),(59,(.cells [(.int .i64 (.ofNat 10)),(.slice (some (.mk 31 0 none)) 1 1)])),(58,(.cells [(.int .i64 (.ofNat 10)),(.slice (some (.mk 31 0 none)) 1 1)])),(57,(.cells [(.int .i64 (.ofNat 10)),(.slice (some (.mk 31 0 none)) 1 1)])),(55,(.cells [(.int .i64 (.ofNat 2)),(.int .i64 (.ofNat 1))])),(54,(.cells [(.int .i64 (.ofNat 10)),(.slice (some (.mk 31 0 none)) 1 1)])),(53,(.cells [(.int .i64 (.ofNat 10)),(.slice (some (.mk 31 0 none)) 1 1)])),(52,(.cells [(.int .i64 (.ofNat 10)),(.slice (some (.mk 31 0 none)) 1 1)])),(51,(.cells [(.int .i64 (.ofNat 10)),(.slice (some (.mk 31 0 none)) 1 1)])),(50,(.cells [(.int .i64 (.ofNat 10)),(.slice (some (.mk 31 0 none)) 1 1)])),(49,(.cells [(.slice (some (.mk 62 0 none)) 4 4)])),(48,(.cells [(.int .i64 (.ofNat 10)),(.slice (some (.mk 31 0 none)) 1 1)])),(31,(.grown 1 67 [(.int .u64 (.ofNat 20))]))] 65)
section
variable {E:Ext} {W0:World}
structure Tabs (W0:World):Prop where
 t32:TabAt 0 Lib.deBruijn32tab W0
 t64:TabAt 1 Lib.deBruijn64tab W0
 l32:0 < W0.heap.size
 l64:1 < W0.heap.size
theorem mixedZ:PZ.follows .mixedOrders=true:=by kernel_rfl
theorem tz64B:Bodied PZ 198:=⟨_,_,Tryz.func198,rfl,by kernel_rfl⟩
theorem tz32B:Bodied PZ 197:=⟨_,_,Tryz.func197,rfl,by kernel_rfl⟩
theorem hook0_ok (hT:Tabs W0):∀ k g,hook0 (X:=E.X) k=some g → HookOk E PZ W0 k g:=by
 intro k g h
 unfold hook0 at h
 cases h1:Nat.beq k 198 with
 | true =>
  rw [h1,cond_true] at h
  rw [Nat.beq_eq] at h1
  injection h with h; subst h; subst h1
  exact tz64_ok Tryz.lays29 rfl tz64B hT.t64 hT.l64
 | false =>
  rw [h1,cond_false] at h
  cases h2:Nat.beq k 197 with
  | true =>
   rw [h2,cond_true] at h
   rw [Nat.beq_eq] at h2
   injection h with h; subst h; subst h2
   exact tz32_ok Tryz.lays28 rfl tz32B hT.t32 hT.l32
  | false=>rw [h2] at h; cases h
theorem call0_ok (hT:Tabs W0):CallsOk E PZ W0 call0:=run_sound mixedZ (hooks_ok (hook0_ok hT)) 60
def noDeferB (ops:List Oper):Bool:=ops.all fun o=>match o.op with | .defer _=>false | _=>true
theorem noDefer_of {ops:Array Oper} (h:noDeferB ops.toList=true):noDefer ops:=by
 intro i o ho c hc
 have hm:o ∈ ops.toList:=by
  rw [Array.getElem?_eq_some_iff] at ho
  obtain ⟨hi,rfl⟩:=ho
  exact Array.getElem_mem_toList hi
 have:=List.all_eq_true.1 h o hm
 rw [hc] at this
 cases this
def dstB (s:Nat) (ops:List Oper):Bool:=ops.all fun o=>match o.dst with | some d=>!Nat.beq d s | none=>true
theorem dst_of {ops:Array Oper} {s:Nat} (h:dstB s ops.toList=true):∀ (i:Nat) (o:Oper),ops[i]? = some o → o.dst ≠ some s:=by
 intro i o ho hc
 have hm:o ∈ ops.toList:=by
  rw [Array.getElem?_eq_some_iff] at ho
  obtain ⟨hi,rfl⟩:=ho
  exact Array.getElem_mem_toList hi
 have:=List.all_eq_true.1 h o hm
 rw [hc] at this
 simp at this
theorem region_at {ro:Option Nat} {n N:Nat} {ops:Array Oper} {id s:Nat} {Q:Exit → Act → World → Prop} {env env':List (Nat × Value)} {m m':Mem E.X} {ρ:Ren} {φ:Foot} {t:Array Value} {ds:List Deferred} {w:World}
  (hC:CallsOk E PZ W0 call0) (hnd:noDeferB ops.toList=true) (hk:dstB s ops.toList=true) (h:((mkOps PZ (fun _=>true) N ops.toList ops.toList).bind fun il=>runOps call0 il env m)=some (env',m')) (hs:St E W0 ρ φ env m N ⟨t,[]⟩ w)
  (hQ:∀ t' w' ρ' φ',To E W0 ρ φ m w ρ' φ' env' m' N ⟨t',[]⟩ w' → t'.getD s undef=t.getD s undef → Q .normal ⟨t',ds⟩ w'):(Code.region id ops false).wpIn (fen ro) n PZ Q ⟨t,ds⟩ w:=by
 cases hm:mkOps PZ (fun _=>true) N ops.toList ops.toList with
 | none=>rw [hm] at h; cases h
 | some il =>
  rw [hm] at h
  exact region_keep hC (noDefer_of hnd) (dst_of hk) hm h hs hQ
structure RInv (E:Ext) (W0:World) (wi:World) (ρi:Ren) (φi:Foot) (Vi:View E) (ni:Nat) (ρO:Ren) (l D:Nat) (r:Loop) (ρ:Ren) (φ:Foot) (m:Mem E.X) (w:World):Prop where
 post:Post W0 ρi φi Vi ni wi ρ φ m.get m.next w
 le:ρO.le ρ
 ol:wi.heap.size ≤ l ∧ l < w.heap.size ∧ ∀ i o,m.get i=some o → ¬ (φ i).2 l
 oD:wi.heap.size ≤ D ∧ D < w.heap.size ∧ ∀ i o,m.get i=some o → ¬ (φ i).2 D
 ne:D ≠ l
 L:w.heap[l]? = some (.loop r)
 K:w.heap[D]? = some (.deferred (some []))
variable {wi:World} {ρi ρO:Ren} {φi:Foot} {Vi:View E} {ni l D:Nat} {r:Loop}
theorem out_step {ρ ρ':Ren} {φ φ':Foot} {V V':View E} {n n' c:Nat} {w w':World} (p:Post W0 ρ φ V n w ρ' φ' V' n' w') (g:Good W0 ρ φ V n w) (h:c < w.heap.size ∧ ∀ i o,V i=some o → ¬ (φ i).2 c) :
  (c < w'.heap.size ∧ ∀ i o,V' i=some o → ¬ (φ' i).2 c) ∧ w'.heap[c]? = w.heap[c]? := by
 refine ⟨⟨Nat.lt_of_lt_of_le h.1 p.sz,fun i o hi hD=>?_⟩,p.keep c h.1 fun i o hi hF=>h.2 i o hi (g.sub i o c hi hF)⟩
 rcases p.fD i o c hi hD with h' | ⟨j,oj,h1,h2⟩
 ·have:=h.1; omega
 ·exact h.2 j oj h1 h2
theorem RInv.step {ρ ρ':Ren} {φ φ':Foot} {m m':Mem E.X} {w w':World} (h:RInv E W0 wi ρi φi Vi ni ρO l D r ρ φ m w) (p:Post W0 ρ φ m.get m.next w ρ' φ' m'.get m'.next w'):RInv E W0 wi ρi φi Vi ni ρO l D r ρ' φ' m' w':=by
 have hl:=out_step p h.post.good h.ol.2
 have hD:=out_step p h.post.good h.oD.2
 exact ⟨h.post.trans p,Ren.le_trans h.le p.le,⟨h.ol.1,hl.1⟩,⟨h.oD.1,hD.1⟩,h.ne,hl.2.trans h.L,hD.2.trans h.K⟩
theorem RInv.putL {ρ:Ren} {φ:Foot} {m:Mem E.X} {w:World} (r':Loop) (h:RInv E W0 wi ρi φi Vi ni ρO l D r ρ φ m w) (hb:W0.heap.size ≤ wi.heap.size):RInv E W0 wi ρi φi Vi ni ρO l D r' ρ φ m (w.putObj l (.loop r')):=by
 have hne:∀ i o c,m.get i=some o → (φ i).2 c → (w.putObj l (.loop r')).heap[c]? = w.heap[c]? := fun i o c hi hc=>World.putObj_heap_other fun e=>h.ol.2.2 i o hi (e ▸ hc)
 have hbase:∀ b,b < wi.heap.size → (w.putObj l (.loop r')).heap[b]? = w.heap[b]? := fun b hb=>World.putObj_heap_other (by have:=h.ol.1; omega)
 have hg:=h.post.good.beyond hne (by simp) (fun b hb'=>hbase b (by omega)) rfl rfl
 refine ⟨⟨hg,h.post.le,h.post.nle,by have:=h.post.sz; simpa using this,fun c hc hF=>(hbase c hc).trans (h.post.keep c hc hF),h.post.fF,h.post.fD,h.post.ids,h.post.old⟩,h.le,⟨h.ol.1,by simpa using h.ol.2.1,h.ol.2.2⟩,⟨h.oD.1,by simpa using h.oD.2.1,h.oD.2.2⟩,h.ne,World.putObj_heap_same h.ol.2.1,(World.putObj_heap_other h.ne).trans h.K⟩
theorem er_of (env:List (Nat × Value)) {ρ:Ren} {t:Array Value} (h:ER ρ env ⟨t,[]⟩) {s:Nat} {k:IntKind} {n:Int} (hl:look s env=some (.int k n)):t.getD s undef = .int k n:=(h s _ hl).int_inv
theorem fold2 (t:Array Value) (a b:Value):((#[8,9]:Array Tmp).zip #[a,b]).foldl (fun tmps x=>tmps.setIfInBounds x.1 x.2) t=(t.setIfInBounds 8 a).setIfInBounds 9 b:=by simp [Array.zip]
theorem round_ok (hT:Tabs W0) (hwi:W0.heap.size ≤ wi.heap.size) {fn:FuncId} {assign body:Code} {tO:Array Value} {ρ:Ren} {φ:Foot} {m m1 m2 m':Mem E.X} {e1 e2 e':List (Nat × Value)} {w:World} {a b:Int}
  (hr:r = { state:=.ready,pending:=none,fn:=fn,tmps:=tO,params:=#[8,9],assign:=assign,body:=body,defers:=D })
  (hO:ER ρO e_o2 ⟨tO,[]⟩) (hsz:tO.size=16)
  {o3 o4 o5:Array Oper} (ha:assign=(Code.region 3 o3 false).seq (Code.region 4 o4 false)) (hb:body=Code.block 1 (Code.region 5 o5 false))
  (n3:noDeferB o3.toList=true) (n4:noDeferB o4.toList=true) (n5:noDeferB o5.toList=true) (k3:dstB 0 o3.toList=true) (k4:dstB 0 o4.toList=true) (k5:dstB 0 o5.toList=true)
  (h3:((mkOps PZ (fun _=>true) 16 o3.toList o3.toList).bind fun il=>runOps call0 il ((9,.int .i64 b) :: (8,.int .i64 a) :: e_o2) m)=some (e1,m1))
  (h4:((mkOps PZ (fun _=>true) 16 o4.toList o4.toList).bind fun il=>runOps call0 il e1 m1)=some (e2,m2))
  (h5:((mkOps PZ (fun _=>true) 16 o5.toList o5.toList).bind fun il=>runOps call0 il e2 m2)=some (e',m'))
  (h:RInv E W0 wi ρi φi Vi ni ρO l D r ρ φ m w) (hsep:m.Sep) :
  RoundIn Fence.wide 0 PZ l fn ((tO.setIfInBounds 8 (.int .i64 a)).setIfInBounds 9 (.int .i64 b)) assign body w fun e w'=>e = .returned (.bool true) ∧ ∃ ρ' φ',RInv E W0 wi ρi φi Vi ni ρO l D r ρ' φ' m' w' ∧ ρ.le ρ' ∧ m'.Sep:=by
 have hC:=call0_ok (E:=E) hT
 subst ha hb
 refine roundIn_of_wpIn trivial ?_
 have hst:St E W0 ρ φ ((9,.int .i64 b) :: (8,.int .i64 a) :: e_o2) m 16 ⟨(tO.setIfInBounds 8 (.int .i64 a)).setIfInBounds 9 (.int .i64 b),[]⟩ w:=by
  have h1:ER ρ e_o2 ⟨tO,[]⟩:=hO.mono h.le
  have h2:=er_put (d:=8) (v:=.int .i64 a) (v':=.int .i64 a) h1 (by show 8 < tO.size; omega) (.of_flat (.int _ _))
  have h3:=er_put (d:=9) (v:=.int .i64 b) (v':=.int .i64 b) h2 (by simp [Act.put,hsz]) (.of_flat (.int _ _))
  exact ⟨h3,by simp [hsz],rfl,hsep,h.post.good⟩
 refine wpIn_seq (region_at (ro:=some l) (s:=0) hC n3 k3 h3 hst ?_)
 intro t1 w1 ρ1 φ1 ht1 _
 refine region_at (ro:=some l) (s:=0) hC n4 k4 h4 ht1.st ?_
 intro t2 w2 ρ2 φ2 ht2 _
 have i1:=(h.step ht1.post).step ht2.post
 have hr2:r.state = .ready:=by rw [hr]
 refine ⟨_,run_beginRound i1.L hr2,?_⟩
 have i2:=i1.putL { r with state:=.busy } hwi
 have hst2:St E W0 ρ2 φ2 e2 m2 16 ⟨t2,[]⟩ (w2.putObj l (.loop { r with state:=.busy })):=⟨ht2.st.er,ht2.st.sz,rfl,ht2.st.sep,i2.post.good⟩
 refine wpIn_block (region_at (ro:=some l) (s:=0) hC n5 k5 h5 hst2 ?_)
 intro t3 w3 ρ3 φ3 ht3 _
 have i3:=i2.step ht3.post
 refine ⟨_,_,run_endRound none i3.L,rfl,ρ3,φ3,?_,Ren.le_trans ht1.post.le (Ren.le_trans ht2.post.le ht3.post.le),ht3.st.sep⟩
 have i4:=i3.putL { { r with state:=.busy } with state:=if (none:Option Code).isNone then .ready else .done,pending:=none } hwi
 have:({ { r with state:=.busy } with state:=if (none:Option Code).isNone then .ready else .done,pending:=none }:Loop)=r:=by
  subst hr; rfl
 rw [this] at i4
 rw [this]
 exact i4
theorem eval_put {t:Array Value} {ds:List Deferred} {d s:Nat} {v x:Value} (hd:d < t.size) (h:(if s=d then v else t.getD s undef)=x):((⟨t,ds⟩:Act).put (some d) v).tmps.getD s undef=x:=by
 simp only [Act.put]
 rw [Array.getD_eq_getD_getElem?,Array.getElem?_setIfInBounds]
 by_cases e:d=s
 ·subst e
  rw [if_pos rfl] at h
  rw [if_pos rfl,if_pos hd]
  exact h
 ·rw [if_neg (fun h=>e h.symm)] at h
  rw [if_neg e]
  rw [Array.getD_eq_getD_getElem?] at h
  exact h
theorem opsIn_cons {F:Fence} {n:Nat} {ops:Array Oper} {Q:Exit → Act → World → Prop} {i:Nat} {rest:List Nat} {t:Array Value} {ds:List Deferred} {w:World} {o:Oper} (ho:ops[i]? = some o) (hg:o.guard=none) (hF:∀ f,F.fn f) (hR:F.round=none)
  (h:o.uponIn F n PZ ⟨t,ds⟩ (wpOpsIn F n PZ ops Q rest) Q ((execOp (⟨t,ds⟩:Act).eval o).run PZ w)):wpOpsIn F n PZ ops Q (i :: rest) ⟨t,ds⟩ w:=by
 simp only [wpOpsIn,ho]
 have hw:Region.wanted o (yielded ops t)=true:=by simp [Region.wanted,hg]
 rw [if_pos hw]
 refine ⟨fun f _=>hF f,?_⟩
 rw [hR,Oper.semAt_none]
 exact h
theorem opsIn_val {F:Fence} {n:Nat} {ops:Array Oper} {Q:Exit → Act → World → Prop} {i:Nat} {rest:List Nat} {t:Array Value} {ds:List Deferred} {w:World} {o:Oper} {v:Value} (ho:ops[i]? = some o) (hg:o.guard=none) (hF:∀ f,F.fn f) (hR:F.round=none)
  (hv:(execOp (⟨t,ds⟩:Act).eval o).run PZ w = .ok (.value v) w) (h:wpOpsIn F n PZ ops Q rest ((⟨t,ds⟩:Act).put o.dst v) w):wpOpsIn F n PZ ops Q (i :: rest) ⟨t,ds⟩ w:=by
 refine opsIn_cons ho hg hF hR ?_
 rw [hv]; exact h
theorem exec_move {ρ:Operand → Value} {x:Operand} {d:Option Nat} {ty:TypeId} {pos:String} {af:Array Edge} {g:Option (Nat × Bool)} {w:World} {v:Value} (h:ρ x=v):(execOp ρ ⟨d,.move x,ty,pos,af,g⟩).run PZ w = .ok (.value v) w:=by
 simp only [execOp,h]
 rfl
theorem exec_sub {ρ:Operand → Value} {x y:Operand} {d:Option Nat} {ty:TypeId} {pos:String} {af:Array Edge} {g:Option (Nat × Bool)} {w:World} {a b c:Nat} (hx:ρ x = .int .i64 (.ofNat a)) (hy:ρ y = .int .i64 (.ofNat b)) (hc:a=b + c) (hl:c < 1000):(execOp ρ ⟨d,.binOp .sub 3 x y 3,ty,pos,af,g⟩).run PZ w = .ok (.value (.int .i64 (.ofNat c))) w:=by
 have h1:intBin .sub .i64 (.ofNat a) .i64 (.ofNat b)=some (.int .i64 (.ofNat c)):=by
  subst hc
  have:(Int.ofNat (b + c) - Int.ofNat b)=Int.ofNat c:=by simp; omega
  simp only [intBin,if_true,this]
  congr 2
  rw [wrapF_eq]; exact wrapF_nat .i64 c (by show c < 9223372036854775808; omega)
 have h3:binVal .sub (eqk PZ 3) (.int .i64 (.ofNat a)) (.int .i64 (.ofNat b))=some (.int .i64 (.ofNat c)):=h1
 have h2:=(binVal_sound (P:=PZ) (w:=w) (ρ:=fun _=>none) (ox:=x) (oy:=y) h3 (.of_flat (.int _ _)) (.of_flat (.int _ _))).1
 exact ok_v (by rw [hx,hy]; exact h2)
theorem exec_notT {ρ:Operand → Value} {x:Operand} {d:Option Nat} {t ty:TypeId} {pos:String} {af:Array Edge} {g:Option (Nat × Bool)} {w:World} (hx:ρ x = .bool true):(execOp ρ ⟨d,.unOp .not t x,ty,pos,af,g⟩).run PZ w = .ok (.value (.bool false)) w:=by
 simp only [execOp,hx]
 rfl
theorem exec_yield {ρ:Operand → Value} {f x y:Operand} {d:Option Nat} {ts:Array TypeId} {ty:TypeId} {pos:String} {af:Array Edge} {g:Option (Nat × Bool)} {w:World} {a b:Int} {l:Nat} {r:Loop} (hf:ρ f = .func (.yield l) #[] #[]) (hx:ρ x = .int .i64 a) (hy:ρ y = .int .i64 b)
  (hL:w.heap[l]? = some (.loop r)) (hp:r.params = #[8,9]):(execOp ρ ⟨d,.call ⟨.value f,#[x,y],ts⟩,ty,pos,af,g⟩).run PZ w = .ok (.round l r.fn ((r.tmps.setIfInBounds 8 (.int .i64 a)).setIfInBounds 9 (.int .i64 b)) r.assign r.body) w:=by
 have h:=run_yield (P:=PZ) (args:=#[.int .i64 a,.int .i64 b]) hL (by rw [hp]; rfl)
 rw [hp,fold2] at h
 have hm:(#[x,y]:Array Operand).map ρ = #[.int .i64 a,.int .i64 b]:=by simp [hx,hy]
 simp only [execOp,resolve,hf,Deferred.ofValue,Sem.run_bind,Sem.run_pure,Result.andThen_ok,invoke,hm]
 simpa using h
theorem getD_set (t:Array Value) (d s:Nat) (v:Value):(t.setIfInBounds d v).getD s undef=if s=d then (if d < t.size then v else undef) else t.getD s undef:=by
 rw [Array.getD_eq_getD_getElem?,Array.getElem?_setIfInBounds,Array.getD_eq_getD_getElem?]
 by_cases e:d=s
 ·subst e
  simp only [if_true]
  split <;> rfl
 ·rw [if_neg e,if_neg (fun h=>e h.symm)]
theorem eval_tmp (t:Array Value) (ds:List Deferred) (s:Nat):(⟨t,ds⟩:Act).eval (.tmp s)=t.getD s undef:=rfl
theorem yield_ops {ops:Array Oper} {t:Array Value} {w:World} {Q:Exit → Act → World → Prop} {a b c:Nat} (hsz:t.size=24) (h0:t.getD 0 undef = .func (.yield l) #[] #[]) (h3:t.getD 3 undef = .int .i64 (.ofNat a)) (h4:t.getD 4 undef = .int .i64 (.ofNat b)) (hc:b=a + c) (hl:c < 1000)
  {ty0 ty1 ty2 ty3 ty4 ty5 ty6 ty7:TypeId} {p0 p1 p2 p3 p4 p5 p6:String} {f0 f1 f2 f3 f4 f5 f6:Array Edge} {ts:Array TypeId}
  (hn:ops.size=7) (o0:ops[0]? = some ⟨some 14,.move (.tmp 0),ty0,p0,f0,none⟩) (o1:ops[1]? = some ⟨some 15,.move (.tmp 3),ty1,p1,f1,none⟩) (o2:ops[2]? = some ⟨some 16,.move (.tmp 4),ty2,p2,f2,none⟩) (o3:ops[3]? = some ⟨some 17,.move (.tmp 3),ty3,p3,f3,none⟩) (o4:ops[4]? = some ⟨some 18,.binOp .sub 3 (.tmp 16) (.tmp 17) 3,ty4,p4,f4,none⟩) (o5:ops[5]? = some ⟨some 19,.call ⟨.value (.tmp 14),#[.tmp 15,.tmp 18],ts⟩,ty5,p5,f5,none⟩) (o6:ops[6]? = some ⟨some 20,.unOp .not ty7 (.tmp 19),ty6,p6,f6,none⟩)
  (hL:w.heap[l]? = some (.loop r)) (hp:r.params = #[8,9])
  (hr:RoundIn Fence.wide 0 PZ l r.fn ((r.tmps.setIfInBounds 8 (.int .i64 (.ofNat a))).setIfInBounds 9 (.int .i64 (.ofNat c))) r.assign r.body w fun e w'=>e = .returned (.bool true) ∧
   ∀ t',t'.size=24 → (∀ s,s < 14 ∨ 20 < s → t'.getD s undef=t.getD s undef) → t'.getD 20 undef = .bool false → Q .normal ⟨t',[]⟩ w'):wpOpsIn Fence.wide 1 PZ ops Q (List.range ops.size) ⟨t,[]⟩ w:=by
 rw [hn]
 show wpOpsIn Fence.wide 1 PZ _ Q [0,1,2,3,4,5,6] ⟨t,[]⟩ w
 refine opsIn_val o0 rfl (fun _=>trivial) rfl (exec_move h0) ?_
 refine opsIn_val (t:=t.setIfInBounds 14 (.func (.yield l) #[] #[])) (ds:=[]) o1 rfl (fun _=>trivial) rfl (exec_move (v:=.int .i64 (.ofNat a)) (by refine (eval_tmp _ _ _).trans ?_; simp only [getD_set,Array.size_setIfInBounds,hsz,h0,h3,h4,reduceIte,Nat.reduceEqDiff,Nat.reduceLT])) ?_
 refine opsIn_val (t:=(t.setIfInBounds 14 (.func (.yield l) #[] #[])).setIfInBounds 15 (.int .i64 (.ofNat a))) (ds:=[]) o2 rfl (fun _=>trivial) rfl (exec_move (v:=.int .i64 (.ofNat b)) (by refine (eval_tmp _ _ _).trans ?_; simp only [getD_set,Array.size_setIfInBounds,hsz,h0,h3,h4,reduceIte,Nat.reduceEqDiff,Nat.reduceLT])) ?_
 refine opsIn_val (t:=((t.setIfInBounds 14 (.func (.yield l) #[] #[])).setIfInBounds 15 (.int .i64 (.ofNat a))).setIfInBounds 16 (.int .i64 (.ofNat b))) (ds:=[]) o3 rfl (fun _=>trivial) rfl (exec_move (v:=.int .i64 (.ofNat a)) (by refine (eval_tmp _ _ _).trans ?_; simp only [getD_set,Array.size_setIfInBounds,hsz,h0,h3,h4,reduceIte,Nat.reduceEqDiff,Nat.reduceLT])) ?_
 refine opsIn_val (t:=(((t.setIfInBounds 14 (.func (.yield l) #[] #[])).setIfInBounds 15 (.int .i64 (.ofNat a))).setIfInBounds 16 (.int .i64 (.ofNat b))).setIfInBounds 17 (.int .i64 (.ofNat a))) (ds:=[]) o4 rfl (fun _=>trivial) rfl
  (v:=.int .i64 (.ofNat c)) (by
   refine exec_sub (a:=b) (b:=a) ?_ ?_ hc hl
   ·refine (eval_tmp _ _ _).trans ?_; simp only [getD_set,Array.size_setIfInBounds,hsz,h0,h3,h4,reduceIte,Nat.reduceEqDiff,Nat.reduceLT]
   ·refine (eval_tmp _ _ _).trans ?_; simp only [getD_set,Array.size_setIfInBounds,hsz,h0,h3,h4,reduceIte,Nat.reduceEqDiff,Nat.reduceLT]) ?_
 show wpOpsIn Fence.wide 1 PZ ops Q [5,6] ⟨((((t.setIfInBounds 14 (.func (.yield l) #[] #[])).setIfInBounds 15 (.int .i64 (.ofNat a))).setIfInBounds 16 (.int .i64 (.ofNat b))).setIfInBounds 17 (.int .i64 (.ofNat a))).setIfInBounds 18 (.int .i64 (.ofNat c)),[]⟩ w
 have q1:(((((t.setIfInBounds 14 (.func (.yield l) #[] #[])).setIfInBounds 15 (.int .i64 (.ofNat a))).setIfInBounds 16 (.int .i64 (.ofNat b))).setIfInBounds 17 (.int .i64 (.ofNat a))).setIfInBounds 18 (.int .i64 (.ofNat c))).size=24:=by simp only [Array.size_setIfInBounds,hsz]
 have q2:(((((t.setIfInBounds 14 (.func (.yield l) #[] #[])).setIfInBounds 15 (.int .i64 (.ofNat a))).setIfInBounds 16 (.int .i64 (.ofNat b))).setIfInBounds 17 (.int .i64 (.ofNat a))).setIfInBounds 18 (.int .i64 (.ofNat c))).getD 14 undef = .func (.yield l) #[] #[]:=by simp only [getD_set,Array.size_setIfInBounds,hsz,h0,h3,h4,reduceIte,Nat.reduceEqDiff,Nat.reduceLT]
 have q3:(((((t.setIfInBounds 14 (.func (.yield l) #[] #[])).setIfInBounds 15 (.int .i64 (.ofNat a))).setIfInBounds 16 (.int .i64 (.ofNat b))).setIfInBounds 17 (.int .i64 (.ofNat a))).setIfInBounds 18 (.int .i64 (.ofNat c))).getD 15 undef = .int .i64 (.ofNat a):=by simp only [getD_set,Array.size_setIfInBounds,hsz,h0,h3,h4,reduceIte,Nat.reduceEqDiff,Nat.reduceLT]
 have q4:(((((t.setIfInBounds 14 (.func (.yield l) #[] #[])).setIfInBounds 15 (.int .i64 (.ofNat a))).setIfInBounds 16 (.int .i64 (.ofNat b))).setIfInBounds 17 (.int .i64 (.ofNat a))).setIfInBounds 18 (.int .i64 (.ofNat c))).getD 18 undef = .int .i64 (.ofNat c):=by simp only [getD_set,Array.size_setIfInBounds,hsz,h0,h3,h4,reduceIte,Nat.reduceEqDiff,Nat.reduceLT]
 have q5:∀ s,s < 14 ∨ 20 < s → (((((t.setIfInBounds 14 (.func (.yield l) #[] #[])).setIfInBounds 15 (.int .i64 (.ofNat a))).setIfInBounds 16 (.int .i64 (.ofNat b))).setIfInBounds 17 (.int .i64 (.ofNat a))).setIfInBounds 18 (.int .i64 (.ofNat c))).getD s undef=t.getD s undef:=by
  intro s hs
  simp only [getD_set]
  repeat rw [if_neg (by omega)]
 generalize ((((t.setIfInBounds 14 (.func (.yield l) #[] #[])).setIfInBounds 15 (.int .i64 (.ofNat a))).setIfInBounds 16 (.int .i64 (.ofNat b))).setIfInBounds 17 (.int .i64 (.ofNat a))).setIfInBounds 18 (.int .i64 (.ofNat c))=T at q1 q2 q3 q4 q5
 refine opsIn_cons o5 rfl (fun _=>trivial) rfl ?_
 have hx:=exec_yield (d:=some 19) (ts:=ts) (ty:=ty5) (pos:=p5) (af:=f5) (g:=none) (w:=w) (ρ:=(⟨T,[]⟩:Act).eval) (f:=.tmp 14) (x:=.tmp 15) (y:=.tmp 18) (l:=l) (r:=r) (a:=.ofNat a) (b:=.ofNat c)
  ((eval_tmp _ _ _).trans q2) ((eval_tmp _ _ _).trans q3) ((eval_tmp _ _ _).trans q4) hL hp
 rw [hx,Oper.uponIn_round]
 refine ⟨fun h=>by simp [Fence.wide] at h,hr.mono ?_⟩
 rintro e w' ⟨rfl,hQ⟩
 show wpOpsIn Fence.wide 1 PZ ops Q [6] ⟨T.setIfInBounds 19 (.bool true),[]⟩ w'
 refine opsIn_val o6 rfl (fun _=>trivial) rfl (v:=.bool false) (by
   refine exec_notT ?_
   refine (eval_tmp _ _ _).trans ?_
   simp only [getD_set,q1,reduceIte,Nat.reduceEqDiff,Nat.reduceLT]) ?_
 refine hQ ((T.setIfInBounds 19 (.bool true)).setIfInBounds 20 (.bool false)) (by simp only [Array.size_setIfInBounds,q1]) ?_ (by simp only [getD_set,Array.size_setIfInBounds,q1,reduceIte,Nat.reduceEqDiff,Nat.reduceLT])
 intro s hs
 rw [← q5 s hs]
 simp only [getD_set]
 repeat rw [if_neg (by omega)]
theorem er_same {ρ:Ren} {env:List (Nat × Value)} {t t':Array Value} (h:ER ρ env ⟨t,[]⟩) (hs:∀ s v,look s env=some v → t'.getD s undef=t.getD s undef):ER ρ env ⟨t',[]⟩:=fun s v e=>by
 show VR ρ v (t'.getD s undef)
 rw [hs s v e]; exact h s v e
def keysB (env:List (Nat × Value)):Bool:=env.all fun x=>Nat.blt x.1 14 || Nat.blt 20 x.1
theorem keys_of:∀ {env:List (Nat × Value)},keysB env=true → ∀ s v,look s env=some v → s < 14 ∨ 20 < s
 | [],_,s,v,h=>by simp [look] at h
 | x :: r,hk,s,v,h=>by
  simp only [keysB,List.all_cons,Bool.and_eq_true,Bool.or_eq_true] at hk
  rw [look_cons] at h
  split at h
  ·rename_i e
   subst e
   rcases hk.1 with h | h
   ·left; rw [blt_iff] at h; simpa using h
   ·right; rw [blt_iff] at h; simpa using h
  ·exact keys_of (env:=r) hk.2 s v h
end
end Go.AI
