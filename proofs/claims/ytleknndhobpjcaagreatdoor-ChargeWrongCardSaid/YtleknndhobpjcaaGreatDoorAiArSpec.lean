/- What the arena's methods do, as functions that the kernel reckons quickly. No program is named here. -/
import Derived.Test.YtleknndhobpjcaaGreatDoorAiArena
namespace Go.AI

def pgAt : List (Option Nat) → Nat → Option Nat
  | [], _ => none
  | p :: _, 0 => p
  | _ :: r, n + 1 => pgAt r n
def setPg : List (Option Nat) → Nat → Option Nat → List (Option Nat)
  | [], _, _ => []
  | _ :: r, 0, q => q :: r
  | p :: r, n + 1, q => p :: setPg r n q
/-- Are all of so many pages committed? -/
def allC (l : List (Option Nat)) (p : Nat) : Nat → Bool
  | 0 => true
  | k + 1 => match pgAt l p with
    | some _ => allC l (Nat.succ p) k
    | none => false
def cntC (l : List (Option Nat)) (p : Nat) : Nat → Nat
  | 0 => 0
  | k + 1 => match pgAt l p with
    | some _ => Nat.succ (cntC l (Nat.succ p) k)
    | none => cntC l (Nat.succ p) k
def setAll (l : List (Option Nat)) (q : Option Nat) (p : Nat) : Nat → List (Option Nat)
  | 0 => l
  | k + 1 => setAll (setPg l p q) q (Nat.succ p) k

/-- 0: the bytes are there; 3: they are not. -/
def checkN (l : List (Option Nat)) (at_ k : Nat) : Nat :=
  bif Nat.ble (Nat.add at_ k) (Nat.mul l.length 4096) then (bif Nat.beq k 0 then 0 else
    bif allC l (Nat.div at_ 4096) (Nat.succ (Nat.sub (Nat.div (Nat.pred (Nat.add at_ k)) 4096) (Nat.div at_ 4096))) then 0 else 3) else 3
def checkA (l : List (Option Nat)) : Int → Int → Nat
  | .ofNat a, .ofNat k => checkN l a k
  | _, _ => 3

def segBytes (P : Nat) (off : Nat) : Nat → List UInt8
  | 0 => []
  | k + 1 => UInt8.ofNat (byteN P off) :: segBytes P (Nat.succ off) k
def bytesA (l : List (Option Nat)) : Nat → Nat → Nat → List UInt8
  | 0, _, _ => []
  | f + 1, at_, n => bif Nat.beq n 0 then [] else match pgAt l (Nat.div at_ 4096) with
    | some P => segBytes P (Nat.mod at_ 4096) (Nat.min n (Nat.sub 4096 (Nat.mod at_ 4096))) ++ bytesA l f (Nat.add at_ (Nat.min n (Nat.sub 4096 (Nat.mod at_ 4096)))) (Nat.sub n (Nat.min n (Nat.sub 4096 (Nat.mod at_ 4096))))
    | none => []
def fuelA (n : Nat) : Nat := Nat.add (Nat.div n 4096) 2

def numOf : List UInt8 → Nat
  | [] => 0
  | b :: r => Nat.add b.toNat (Nat.mul 256 (numOf r))
def numBytes (x : Nat) : Nat → List UInt8
  | 0 => []
  | k + 1 => UInt8.ofNat (Nat.mod x 256) :: numBytes (Nat.div x 256) k
/-- k bytes of a page, from one on, are those of a number. -/
def setBytes (P off k v : Nat) : Nat :=
  Nat.lor (Nat.lor (Nat.mod P (Nat.pow 2 (Nat.mul 8 off))) (Nat.shiftLeft v (Nat.mul 8 off))) (Nat.shiftLeft (Nat.shiftRight P (Nat.mul 8 (Nat.add off k))) (Nat.mul 8 (Nat.add off k)))
def putA : Nat → List (Option Nat) → Nat → List UInt8 → List (Option Nat)
  | 0, l, _, _ => l
  | f + 1, l, at_, s => bif Nat.beq s.length 0 then l else match pgAt l (Nat.div at_ 4096) with
    | some P => putA f (setPg l (Nat.div at_ 4096) (some (setBytes P (Nat.mod at_ 4096) (Nat.min s.length (Nat.sub 4096 (Nat.mod at_ 4096))) (numOf (s.take (Nat.min s.length (Nat.sub 4096 (Nat.mod at_ 4096))))))))
        (Nat.add at_ (Nat.min s.length (Nat.sub 4096 (Nat.mod at_ 4096)))) (s.drop (Nat.min s.length (Nat.sub 4096 (Nat.mod at_ 4096))))
    | none => l
def fillV (b k : Nat) : Nat := Nat.mul b (Nat.div (Nat.pred (Nat.pow 256 k)) 255)
def fillA (b : Nat) : Nat → List (Option Nat) → Nat → Nat → List (Option Nat)
  | 0, l, _, _ => l
  | f + 1, l, at_, n => bif Nat.beq n 0 then l else match pgAt l (Nat.div at_ 4096) with
    | some P => fillA b f (setPg l (Nat.div at_ 4096) (some (setBytes P (Nat.mod at_ 4096) (Nat.min n (Nat.sub 4096 (Nat.mod at_ 4096))) (fillV b (Nat.min n (Nat.sub 4096 (Nat.mod at_ 4096)))))))
        (Nat.add at_ (Nat.min n (Nat.sub 4096 (Nat.mod at_ 4096)))) (Nat.sub n (Nat.min n (Nat.sub 4096 (Nat.mod at_ 4096))))
    | none => l

def wholeN (n : Nat) : Bool := Nat.beq n 1 || Nat.beq n 2 || Nat.beq n 4 || Nat.beq n 8
def loadA (l : List (Option Nat)) (at_ k : Nat) : Nat :=
  bif Nat.ble (Nat.add (Nat.mod at_ 4096) k) 4096 then (match pgAt l (Nat.div at_ 4096) with
    | some P => Nat.mod (Nat.shiftRight P (Nat.mul 8 (Nat.mod at_ 4096))) (Nat.pow 256 k)
    | none => 0) else numOf (bytesA l (fuelA k) at_ k)
def storeA (l : List (Option Nat)) (at_ k x : Nat) : List (Option Nat) :=
  bif Nat.ble (Nat.add (Nat.mod at_ 4096) k) 4096 then (match pgAt l (Nat.div at_ 4096) with
    | some P => setPg l (Nat.div at_ 4096) (some (setBytes P (Nat.mod at_ 4096) k (Nat.mod x (Nat.pow 256 k))))
    | none => l) else putA (fuelA k) l at_ (numBytes x k)

/-! ### The methods: of a receiver that is there -/
def errV (n : Nat) : Value := .int .i64 (Int.ofNat n)
def capS (x : Ar) : List Value → Option (Value × Ar)
  | [] => some (.int .i64 (Int.ofNat x.pages.length), x)
  | _ => none
def committedS (x : Ar) : List Value → Option (Value × Ar)
  | [] => some (.int .i64 (Int.ofNat (countN x.pages)), x)
  | _ => none
def hasS (x : Ar) : List Value → Option (Value × Ar)
  | [.int .i64 (.ofNat p)] => some (.bool (match pgAt x.pages p with | some _ => true | none => false), x)
  | [.int .i64 (.negSucc _)] => some (.bool false, x)
  | _ => none
def refuseS (x : Ar) : List Value → Option (Value × Ar)
  | [.int .i64 (.ofNat n)] => bif Nat.blt n 9223372036854775808 then some (.tuple ⟨[]⟩, ⟨x.pages, true, n⟩) else none
  | [.int .i64 (.negSucc _)] => some (.tuple ⟨[]⟩, ⟨x.pages, true, 0⟩)
  | _ => none
def commitS (x : Ar) : List Value → Option (Value × Ar)
  | [.int .i64 from_, .int .i64 n] => match n with
    | .negSucc _ => some (errV 2, x)
    | .ofNat 0 => some (errV 2, x)
    | .ofNat (n + 1) => match from_ with
      | .negSucc _ => some (errV 3, x)
      | .ofNat f => bif Nat.ble (Nat.add f (Nat.succ n)) x.pages.length then
          (bif Nat.beq (cntC x.pages f (Nat.succ n)) 0 then
            (bif x.armed && Nat.beq x.refuse 0 then some (errV 4, ⟨x.pages, false, x.refuse⟩)
             else some (errV 0, ⟨setAll x.pages (some 0) f (Nat.succ n), x.armed, Nat.pred x.refuse⟩))
           else some (errV 9, x)) else some (errV 3, x)
  | _ => none
def decommitS (x : Ar) : List Value → Option (Value × Ar)
  | [.int .i64 from_, .int .i64 n] => match n with
    | .negSucc _ => some (errV 2, x)
    | .ofNat 0 => some (errV 2, x)
    | .ofNat (n + 1) => match from_ with
      | .negSucc _ => some (errV 3, x)
      | .ofNat f => bif Nat.ble (Nat.add f (Nat.succ n)) x.pages.length then
          (bif allC x.pages f (Nat.succ n) then some (errV 0, ⟨setAll x.pages none f (Nat.succ n), x.armed, x.refuse⟩) else some (errV 8, x)) else some (errV 3, x)
  | _ => none
def bytesS (x : Ar) : List Value → Option (Value × Ar)
  | [.int .i64 a, .int .i64 n] => match a, n with
    | .ofNat a', .ofNat n' => (match checkN x.pages a' n' with
      | 0 => some (.tuple ⟨[.string ⟨⟨bytesA x.pages (fuelA n') a' n'⟩⟩, errV 0]⟩, x)
      | Nat.succ _ => some (.tuple ⟨[.string ⟨⟨[]⟩⟩, errV 3]⟩, x))
    | _, _ => some (.tuple ⟨[.string ⟨⟨[]⟩⟩, errV 3]⟩, x)
  | _ => none
def putS (x : Ar) : List Value → Option (Value × Ar)
  | [.int .i64 a, .string s] => match a with
    | .ofNat a' => (match checkN x.pages a' s.data.toList.length with
      | 0 => some (errV 0, ⟨putA (fuelA s.data.toList.length) x.pages a' s.data.toList, x.armed, x.refuse⟩)
      | Nat.succ _ => some (errV 3, x))
    | _ => some (errV 3, x)
  | _ => none
def fillS (x : Ar) : List Value → Option (Value × Ar)
  | [.int .i64 a, .int .i64 n, .int .u8 (.ofNat b)] => bif Nat.blt b 256 then (match a, n with
    | .ofNat a', .ofNat n' => (match checkN x.pages a' n' with
      | 0 => some (errV 0, ⟨fillA b (fuelA n') x.pages a' n', x.armed, x.refuse⟩)
      | Nat.succ _ => some (errV 3, x))
    | _, _ => some (errV 3, x)) else none
  | _ => none
def loadS (x : Ar) : List Value → Option (Value × Ar)
  | [.int .i64 a, .int .i64 n] => match n with
    | .negSucc _ => some (.tuple ⟨[.int .u64 (.ofNat 0), errV 2]⟩, x)
    | .ofNat n' => bif wholeN n' then (match a with
      | .ofNat a' => (match checkN x.pages a' n' with
        | 0 => some (.tuple ⟨[.int .u64 (Int.ofNat (loadA x.pages a' n')), errV 0]⟩, x)
        | Nat.succ _ => some (.tuple ⟨[.int .u64 (.ofNat 0), errV 3]⟩, x))
      | _ => some (.tuple ⟨[.int .u64 (.ofNat 0), errV 3]⟩, x)) else some (.tuple ⟨[.int .u64 (.ofNat 0), errV 2]⟩, x)
  | _ => none
def storeS (x : Ar) : List Value → Option (Value × Ar)
  | [.int .i64 a, .int .i64 n, .int .u64 (.ofNat v)] => bif Nat.blt v 18446744073709551616 then (match n with
    | .negSucc _ => some (errV 2, x)
    | .ofNat n' => bif wholeN n' then (match a with
      | .ofNat a' => (match checkN x.pages a' n' with
        | 0 => some (errV 0, ⟨storeA x.pages a' n' v, x.armed, x.refuse⟩)
        | Nat.succ _ => some (errV 3, x))
      | _ => some (errV 3, x)) else some (errV 2, x)) else none
  | _ => none
/-- Copy, as Bytes and then Put. -/
def copyS (x : Ar) : List Value → Option (Value × Ar)
  | [.int .i64 to, .int .i64 from_, .int .i64 n] => match bytesS x [.int .i64 from_, .int .i64 n] with
    | some (.tuple ⟨[.string s, .int .i64 (.ofNat e)]⟩, _) => bif Nat.beq e 0 then putS x [.int .i64 to, .string s] else some (errV e, x)
    | _ => none
  | _ => none
end Go.AI
