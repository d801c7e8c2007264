/-
  NARROWER THAN 'FOR EVERY INPUT', by the rows' own cells (each row's printed sentence says how): RegionNone: laid · GrowNone: laid · BlockNone: laid · RefsNone: laid · TreeWrong: laid · ChargeWrong: laid · RefsPlay: laid · TreeOnce: laid · TreePlays: laid · ChargeMoves: laid · RefsTie: laid · RefsBoth: laid.
  DERIVED. THE GIVEN ROWS OF THIS SEAT. 12 by the template 'for every input the law returns true; each argument reads behind the call as it read before'; 0 by the template 'total and deterministic' (their statements: YtleknndhobpjcaaGreatDoorTotals.lean).
  GIVEN WITH THE SEED: the statements are not yours to turn. If you find one false, say at which input.
  Laid BY PROGRAM, IN A SANDBOX (cutbox-rows.mjs): the forced cells as the released guide's own fill.sh prints them over the translation 4e962f8d9f27a868… (all of the seat's roots in one cut). By AI agents, Wed Nov 11 2026. No macro, syntax, notation, axiom, sorry.
-/
import Derived.Test.YtleknndhobpjcaaGreatDoorChecked
import GoSem.Claim
import GoSem.ClaimJoined
import GoSem.ClaimMapViews
import Derived.JoinedTies
import Derived.KernelRfl
namespace Go.Proofs.YtleknndhobpjcaaGreatDoor
/- THE CELL 'sum', in the pinned program and in every row, IS THE sha256 OF THE DUMP (.gsa) THAT YtleknndhobpjcaaGreatDoorProg.lean LOADS. Nothing in Lean hashes anything: it is a label: what it is worth is what the hold of that sum in a sandbox is worth. -/
noncomputable def Tryz.pinned : Pinned := { name := "ytleknndhobpjcaagreatdoor", sum := "4e962f8d9f27a868e976e2925e5c350a452b53b97f2fe395ec7a674390d01b39", checked := Tryz.checked }
namespace Rows
def none {H : Type} : Left H := { results := [], args := [] }

/- WHAT THE LISTED PACKAGE-LEVEL VARIABLES READ AS WHEN THE CALL BEGINS. Each datum BY PROGRAM (the guide's laid-datum.mjs) off the statement by which the dump's own 'gosem.cut.vars' lays the variable. In a bare row this is a premise. The card (YtleknndhobpjcaaGreatDoorCards.lean) ties it to the program's text. -/
def laid_math_bits_deBruijn32tab {H : Type} : DataW H := .agg [.lit (.int .u8 0), .lit (.int .u8 1), .lit (.int .u8 28), .lit (.int .u8 2), .lit (.int .u8 29), .lit (.int .u8 14), .lit (.int .u8 24), .lit (.int .u8 3), .lit (.int .u8 30), .lit (.int .u8 22), .lit (.int .u8 20), .lit (.int .u8 15), .lit (.int .u8 25), .lit (.int .u8 17), .lit (.int .u8 4), .lit (.int .u8 8), .lit (.int .u8 31), .lit (.int .u8 27), .lit (.int .u8 13), .lit (.int .u8 23), .lit (.int .u8 21), .lit (.int .u8 19), .lit (.int .u8 16), .lit (.int .u8 7), .lit (.int .u8 26), .lit (.int .u8 12), .lit (.int .u8 18), .lit (.int .u8 6), .lit (.int .u8 11), .lit (.int .u8 5), .lit (.int .u8 10), .lit (.int .u8 9)]
def laid_math_bits_deBruijn64tab {H : Type} : DataW H := .agg [.lit (.int .u8 0), .lit (.int .u8 1), .lit (.int .u8 56), .lit (.int .u8 2), .lit (.int .u8 57), .lit (.int .u8 49), .lit (.int .u8 28), .lit (.int .u8 3), .lit (.int .u8 61), .lit (.int .u8 58), .lit (.int .u8 42), .lit (.int .u8 50), .lit (.int .u8 38), .lit (.int .u8 29), .lit (.int .u8 17), .lit (.int .u8 4), .lit (.int .u8 62), .lit (.int .u8 47), .lit (.int .u8 59), .lit (.int .u8 36), .lit (.int .u8 45), .lit (.int .u8 43), .lit (.int .u8 51), .lit (.int .u8 22), .lit (.int .u8 53), .lit (.int .u8 39), .lit (.int .u8 33), .lit (.int .u8 30), .lit (.int .u8 24), .lit (.int .u8 18), .lit (.int .u8 12), .lit (.int .u8 5), .lit (.int .u8 63), .lit (.int .u8 55), .lit (.int .u8 48), .lit (.int .u8 27), .lit (.int .u8 60), .lit (.int .u8 41), .lit (.int .u8 37), .lit (.int .u8 16), .lit (.int .u8 46), .lit (.int .u8 35), .lit (.int .u8 44), .lit (.int .u8 21), .lit (.int .u8 52), .lit (.int .u8 32), .lit (.int .u8 23), .lit (.int .u8 11), .lit (.int .u8 54), .lit (.int .u8 26), .lit (.int .u8 40), .lit (.int .u8 15), .lit (.int .u8 34), .lit (.int .u8 20), .lit (.int .u8 31), .lit (.int .u8 10), .lit (.int .u8 25), .lit (.int .u8 14), .lit (.int .u8 19), .lit (.int .u8 9), .lit (.int .u8 13), .lit (.int .u8 8), .lit (.int .u8 7), .lit (.int .u8 6)]

/-- 'millpondlaw15.RegionNone': WHATEVER THE INPUT: true; the input reads as it did. -/
def regionNoneSpec : ChangeSpec := { name := "regionNone", fn := fun _ => fun
  | [] => { results := [.lit (.bool true)], args := [] }
  | _ => none }
def regionNoneRow : OpenClaim := { program := "ytleknndhobpjcaagreatdoor", sum := "4e962f8d9f27a868e976e2925e5c350a452b53b97f2fe395ec7a674390d01b39", func := "millpond/millpondlaw15.RegionNone", spec := "regionNone", inPlace := ["internal/abi.NoEscape", "internal/bytealg.MakeNoZero"], unfollowed := true, recurses := true, named := ["math/bits.deBruijn32tab", "math/bits.deBruijn64tab"], apart := false, laid := [("math/bits.deBruijn32tab", laid_math_bits_deBruijn32tab), ("math/bits.deBruijn64tab", laid_math_bits_deBruijn64tab)] }
def RegionNoneSaid : Prop := regionNoneRow.holds Tryz.pinned (OpenSpec.ofChange regionNoneSpec)

/-- ITS FALSE NEIGHBOUR: 'it returns false'. Refute it at one input. -/
def regionNoneWrong : ChangeSpec := { name := "regionNone", fn := fun _ => fun
  | [] => { results := [.lit (.bool false)], args := [] }
  | _ => none }
def RegionNoneWrongFalsely : Prop := regionNoneRow.holds Tryz.pinned (OpenSpec.ofChange regionNoneWrong)

/-- 'millpondlaw16.GrowNone': WHATEVER THE INPUT: true; the input reads as it did. -/
def growNoneSpec : ChangeSpec := { name := "growNone", fn := fun _ => fun
  | [] => { results := [.lit (.bool true)], args := [] }
  | _ => none }
def growNoneRow : OpenClaim := { program := "ytleknndhobpjcaagreatdoor", sum := "4e962f8d9f27a868e976e2925e5c350a452b53b97f2fe395ec7a674390d01b39", func := "millpond/millpondlaw16.GrowNone", spec := "growNone", inPlace := ["internal/abi.NoEscape", "internal/bytealg.MakeNoZero"], unfollowed := true, recurses := true, named := ["math/bits.deBruijn32tab", "math/bits.deBruijn64tab"], apart := false, laid := [("math/bits.deBruijn32tab", laid_math_bits_deBruijn32tab), ("math/bits.deBruijn64tab", laid_math_bits_deBruijn64tab)] }
def GrowNoneSaid : Prop := growNoneRow.holds Tryz.pinned (OpenSpec.ofChange growNoneSpec)

/-- ITS FALSE NEIGHBOUR: 'it returns false'. Refute it at one input. -/
def growNoneWrong : ChangeSpec := { name := "growNone", fn := fun _ => fun
  | [] => { results := [.lit (.bool false)], args := [] }
  | _ => none }
def GrowNoneWrongFalsely : Prop := growNoneRow.holds Tryz.pinned (OpenSpec.ofChange growNoneWrong)

/-- 'millpondlaw24.BlockNone': WHATEVER THE INPUT: true; the input reads as it did. -/
def blockNoneSpec : ChangeSpec := { name := "blockNone", fn := fun _ => fun
  | [] => { results := [.lit (.bool true)], args := [] }
  | _ => none }
def blockNoneRow : OpenClaim := { program := "ytleknndhobpjcaagreatdoor", sum := "4e962f8d9f27a868e976e2925e5c350a452b53b97f2fe395ec7a674390d01b39", func := "millpond/millpondlaw24.BlockNone", spec := "blockNone", inPlace := ["internal/abi.NoEscape", "internal/bytealg.MakeNoZero"], unfollowed := true, recurses := true, named := ["math/bits.deBruijn32tab", "math/bits.deBruijn64tab"], apart := false, laid := [("math/bits.deBruijn32tab", laid_math_bits_deBruijn32tab), ("math/bits.deBruijn64tab", laid_math_bits_deBruijn64tab)] }
def BlockNoneSaid : Prop := blockNoneRow.holds Tryz.pinned (OpenSpec.ofChange blockNoneSpec)

/-- ITS FALSE NEIGHBOUR: 'it returns false'. Refute it at one input. -/
def blockNoneWrong : ChangeSpec := { name := "blockNone", fn := fun _ => fun
  | [] => { results := [.lit (.bool false)], args := [] }
  | _ => none }
def BlockNoneWrongFalsely : Prop := blockNoneRow.holds Tryz.pinned (OpenSpec.ofChange blockNoneWrong)

/-- 'millpondlaw23.RefsNone': WHATEVER THE INPUT: true; the input reads as it did. -/
def refsNoneSpec : ChangeSpec := { name := "refsNone", fn := fun _ => fun
  | [] => { results := [.lit (.bool true)], args := [] }
  | _ => none }
def refsNoneRow : OpenClaim := { program := "ytleknndhobpjcaagreatdoor", sum := "4e962f8d9f27a868e976e2925e5c350a452b53b97f2fe395ec7a674390d01b39", func := "millpond/millpondlaw23.RefsNone", spec := "refsNone", inPlace := ["internal/abi.NoEscape", "internal/bytealg.MakeNoZero", "slices.overlaps[millpond/refs.Link]"], unfollowed := true, recurses := true, named := ["math/bits.deBruijn32tab", "math/bits.deBruijn64tab"], apart := false, laid := [("math/bits.deBruijn32tab", laid_math_bits_deBruijn32tab), ("math/bits.deBruijn64tab", laid_math_bits_deBruijn64tab)] }
def RefsNoneSaid : Prop := refsNoneRow.holds Tryz.pinned (OpenSpec.ofChange refsNoneSpec)

/-- ITS FALSE NEIGHBOUR: 'it returns false'. Refute it at one input. -/
def refsNoneWrong : ChangeSpec := { name := "refsNone", fn := fun _ => fun
  | [] => { results := [.lit (.bool false)], args := [] }
  | _ => none }
def RefsNoneWrongFalsely : Prop := refsNoneRow.holds Tryz.pinned (OpenSpec.ofChange refsNoneWrong)

/-- 'millpondlaw19.TreeWrong': WHATEVER THE INPUT: true; the input reads as it did. -/
def treeWrongSpec : ChangeSpec := { name := "treeWrong", fn := fun _ => fun
  | [d] => { results := [.lit (.bool true)], args := [d] }
  | _ => none }
def treeWrongRow : OpenClaim := { program := "ytleknndhobpjcaagreatdoor", sum := "4e962f8d9f27a868e976e2925e5c350a452b53b97f2fe395ec7a674390d01b39", func := "millpond/millpondlaw19.TreeWrong", spec := "treeWrong", inPlace := ["internal/abi.NoEscape", "internal/bytealg.MakeNoZero"], unfollowed := true, recurses := true, named := ["math/bits.deBruijn32tab", "math/bits.deBruijn64tab"], apart := false, laid := [("math/bits.deBruijn32tab", laid_math_bits_deBruijn32tab), ("math/bits.deBruijn64tab", laid_math_bits_deBruijn64tab)] }
def TreeWrongSaid : Prop := treeWrongRow.holds Tryz.pinned (OpenSpec.ofChange treeWrongSpec)

/-- ITS FALSE NEIGHBOUR: 'it returns false'. Refute it at one input. -/
def treeWrongWrong : ChangeSpec := { name := "treeWrong", fn := fun _ => fun
  | [d] => { results := [.lit (.bool false)], args := [d] }
  | _ => none }
def TreeWrongWrongFalsely : Prop := treeWrongRow.holds Tryz.pinned (OpenSpec.ofChange treeWrongWrong)

/-- 'millpondlaw20.ChargeWrong': WHATEVER THE INPUT: true; the input reads as it did. -/
def chargeWrongSpec : ChangeSpec := { name := "chargeWrong", fn := fun _ => fun
  | [d1, d2] => { results := [.lit (.bool true)], args := [d1, d2] }
  | _ => none }
def chargeWrongRow : OpenClaim := { program := "ytleknndhobpjcaagreatdoor", sum := "4e962f8d9f27a868e976e2925e5c350a452b53b97f2fe395ec7a674390d01b39", func := "millpond/millpondlaw20.ChargeWrong", spec := "chargeWrong", inPlace := ["internal/abi.NoEscape", "internal/bytealg.MakeNoZero"], unfollowed := true, recurses := true, named := ["math/bits.deBruijn32tab", "math/bits.deBruijn64tab"], apart := false, laid := [("math/bits.deBruijn32tab", laid_math_bits_deBruijn32tab), ("math/bits.deBruijn64tab", laid_math_bits_deBruijn64tab)] }
def ChargeWrongSaid : Prop := chargeWrongRow.holds Tryz.pinned (OpenSpec.ofChange chargeWrongSpec)

/-- ITS FALSE NEIGHBOUR: 'it returns false'. Refute it at one input. -/
def chargeWrongWrong : ChangeSpec := { name := "chargeWrong", fn := fun _ => fun
  | [d1, d2] => { results := [.lit (.bool false)], args := [d1, d2] }
  | _ => none }
def ChargeWrongWrongFalsely : Prop := chargeWrongRow.holds Tryz.pinned (OpenSpec.ofChange chargeWrongWrong)

/-- 'millpondlaw23.RefsPlay': WHATEVER THE INPUT: true; the input reads as it did. -/
def refsPlaySpec : ChangeSpec := { name := "refsPlay", fn := fun _ => fun
  | [d1, d2] => { results := [.lit (.bool true)], args := [d1, d2] }
  | _ => none }
def refsPlayRow : OpenClaim := { program := "ytleknndhobpjcaagreatdoor", sum := "4e962f8d9f27a868e976e2925e5c350a452b53b97f2fe395ec7a674390d01b39", func := "millpond/millpondlaw23.RefsPlay", spec := "refsPlay", inPlace := ["internal/abi.NoEscape", "internal/bytealg.MakeNoZero", "slices.overlaps[millpond/refs.Link]"], unfollowed := true, recurses := true, named := ["math/bits.deBruijn32tab", "math/bits.deBruijn64tab"], apart := false, laid := [("math/bits.deBruijn32tab", laid_math_bits_deBruijn32tab), ("math/bits.deBruijn64tab", laid_math_bits_deBruijn64tab)] }
def RefsPlaySaid : Prop := refsPlayRow.holds Tryz.pinned (OpenSpec.ofChange refsPlaySpec)

/-- ITS FALSE NEIGHBOUR: 'it returns false'. Refute it at one input. -/
def refsPlayWrong : ChangeSpec := { name := "refsPlay", fn := fun _ => fun
  | [d1, d2] => { results := [.lit (.bool false)], args := [d1, d2] }
  | _ => none }
def RefsPlayWrongFalsely : Prop := refsPlayRow.holds Tryz.pinned (OpenSpec.ofChange refsPlayWrong)

/-- 'millpondlaw19.TreeOnce': WHATEVER THE INPUT: true; the input reads as it did. -/
def treeOnceSpec : ChangeSpec := { name := "treeOnce", fn := fun _ => fun
  | [d1, d2] => { results := [.lit (.bool true)], args := [d1, d2] }
  | _ => none }
def treeOnceRow : OpenClaim := { program := "ytleknndhobpjcaagreatdoor", sum := "4e962f8d9f27a868e976e2925e5c350a452b53b97f2fe395ec7a674390d01b39", func := "millpond/millpondlaw19.TreeOnce", spec := "treeOnce", inPlace := ["internal/abi.NoEscape", "internal/bytealg.MakeNoZero"], unfollowed := true, recurses := true, named := ["math/bits.deBruijn32tab", "math/bits.deBruijn64tab"], apart := false, laid := [("math/bits.deBruijn32tab", laid_math_bits_deBruijn32tab), ("math/bits.deBruijn64tab", laid_math_bits_deBruijn64tab)] }
def TreeOnceSaid : Prop := treeOnceRow.holds Tryz.pinned (OpenSpec.ofChange treeOnceSpec)

/-- ITS FALSE NEIGHBOUR: 'it returns false'. Refute it at one input. -/
def treeOnceWrong : ChangeSpec := { name := "treeOnce", fn := fun _ => fun
  | [d1, d2] => { results := [.lit (.bool false)], args := [d1, d2] }
  | _ => none }
def TreeOnceWrongFalsely : Prop := treeOnceRow.holds Tryz.pinned (OpenSpec.ofChange treeOnceWrong)

/-- 'millpondlaw19.TreePlays': WHATEVER THE INPUT: true; the input reads as it did. -/
def treePlaysSpec : ChangeSpec := { name := "treePlays", fn := fun _ => fun
  | [d1, d2] => { results := [.lit (.bool true)], args := [d1, d2] }
  | _ => none }
def treePlaysRow : OpenClaim := { program := "ytleknndhobpjcaagreatdoor", sum := "4e962f8d9f27a868e976e2925e5c350a452b53b97f2fe395ec7a674390d01b39", func := "millpond/millpondlaw19.TreePlays", spec := "treePlays", inPlace := ["internal/abi.NoEscape", "internal/bytealg.MakeNoZero"], unfollowed := true, recurses := true, named := ["math/bits.deBruijn32tab", "math/bits.deBruijn64tab"], apart := false, laid := [("math/bits.deBruijn32tab", laid_math_bits_deBruijn32tab), ("math/bits.deBruijn64tab", laid_math_bits_deBruijn64tab)] }
def TreePlaysSaid : Prop := treePlaysRow.holds Tryz.pinned (OpenSpec.ofChange treePlaysSpec)

/-- ITS FALSE NEIGHBOUR: 'it returns false'. Refute it at one input. -/
def treePlaysWrong : ChangeSpec := { name := "treePlays", fn := fun _ => fun
  | [d1, d2] => { results := [.lit (.bool false)], args := [d1, d2] }
  | _ => none }
def TreePlaysWrongFalsely : Prop := treePlaysRow.holds Tryz.pinned (OpenSpec.ofChange treePlaysWrong)

/-- 'millpondlaw20.ChargeMoves': WHATEVER THE INPUT: true; the input reads as it did. -/
def chargeMovesSpec : ChangeSpec := { name := "chargeMoves", fn := fun _ => fun
  | [d1, d2, d3, d4] => { results := [.lit (.bool true)], args := [d1, d2, d3, d4] }
  | _ => none }
def chargeMovesRow : OpenClaim := { program := "ytleknndhobpjcaagreatdoor", sum := "4e962f8d9f27a868e976e2925e5c350a452b53b97f2fe395ec7a674390d01b39", func := "millpond/millpondlaw20.ChargeMoves", spec := "chargeMoves", inPlace := ["internal/abi.NoEscape", "internal/bytealg.MakeNoZero"], unfollowed := true, recurses := true, named := ["math/bits.deBruijn32tab", "math/bits.deBruijn64tab"], apart := false, laid := [("math/bits.deBruijn32tab", laid_math_bits_deBruijn32tab), ("math/bits.deBruijn64tab", laid_math_bits_deBruijn64tab)] }
def ChargeMovesSaid : Prop := chargeMovesRow.holds Tryz.pinned (OpenSpec.ofChange chargeMovesSpec)

/-- ITS FALSE NEIGHBOUR: 'it returns false'. Refute it at one input. -/
def chargeMovesWrong : ChangeSpec := { name := "chargeMoves", fn := fun _ => fun
  | [d1, d2, d3, d4] => { results := [.lit (.bool false)], args := [d1, d2, d3, d4] }
  | _ => none }
def ChargeMovesWrongFalsely : Prop := chargeMovesRow.holds Tryz.pinned (OpenSpec.ofChange chargeMovesWrong)

/-- 'millpondlaw23.RefsTie': WHATEVER THE INPUT: true; the input reads as it did. -/
def refsTieSpec : ChangeSpec := { name := "refsTie", fn := fun _ => fun
  | [d1, d2] => { results := [.lit (.bool true)], args := [d1, d2] }
  | _ => none }
def refsTieRow : OpenClaim := { program := "ytleknndhobpjcaagreatdoor", sum := "4e962f8d9f27a868e976e2925e5c350a452b53b97f2fe395ec7a674390d01b39", func := "millpond/millpondlaw23.RefsTie", spec := "refsTie", inPlace := ["internal/abi.NoEscape", "internal/bytealg.MakeNoZero", "slices.overlaps[millpond/refs.Link]"], unfollowed := true, recurses := true, named := ["math/bits.deBruijn32tab", "math/bits.deBruijn64tab"], apart := false, laid := [("math/bits.deBruijn32tab", laid_math_bits_deBruijn32tab), ("math/bits.deBruijn64tab", laid_math_bits_deBruijn64tab)] }
def RefsTieSaid : Prop := refsTieRow.holds Tryz.pinned (OpenSpec.ofChange refsTieSpec)

/-- ITS FALSE NEIGHBOUR: 'it returns false'. Refute it at one input. -/
def refsTieWrong : ChangeSpec := { name := "refsTie", fn := fun _ => fun
  | [d1, d2] => { results := [.lit (.bool false)], args := [d1, d2] }
  | _ => none }
def RefsTieWrongFalsely : Prop := refsTieRow.holds Tryz.pinned (OpenSpec.ofChange refsTieWrong)

/-- 'millpondlaw23.RefsBoth': WHATEVER THE INPUT: true; the input reads as it did. -/
def refsBothSpec : ChangeSpec := { name := "refsBoth", fn := fun _ => fun
  | [d1, d2] => { results := [.lit (.bool true)], args := [d1, d2] }
  | _ => none }
def refsBothRow : OpenClaim := { program := "ytleknndhobpjcaagreatdoor", sum := "4e962f8d9f27a868e976e2925e5c350a452b53b97f2fe395ec7a674390d01b39", func := "millpond/millpondlaw23.RefsBoth", spec := "refsBoth", inPlace := ["internal/abi.NoEscape", "internal/bytealg.MakeNoZero", "slices.overlaps[millpond/refs.Link]"], unfollowed := true, recurses := true, named := ["math/bits.deBruijn32tab", "math/bits.deBruijn64tab"], apart := false, laid := [("math/bits.deBruijn32tab", laid_math_bits_deBruijn32tab), ("math/bits.deBruijn64tab", laid_math_bits_deBruijn64tab)] }
def RefsBothSaid : Prop := refsBothRow.holds Tryz.pinned (OpenSpec.ofChange refsBothSpec)

/-- ITS FALSE NEIGHBOUR: 'it returns false'. Refute it at one input. -/
def refsBothWrong : ChangeSpec := { name := "refsBoth", fn := fun _ => fun
  | [d1, d2] => { results := [.lit (.bool false)], args := [d1, d2] }
  | _ => none }
def RefsBothWrongFalsely : Prop := refsBothRow.holds Tryz.pinned (OpenSpec.ofChange refsBothWrong)

/- THE SECOND FORM. 'bulk': how many values and letters a reading holds, each counted each time it is reached (what is shared counts as often as it is met; a slice's spare places count too). A statement '..UptoSaid' is the law's where the arguments, and the package variables that the reading takes, are together of bulk at most 1048576: NARROWER than '..Said'. Prove '..Said' where nothing that the law and all that it calls make is longer than what came in: it says more and counts as full. Else prove '..UptoSaid'. A law counts once. -/
mutual
def uptoBulk {H : Type} : DataW H → Nat
  | .lit (.string bytes) => bytes.length + 1
  | .lit _ => 1
  | .nil => 1
  | .ptr d => uptoBulk d + 1
  | .slice elems spare => uptoBulkAll elems + uptoBulkAll spare + 1
  | .agg parts => uptoBulkAll parts + 1
  | .iface _ d => uptoBulk d + 1
  | .map entries => uptoBulkEntries entries + 1
  | .held _ => 1
def uptoBulkAll {H : Type} : List (DataW H) → Nat
  | [] => 0
  | d :: r => uptoBulk d + uptoBulkAll r
def uptoBulkEntries {H : Type} : List (Lit × DataW H) → Nat
  | [] => 0
  | x :: r => uptoBulkEntry x + uptoBulkEntries r
def uptoBulkEntry {H : Type} : Lit × DataW H → Nat
  | (.string bytes, d) => bytes.length + uptoBulk d + 1
  | (_, d) => uptoBulk d + 1
 end
def uptoSmall : (H : Type) → List (DataW H) → Bool := fun _ ds => decide (uptoBulkAll ds ≤ 1048576)
def OpenSpec.upto (s : _root_.Go.ChangeSpec) : _root_.Go.OpenSpec := { _root_.Go.OpenSpec.ofChange s with cond := some uptoSmall }

/-- 'millpondlaw15.RegionNone', WHERE WHAT IT READS IS OF BULK AT MOST 1048576: true; the input reads as it did. -/
def regionNoneUptoRow : OpenClaim := { program := "ytleknndhobpjcaagreatdoor", sum := "4e962f8d9f27a868e976e2925e5c350a452b53b97f2fe395ec7a674390d01b39", func := "millpond/millpondlaw15.RegionNone", spec := "regionNone", inPlace := ["internal/abi.NoEscape", "internal/bytealg.MakeNoZero"], unfollowed := true, recurses := true, named := ["math/bits.deBruijn32tab", "math/bits.deBruijn64tab"], apart := false, laid := [("math/bits.deBruijn32tab", laid_math_bits_deBruijn32tab), ("math/bits.deBruijn64tab", laid_math_bits_deBruijn64tab)], narrowed := true }
def RegionNoneUptoSaid : Prop := regionNoneUptoRow.holds Tryz.pinned (OpenSpec.upto regionNoneSpec)

/-- 'millpondlaw16.GrowNone', WHERE WHAT IT READS IS OF BULK AT MOST 1048576: true; the input reads as it did. -/
def growNoneUptoRow : OpenClaim := { program := "ytleknndhobpjcaagreatdoor", sum := "4e962f8d9f27a868e976e2925e5c350a452b53b97f2fe395ec7a674390d01b39", func := "millpond/millpondlaw16.GrowNone", spec := "growNone", inPlace := ["internal/abi.NoEscape", "internal/bytealg.MakeNoZero"], unfollowed := true, recurses := true, named := ["math/bits.deBruijn32tab", "math/bits.deBruijn64tab"], apart := false, laid := [("math/bits.deBruijn32tab", laid_math_bits_deBruijn32tab), ("math/bits.deBruijn64tab", laid_math_bits_deBruijn64tab)], narrowed := true }
def GrowNoneUptoSaid : Prop := growNoneUptoRow.holds Tryz.pinned (OpenSpec.upto growNoneSpec)

/-- 'millpondlaw24.BlockNone', WHERE WHAT IT READS IS OF BULK AT MOST 1048576: true; the input reads as it did. -/
def blockNoneUptoRow : OpenClaim := { program := "ytleknndhobpjcaagreatdoor", sum := "4e962f8d9f27a868e976e2925e5c350a452b53b97f2fe395ec7a674390d01b39", func := "millpond/millpondlaw24.BlockNone", spec := "blockNone", inPlace := ["internal/abi.NoEscape", "internal/bytealg.MakeNoZero"], unfollowed := true, recurses := true, named := ["math/bits.deBruijn32tab", "math/bits.deBruijn64tab"], apart := false, laid := [("math/bits.deBruijn32tab", laid_math_bits_deBruijn32tab), ("math/bits.deBruijn64tab", laid_math_bits_deBruijn64tab)], narrowed := true }
def BlockNoneUptoSaid : Prop := blockNoneUptoRow.holds Tryz.pinned (OpenSpec.upto blockNoneSpec)

/-- 'millpondlaw23.RefsNone', WHERE WHAT IT READS IS OF BULK AT MOST 1048576: true; the input reads as it did. -/
def refsNoneUptoRow : OpenClaim := { program := "ytleknndhobpjcaagreatdoor", sum := "4e962f8d9f27a868e976e2925e5c350a452b53b97f2fe395ec7a674390d01b39", func := "millpond/millpondlaw23.RefsNone", spec := "refsNone", inPlace := ["internal/abi.NoEscape", "internal/bytealg.MakeNoZero", "slices.overlaps[millpond/refs.Link]"], unfollowed := true, recurses := true, named := ["math/bits.deBruijn32tab", "math/bits.deBruijn64tab"], apart := false, laid := [("math/bits.deBruijn32tab", laid_math_bits_deBruijn32tab), ("math/bits.deBruijn64tab", laid_math_bits_deBruijn64tab)], narrowed := true }
def RefsNoneUptoSaid : Prop := refsNoneUptoRow.holds Tryz.pinned (OpenSpec.upto refsNoneSpec)

/-- 'millpondlaw19.TreeWrong', WHERE WHAT IT READS IS OF BULK AT MOST 1048576: true; the input reads as it did. -/
def treeWrongUptoRow : OpenClaim := { program := "ytleknndhobpjcaagreatdoor", sum := "4e962f8d9f27a868e976e2925e5c350a452b53b97f2fe395ec7a674390d01b39", func := "millpond/millpondlaw19.TreeWrong", spec := "treeWrong", inPlace := ["internal/abi.NoEscape", "internal/bytealg.MakeNoZero"], unfollowed := true, recurses := true, named := ["math/bits.deBruijn32tab", "math/bits.deBruijn64tab"], apart := false, laid := [("math/bits.deBruijn32tab", laid_math_bits_deBruijn32tab), ("math/bits.deBruijn64tab", laid_math_bits_deBruijn64tab)], narrowed := true }
def TreeWrongUptoSaid : Prop := treeWrongUptoRow.holds Tryz.pinned (OpenSpec.upto treeWrongSpec)

/-- 'millpondlaw20.ChargeWrong', WHERE WHAT IT READS IS OF BULK AT MOST 1048576: true; the input reads as it did. -/
def chargeWrongUptoRow : OpenClaim := { program := "ytleknndhobpjcaagreatdoor", sum := "4e962f8d9f27a868e976e2925e5c350a452b53b97f2fe395ec7a674390d01b39", func := "millpond/millpondlaw20.ChargeWrong", spec := "chargeWrong", inPlace := ["internal/abi.NoEscape", "internal/bytealg.MakeNoZero"], unfollowed := true, recurses := true, named := ["math/bits.deBruijn32tab", "math/bits.deBruijn64tab"], apart := false, laid := [("math/bits.deBruijn32tab", laid_math_bits_deBruijn32tab), ("math/bits.deBruijn64tab", laid_math_bits_deBruijn64tab)], narrowed := true }
def ChargeWrongUptoSaid : Prop := chargeWrongUptoRow.holds Tryz.pinned (OpenSpec.upto chargeWrongSpec)

/-- 'millpondlaw23.RefsPlay', WHERE WHAT IT READS IS OF BULK AT MOST 1048576: true; the input reads as it did. -/
def refsPlayUptoRow : OpenClaim := { program := "ytleknndhobpjcaagreatdoor", sum := "4e962f8d9f27a868e976e2925e5c350a452b53b97f2fe395ec7a674390d01b39", func := "millpond/millpondlaw23.RefsPlay", spec := "refsPlay", inPlace := ["internal/abi.NoEscape", "internal/bytealg.MakeNoZero", "slices.overlaps[millpond/refs.Link]"], unfollowed := true, recurses := true, named := ["math/bits.deBruijn32tab", "math/bits.deBruijn64tab"], apart := false, laid := [("math/bits.deBruijn32tab", laid_math_bits_deBruijn32tab), ("math/bits.deBruijn64tab", laid_math_bits_deBruijn64tab)], narrowed := true }
def RefsPlayUptoSaid : Prop := refsPlayUptoRow.holds Tryz.pinned (OpenSpec.upto refsPlaySpec)

/-- 'millpondlaw19.TreeOnce', WHERE WHAT IT READS IS OF BULK AT MOST 1048576: true; the input reads as it did. -/
def treeOnceUptoRow : OpenClaim := { program := "ytleknndhobpjcaagreatdoor", sum := "4e962f8d9f27a868e976e2925e5c350a452b53b97f2fe395ec7a674390d01b39", func := "millpond/millpondlaw19.TreeOnce", spec := "treeOnce", inPlace := ["internal/abi.NoEscape", "internal/bytealg.MakeNoZero"], unfollowed := true, recurses := true, named := ["math/bits.deBruijn32tab", "math/bits.deBruijn64tab"], apart := false, laid := [("math/bits.deBruijn32tab", laid_math_bits_deBruijn32tab), ("math/bits.deBruijn64tab", laid_math_bits_deBruijn64tab)], narrowed := true }
def TreeOnceUptoSaid : Prop := treeOnceUptoRow.holds Tryz.pinned (OpenSpec.upto treeOnceSpec)

/-- 'millpondlaw19.TreePlays', WHERE WHAT IT READS IS OF BULK AT MOST 1048576: true; the input reads as it did. -/
def treePlaysUptoRow : OpenClaim := { program := "ytleknndhobpjcaagreatdoor", sum := "4e962f8d9f27a868e976e2925e5c350a452b53b97f2fe395ec7a674390d01b39", func := "millpond/millpondlaw19.TreePlays", spec := "treePlays", inPlace := ["internal/abi.NoEscape", "internal/bytealg.MakeNoZero"], unfollowed := true, recurses := true, named := ["math/bits.deBruijn32tab", "math/bits.deBruijn64tab"], apart := false, laid := [("math/bits.deBruijn32tab", laid_math_bits_deBruijn32tab), ("math/bits.deBruijn64tab", laid_math_bits_deBruijn64tab)], narrowed := true }
def TreePlaysUptoSaid : Prop := treePlaysUptoRow.holds Tryz.pinned (OpenSpec.upto treePlaysSpec)

/-- 'millpondlaw20.ChargeMoves', WHERE WHAT IT READS IS OF BULK AT MOST 1048576: true; the input reads as it did. -/
def chargeMovesUptoRow : OpenClaim := { program := "ytleknndhobpjcaagreatdoor", sum := "4e962f8d9f27a868e976e2925e5c350a452b53b97f2fe395ec7a674390d01b39", func := "millpond/millpondlaw20.ChargeMoves", spec := "chargeMoves", inPlace := ["internal/abi.NoEscape", "internal/bytealg.MakeNoZero"], unfollowed := true, recurses := true, named := ["math/bits.deBruijn32tab", "math/bits.deBruijn64tab"], apart := false, laid := [("math/bits.deBruijn32tab", laid_math_bits_deBruijn32tab), ("math/bits.deBruijn64tab", laid_math_bits_deBruijn64tab)], narrowed := true }
def ChargeMovesUptoSaid : Prop := chargeMovesUptoRow.holds Tryz.pinned (OpenSpec.upto chargeMovesSpec)

/-- 'millpondlaw23.RefsTie', WHERE WHAT IT READS IS OF BULK AT MOST 1048576: true; the input reads as it did. -/
def refsTieUptoRow : OpenClaim := { program := "ytleknndhobpjcaagreatdoor", sum := "4e962f8d9f27a868e976e2925e5c350a452b53b97f2fe395ec7a674390d01b39", func := "millpond/millpondlaw23.RefsTie", spec := "refsTie", inPlace := ["internal/abi.NoEscape", "internal/bytealg.MakeNoZero", "slices.overlaps[millpond/refs.Link]"], unfollowed := true, recurses := true, named := ["math/bits.deBruijn32tab", "math/bits.deBruijn64tab"], apart := false, laid := [("math/bits.deBruijn32tab", laid_math_bits_deBruijn32tab), ("math/bits.deBruijn64tab", laid_math_bits_deBruijn64tab)], narrowed := true }
def RefsTieUptoSaid : Prop := refsTieUptoRow.holds Tryz.pinned (OpenSpec.upto refsTieSpec)

/-- 'millpondlaw23.RefsBoth', WHERE WHAT IT READS IS OF BULK AT MOST 1048576: true; the input reads as it did. -/
def refsBothUptoRow : OpenClaim := { program := "ytleknndhobpjcaagreatdoor", sum := "4e962f8d9f27a868e976e2925e5c350a452b53b97f2fe395ec7a674390d01b39", func := "millpond/millpondlaw23.RefsBoth", spec := "refsBoth", inPlace := ["internal/abi.NoEscape", "internal/bytealg.MakeNoZero", "slices.overlaps[millpond/refs.Link]"], unfollowed := true, recurses := true, named := ["math/bits.deBruijn32tab", "math/bits.deBruijn64tab"], apart := false, laid := [("math/bits.deBruijn32tab", laid_math_bits_deBruijn32tab), ("math/bits.deBruijn64tab", laid_math_bits_deBruijn64tab)], narrowed := true }
def RefsBothUptoSaid : Prop := refsBothUptoRow.holds Tryz.pinned (OpenSpec.upto refsBothSpec)

end Rows
end Go.Proofs.YtleknndhobpjcaaGreatDoor
