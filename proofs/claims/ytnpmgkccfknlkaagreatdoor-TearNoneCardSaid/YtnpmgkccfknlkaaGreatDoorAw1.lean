/- The lower chapters' examples, reckoned by the kernel. -/
import Derived.Test.YtnpmgkccfknlkaaGreatDoorKHk
import Derived.Test.YtnpmgkccfknlkaaGreatDoorRows02b
import Derived.Test.YtnpmgkccfknlkaaGreatDoorTables
namespace Go.AI
open Go.Proofs
variable {E : Ext} {W0 : World}

def escT (f s : Nat) : Bool := !(Nat.beq (Nat.land (Nat.shiftRight (stayL.getD f 0) s) 1) 1)
def cleanT (f : Nat) : Bool := Nat.beq (Nat.land (Nat.shiftRight cleanM f) 1) 1
noncomputable def F1 : Nat → Option IFn := mkFn PZ escT

theorem noEscE : Entry PZ 291 Extern.AbiNoEscape.same := ⟨_, Tryz.func291, rfl, by kernel_rfl, by kernel_rfl, _, rfl, fun _ => rfl⟩
theorem makeNZE : Entry PZ 296 (Extern.BytealgMakeNoZero.makeNoZero Tryz.f296.params Tryz.f296.resultTypes) := ⟨_, Tryz.func296, rfl, by kernel_rfl, by kernel_rfl, _, rfl, fun _ => rfl⟩

abbrev HookF (X : Type) := Nat × (List Value → Hp X → Option (Value × Hp X))
def hB {X : Type} : List (HookF X) := [(291, noEscapeH), (296, makeNoZeroH 5), (228, tz64H), (227, tz32H)]
theorem hB_ok (hT : Tabs W0) : ∀ x ∈ hB (X := E.X), HookOk E PZ W0 x.1 x.2 := by
  intro x hx
  simp only [hB, List.mem_cons, List.not_mem_nil, or_false] at hx
  rcases hx with rfl | rfl | rfl | rfl
  · exact noEscape_ok noEscE
  · exact makeNoZero_ok makeNZE (s := 162) (by kernel_rfl) Tryz.underlying162
  · exact tz64_ok Tryz.lays29 rfl tz64B hT.t64 hT.l64
  · exact tz32_ok Tryz.lays28 rfl tz32B hT.t32 hT.l32

theorem more_ok {l : List (HookF E.X)} (h : ∀ x ∈ l, HookOk E PZ W0 x.1 x.2) {k : Nat} {g : List Value → Hp E.X → Option (Value × Hp E.X)} (hg : HookOk E PZ W0 k g) : ∀ x ∈ (k, g) :: l, HookOk E PZ W0 x.1 x.2 := by
  intro x hx
  rcases List.mem_cons.1 hx with rfl | hx
  · exact hg
  · exact h x hx

/-- The next chapter's example. -/
theorem awake_ok {l : List (HookF E.X)} (h : ∀ x ∈ l, HookOk E PZ W0 x.1 x.2) {F : Nat → Option IFn} {esc : Nat → Nat → Bool} (hF : F = mkFn PZ esc) {clean : Nat → Bool} {n k : Nat}
    (hv : runK F clean (hookL l) n k [] ⟨[], 0⟩ (fun v _ => some (v, (⟨[], 0⟩ : Hp E.X))) = some (.bool true, (⟨[], 0⟩ : Hp E.X))) : ∀ x ∈ (k, constH (.bool true)) :: l, HookOk E PZ W0 x.1 x.2 := by
  subst hF
  exact more_ok h (true_ok (run_sound mixedZ (hookL_ok h) n) (run_of_value hv))

def h02a {X : Type} : List (HookF X) := (348, rowsH) :: hB
theorem h02a_ok (hT : Tabs W0) : ∀ x ∈ h02a (X := E.X), HookOk E PZ W0 x.1 x.2 := more_ok (hB_ok hT) (rows_ok hT)
theorem e02 {X : Type} : runK F0 (fun _ => false) (hookL h02a) 100 324 [] ⟨[], 0⟩ (fun v _ => some (v, (⟨[], 0⟩ : Hp X))) = some (.bool true, (⟨[], 0⟩ : Hp X)) := by kernel_rfl
def h02 {X : Type} : List (HookF X) := (324, constH (.bool true)) :: hB
theorem h02_ok (hT : Tabs W0) : ∀ x ∈ h02 (X := E.X), HookOk E PZ W0 x.1 x.2 :=
  more_ok (hB_ok hT) (true_ok (run_sound (esc := escAll) mixedZ (hookL_ok (h02a_ok hT)) 100) (run_of_value e02))
end Go.AI
