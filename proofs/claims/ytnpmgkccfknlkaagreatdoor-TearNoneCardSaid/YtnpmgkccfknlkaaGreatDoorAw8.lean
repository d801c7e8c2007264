/- From here on the arena is one object, and a view's functions are told. -/
import Derived.Test.YtnpmgkccfknlkaaGreatDoorAw7
import Derived.Test.YtnpmgkccfknlkaaGreatDoorKV
namespace Go.AI
open Go.Proofs
variable {W0 : World} {Cls : Nat → Int → Prop}
noncomputable def ru (n : Nat) (v : UInt8) (r : List UInt8) : List UInt8 := Nat.rec r (fun _ ih => v :: ih) n
noncomputable def au (l r : List UInt8) : List UInt8 := List.rec r (fun x _ ih => x :: ih) l
def h15a : List (HookF Ar) := hV4 ++ h15
theorem h15a_ok (hT : Tabs W0) : ∀ x ∈ h15a, HookOk (Ext1 Cls) PZ W0 x.1 x.2 := by
  intro x hx
  rcases List.mem_append.1 hx with h | h
  · exact hV4_ok x h
  · exact h15_ok (E := (Ext1 Cls)) hT x h
def h16a : List (HookF Ar) := (344, constH (.bool true)) :: h15a
def h18a : List (HookF Ar) := (323, constH (.bool true)) :: h16a
def h19a : List (HookF Ar) := (317, constH (.bool true)) :: h18a
def h20a : List (HookF Ar) := (288, constH (.bool true)) :: h19a
def h24a : List (HookF Ar) := (290, constH (.bool true)) :: h20a
def h23a : List (HookF Ar) := (289, constH (.bool true)) :: h24a
def h17a : List (HookF Ar) := (287, constH (.bool true)) :: h23a
def h25a : List (HookF Ar) := (193, constH (.bool true)) :: h17a
def h26a : List (HookF Ar) := (62, constH (.bool true)) :: h25a
def h21a : List (HookF Ar) := (61, constH (.bool true)) :: h26a
def h27a : List (HookF Ar) := (8, constH (.bool true)) :: h21a
/-- The next chapter's example. -/
theorem next_ok {l : List (HookF Ar)} (h : ∀ x ∈ l, HookOk (Ext1 Cls) PZ W0 x.1 x.2) {n k : Nat} (hv : ∃ h', run F1 cleanT (hookL l) n k [] (⟨[], 0⟩ : Hp Ar) = some (.bool true, h')) : ∀ x ∈ (k, constH (.bool true)) :: l, HookOk (Ext1 Cls) PZ W0 x.1 x.2 :=
  more_ok (E := (Ext1 Cls)) h (true_ok (run_sound (esc := escT) mixedZ (hookL_ok h) n) hv)
end Go.AI
