/- From here on the arena is one object. -/
import Derived.Test.YtleknndhobpjcaaGreatDoorAw7
import Derived.Test.YtleknndhobpjcaaGreatDoorKArC
import Derived.Test.YtleknndhobpjcaaGreatDoorAiMach
namespace Go.AI
open Go.Proofs
variable {W0 : World} {Cls : Nat → Int → Prop}
def h15a : List (HookF Ar) := hAr ++ h15
theorem h15a_ok (hT : Tabs W0) : ∀ x ∈ h15a, HookOk (Ext1 Cls) PZ W0 x.1 x.2 := by
  intro x hx
  rcases List.mem_append.1 hx with h | h
  · exact hAr_ok x h
  · exact h15_ok (E := (Ext1 Cls)) hT x h
def h16a : List (HookF Ar) := (29, constH (.bool true)) :: h15a
def h18a : List (HookF Ar) := (223, constH (.bool true)) :: h16a
def h19a : List (HookF Ar) := (59, constH (.bool true)) :: h18a
def h20a : List (HookF Ar) := (72, constH (.bool true)) :: h19a
def h24a : List (HookF Ar) := (42, constH (.bool true)) :: h18a
def h23a : List (HookF Ar) := (50, constH (.bool true)) :: h19a
/-- The next chapter's example. -/
theorem next_ok {l : List (HookF Ar)} (h : ∀ x ∈ l, HookOk (Ext1 Cls) PZ W0 x.1 x.2) {n k : Nat} (hv : ∃ h', run F1 cleanT (hookL l) n k [] (⟨[], 0⟩ : Hp Ar) = some (.bool true, h')) : ∀ x ∈ (k, constH (.bool true)) :: l, HookOk (Ext1 Cls) PZ W0 x.1 x.2 :=
  more_ok (E := (Ext1 Cls)) h (true_ok (run_sound (esc := escT) mixedZ (hookL_ok h) n) hv)
end Go.AI
