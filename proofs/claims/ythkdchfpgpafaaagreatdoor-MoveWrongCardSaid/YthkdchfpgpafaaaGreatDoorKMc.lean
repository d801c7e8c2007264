/- The chapters' examples, one behind the other. -/
import Derived.Test.YthkdchfpgpafaaaGreatDoorKM
import Derived.Test.YthkdchfpgpafaaaGreatDoorM19
import Derived.Test.YthkdchfpgpafaaaGreatDoorM20
import Derived.Test.YthkdchfpgpafaaaGreatDoorM24
import Derived.Test.YthkdchfpgpafaaaGreatDoorM23
import Derived.Test.YthkdchfpgpafaaaGreatDoorM26
import Derived.Test.YthkdchfpgpafaaaGreatDoorM27
import Derived.Test.YthkdchfpgpafaaaGreatDoorM28
namespace Go.AI
open Go.Proofs
variable {W0:World} {Cls:Nat → Int → Prop}
theorem h16a_ok (hT:Tabs W0):∀ x ∈ h16a,HookOk (Ext1 Cls) PZ W0 x.1 x.2:=next_ok (h15a_ok hT) r16
theorem h18a_ok (hT:Tabs W0):∀ x ∈ h18a,HookOk (Ext1 Cls) PZ W0 x.1 x.2:=next_ok (h16a_ok hT) r18
theorem h19a_ok (hT:Tabs W0):∀ x ∈ h19a,HookOk (Ext1 Cls) PZ W0 x.1 x.2:=next_ok (h18a_ok hT) r19
theorem h20a_ok (hT:Tabs W0):∀ x ∈ h20a,HookOk (Ext1 Cls) PZ W0 x.1 x.2:=next_ok (h19a_ok hT) r20
theorem h24a_ok (hT:Tabs W0):∀ x ∈ h24a,HookOk (Ext1 Cls) PZ W0 x.1 x.2:=next_ok (h20a_ok hT) r24
theorem h23a_ok (hT:Tabs W0):∀ x ∈ h23a,HookOk (Ext1 Cls) PZ W0 x.1 x.2:=next_ok (h24a_ok hT) r23
theorem h17a_ok (hT:Tabs W0):∀ x ∈ h17a,HookOk (Ext1 Cls) PZ W0 x.1 x.2:=next_ok (h23a_ok hT) r17
theorem h25a_ok (hT:Tabs W0):∀ x ∈ h25a,HookOk (Ext1 Cls) PZ W0 x.1 x.2:=next_ok (h17a_ok hT) r25
end Go.AI
/- The chapters' examples, one behind the other, on. -/
namespace Go.AI
open Go.Proofs
variable {W0:World} {Cls:Nat → Int → Prop}
theorem h26a_ok (hT:Tabs W0):∀ x ∈ h26a,HookOk (Ext1 Cls) PZ W0 x.1 x.2:=next_ok (h25a_ok hT) r26
end Go.AI
/- The chapters' examples, one behind the other, on. -/
namespace Go.AI
open Go.Proofs
variable {W0:World} {Cls:Nat → Int → Prop}
theorem h21a_ok (hT:Tabs W0):∀ x ∈ h21a,HookOk (Ext1 Cls) PZ W0 x.1 x.2:=next_ok (h26a_ok hT) r21
theorem h27a_ok (hT:Tabs W0):∀ x ∈ h27a,HookOk (Ext1 Cls) PZ W0 x.1 x.2:=next_ok (h21a_ok hT) r27
end Go.AI
/- The chapters' examples, one behind the other, to the last but one. -/
namespace Go.AI
open Go.Proofs
variable {W0:World} {Cls:Nat → Int → Prop}
theorem h28a_ok (hT:Tabs W0):∀ x ∈ h28a,HookOk (Ext1 Cls) PZ W0 x.1 x.2:=next_ok (h27a_ok hT) r28
end Go.AI
