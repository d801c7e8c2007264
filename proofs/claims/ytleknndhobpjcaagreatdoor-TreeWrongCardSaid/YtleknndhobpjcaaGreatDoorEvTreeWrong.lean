/- TreeWrong: whatever the number. -/
import Derived.Test.YtleknndhobpjcaaGreatDoorKCk
import Derived.Test.YtleknndhobpjcaaGreatDoorM19
import Derived.Test.YtleknndhobpjcaaGreatDoorKTWa
import Derived.Test.YtleknndhobpjcaaGreatDoorKTWb
namespace Go.AI
open Go.Proofs
theorem hTW_ok {W0 : World} (hT : Tabs W0) : ∀ x ∈ hTW, HookOk (Ext1 (ClsP XT LT)) PZ W0 x.1 x.2 :=
  more_ok (E := (Ext1 (ClsP XT LT))) (more_ok (E := (Ext1 (ClsP XT LT))) (h19a_ok hT) (contains_ok (h19a_ok hT))) (read_ok (h19a_ok hT))
theorem keyTreeWrong {Cls : Nat → Int → Prop} {W : World} {hk : List (HookF Ar)} (hok : ∀ x ∈ hk, HookOk (Ext1 Cls) PZ W x.1 x.2) {vs vs' : List Value} {h : Hp Ar} {ρ : Ren} {φ : Foot} (hG : Good (E := Ext1 Cls) W ρ φ (fun i => look i h.tbl) h.next W)
    (hv : All2 (VR ρ) vs vs') (hr : ∃ h', run F1 cleanT (hookL hk) 1000 7 vs h = some (.bool true, h')) : Calls PZ 7 ⟨vs'⟩ W fun e W' => e = .returned (.bool true) ∧ Same W W' := by
  obtain ⟨h', hr⟩ := hr
  have hC := run_sound (E := Ext1 Cls) (esc := escT) (clean := cleanT) mixedZ (hookL_ok hok) 1000
  refine calls_mono (calls_run hC ⟨_, _, Tryz.func7, rfl, by kernel_rfl⟩ hr hG hv) ?_
  rintro e W' ⟨v', ρ', rfl, h1, h2⟩
  exact ⟨by rw [h1.bool_inv], h2⟩
theorem rTreeWrong0 {W : World} (hT : Tabs W) (z : Int) : Calls PZ 7 ⟨[.int .i64 z]⟩ W fun e W' => e = .returned (.bool true) ∧ Same W W' := by
  by_cases hin : ∃ q, q < 5 ∧ z = Int.ofNat (q * 4096)
  · obtain ⟨q, hq, rfl⟩ := hin
    match q, hq with
    | 0, _ => exact keyTreeWrong (Cls := fun _ _ => False) (h19a_ok hT) (good_start W) (.cons (.of_flat (.int _ _)) .nil) rTW0
    | 1, _ => exact keyTreeWrong (Cls := fun _ _ => False) (h19a_ok hT) (good_start W) (.cons (.of_flat (.int _ _)) .nil) rTW4096
    | 2, _ => exact keyTreeWrong (Cls := fun _ _ => False) (h19a_ok hT) (good_start W) (.cons (.of_flat (.int _ _)) .nil) rTW8192
    | 3, _ => exact keyTreeWrong (Cls := fun _ _ => False) (h19a_ok hT) (good_start W) (.cons (.of_flat (.int _ _)) .nil) rTW12288
    | 4, _ => exact keyTreeWrong (Cls := fun _ _ => False) (h19a_ok hT) (good_start W) (.cons (.of_flat (.int _ _)) .nil) rTW16384
    | q + 5, hq => exact absurd hq (by omega)
  · have hL : ∀ n ∈ LT, z ≠ n := by
      intro n hn e
      rcases List.mem_cons.1 hn with h1 | hn
      · rw [h1] at e; exact hin ⟨2, by decide, e⟩
      rcases List.mem_cons.1 hn with h1 | hn
      · rw [h1] at e; exact hin ⟨3, by decide, e⟩
      rcases List.mem_cons.1 hn with h1 | hn
      · rw [h1] at e; exact hin ⟨4, by decide, e⟩
      cases hn
    rcases XT_or z with h | h | h
    · exact absurd h hin
    · exact keyTreeWrong (hTW_ok hT) (good1 (z := z) (c := kA) W (by decide) (.inr ⟨hL, .inl ⟨rfl, h⟩⟩)) (.cons (tokv rfl) .nil) rTWA
    · exact keyTreeWrong (hTW_ok hT) (good1 (z := z) (c := kB) W (by decide) (.inr ⟨hL, .inr ⟨rfl, h⟩⟩)) (.cons (tokv rfl) .nil) rTWB
theorem rTreeWrong {W : World} (hT : Tabs W) (z : Int) : Calls Tryz.prog 7 #[.int .i64 z] W fun e W' => e = .returned (.bool true) ∧ Same W W' := by
  have h := rTreeWrong0 hT z
  rw [show (⟨[.int .i64 z]⟩ : Array Value) = #[.int .i64 z] from rfl] at h
  exact h
end Go.AI
