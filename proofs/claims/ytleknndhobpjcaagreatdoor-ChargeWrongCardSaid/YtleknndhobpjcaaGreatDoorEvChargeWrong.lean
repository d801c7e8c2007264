/- ChargeWrong: whatever the number. -/
import Derived.Test.YtleknndhobpjcaaGreatDoorKCk
import Derived.Test.YtleknndhobpjcaaGreatDoorM20
import Derived.Test.YtleknndhobpjcaaGreatDoorKCW
namespace Go.AI
open Go.Proofs
theorem hCW_ok {W0 : World} (hT : Tabs W0) : ∀ x ∈ hCW, HookOk (Ext1 (ClsP XC LC)) PZ W0 x.1 x.2 :=
  more_ok (E := (Ext1 (ClsP XC LC))) (more_ok (E := (Ext1 (ClsP XC LC))) (h20a_ok hT) (contains_ok (h20a_ok hT))) (read_ok (h20a_ok hT))
theorem keyChargeWrong {Cls : Nat → Int → Prop} {W : World} {hk : List (HookF Ar)} (hok : ∀ x ∈ hk, HookOk (Ext1 Cls) PZ W x.1 x.2) {vs vs' : List Value} {h : Hp Ar} {ρ : Ren} {φ : Foot} (hG : Good (E := Ext1 Cls) W ρ φ (fun i => look i h.tbl) h.next W)
    (hv : All2 (VR ρ) vs vs') (hr : ∃ h', run F1 cleanT (hookL hk) 1000 8 vs h = some (.bool true, h')) : Calls PZ 8 ⟨vs'⟩ W fun e W' => e = .returned (.bool true) ∧ Same W W' := by
  obtain ⟨h', hr⟩ := hr
  have hC := run_sound (E := Ext1 Cls) (esc := escT) (clean := cleanT) mixedZ (hookL_ok hok) 1000
  refine calls_mono (calls_run hC ⟨_, _, Tryz.func8, rfl, by kernel_rfl⟩ hr hG hv) ?_
  rintro e W' ⟨v', ρ', rfl, h1, h2⟩
  exact ⟨by rw [h1.bool_inv], h2⟩
theorem rChargeWrong0 {W : World} (hT : Tabs W) (z y : Int) : Calls PZ 8 ⟨[.int .i64 z, .int .i64 y]⟩ W fun e W' => e = .returned (.bool true) ∧ Same W W' := by
  by_cases hin : ∃ q, q < 4 ∧ z = Int.ofNat (q * 4096)
  · obtain ⟨q, hq, rfl⟩ := hin
    match q, hq with
    | 0, _ => exact keyChargeWrong (hCW_ok hT) (good1 (Cls := ClsP XC LC) (z := y) (c := kC) W (by decide) (.inl rfl)) (.cons (.of_flat (.int _ _)) (.cons (tokv rfl) .nil)) rCW0
    | 1, _ => exact keyChargeWrong (hCW_ok hT) (good1 (Cls := ClsP XC LC) (z := y) (c := kC) W (by decide) (.inl rfl)) (.cons (.of_flat (.int _ _)) (.cons (tokv rfl) .nil)) rCW4096
    | 2, _ => exact keyChargeWrong (hCW_ok hT) (good1 (Cls := ClsP XC LC) (z := y) (c := kC) W (by decide) (.inl rfl)) (.cons (.of_flat (.int _ _)) (.cons (tokv rfl) .nil)) rCW8192
    | 3, _ => exact keyChargeWrong (hCW_ok hT) (good1 (Cls := ClsP XC LC) (z := y) (c := kC) W (by decide) (.inl rfl)) (.cons (.of_flat (.int _ _)) (.cons (tokv rfl) .nil)) rCW12288
    | q + 4, hq => exact absurd hq (by omega)
  · have hL : ∀ n ∈ LC, z ≠ n := by
      intro n hn e
      rcases List.mem_cons.1 hn with h1 | hn
      · rw [h1] at e; exact hin ⟨2, by decide, e⟩
      rcases List.mem_cons.1 hn with h1 | hn
      · rw [h1] at e; exact hin ⟨3, by decide, e⟩
      cases hn
    rcases XC_or z with h | h | h
    · exact absurd h hin
    · exact keyChargeWrong (hCW_ok hT) (good2 (z := z) (y := y) (c := kA) (d := kC) W (by decide) (by decide) (.inr ⟨hL, .inl ⟨rfl, h⟩⟩) (.inl rfl)) (.cons (tokv rfl) (.cons (tokv rfl) .nil)) rCWA
    · exact keyChargeWrong (hCW_ok hT) (good2 (z := z) (y := y) (c := kB) (d := kC) W (by decide) (by decide) (.inr ⟨hL, .inr ⟨rfl, h⟩⟩) (.inl rfl)) (.cons (tokv rfl) (.cons (tokv rfl) .nil)) rCWB
theorem rChargeWrong {W : World} (hT : Tabs W) (z y : Int) : Calls Tryz.prog 8 #[.int .i64 z, .int .i64 y] W fun e W' => e = .returned (.bool true) ∧ Same W W' := by
  have h := rChargeWrong0 hT z y
  rw [show (⟨[.int .i64 z, .int .i64 y]⟩ : Array Value) = #[.int .i64 z, .int .i64 y] from rfl] at h
  exact h
end Go.AI
