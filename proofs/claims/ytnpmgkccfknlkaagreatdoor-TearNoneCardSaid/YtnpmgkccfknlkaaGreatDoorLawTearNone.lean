/- millpondlaw27.TearNone returns true, whatever the world, where the tables of math/bits are as the program's text lays them. Conditions: none but what the card itself names. -/
import Derived.Test.YtnpmgkccfknlkaaGreatDoorStart
import Derived.Test.YtnpmgkccfknlkaaGreatDoorKMc
import Derived.Test.YtnpmgkccfknlkaaGreatDoorLFTearNone
namespace Go.Proofs.YtnpmgkccfknlkaaGreatDoor.tearNone
open Go.ChangeShapes Go.WideShapes Go.ChangeAt Go.RowKit

theorem run_true {W : World} (hT : AI.Tabs W) : Calls Tryz.prog 3 #[] W fun e W' => e = .returned (.bool true) ∧ AI.Same W W' := by
  obtain ⟨h', hv⟩ := AI.rTearNone
  have hC := AI.run_sound (E := AI.Ext1 fun _ _ => False) (esc := AI.escT) (clean := AI.cleanT) AI.mixedZ (AI.hookL_ok (AI.h27a_ok hT)) 1000
  refine AI.calls_mono (AI.calls_run hC ⟨_, _, Tryz.func3, rfl, by kernel_rfl⟩ hv (AI.good_start W) .nil) ?_
  rintro e W' ⟨v', ρ', rfl, h1, h2⟩
  exact ⟨by rw [h1.bool_inv], h2⟩

theorem contract (H : Type) (enc : TypeId × Value → H) (W : World) (args : Array Value) (ds gs : List (DataW H)) (before : List MemPlace)
    (hW : DataW.Whole enc Tryz.prog Tryz.f3.params.toList Rows.tearNoneSpec.vars false W args.toList ds gs before) (hL : laidMetH Tryz.prog Rows.tearNoneRow.laid W) :
    Calls Tryz.prog 3 args W fun e W' => ∃ v, e = .returned v ∧ Rows.tearNoneSpec.post enc Tryz.prog Tryz.f3 false true false false W args v W' := by
  have hW' := hW
  obtain ⟨p, q, hA0, hV, rfl, hfz, hnd⟩ := hW
  have hA : DataW.TrodAll enc Tryz.prog W 0 (fun _ => true) true Tryz.f3.params.toList args.toList ds p := hA0
  rw [Tryz.params3] at hA
  obtain ⟨hargs, rfl, rfl⟩ := trodAll_nil hA
  obtain rfl : args = #[] := by cases args; simp_all
  obtain ⟨rfl, rfl⟩ := trodVars_none hV
  clear hA0
  refine AI.calls_mono (run_true (tabs_of hL)) fun e W' ⟨he, hs⟩ => ?_
  subst he
  exact ⟨_, rfl, post_same (pa := []) (pv := []) hW' (fun _ _ _ => trodAll_cons_mk (shut_bool Tryz.underlying4 _) trodAll_mk0) (fun _ _ => trodAll_mk0) (fun _ _ => rfl) hs⟩

theorem laid_met (os : Os) : laidMet Tryz.prog Rows.tearNoneRow.laid ((laidWorld os).forCall (fun _ _ => 0) ⟨#[], #[], []⟩).memory :=
  laidMet_of_run' 8 (by kernel_rfl) (by kernel_rfl)
theorem reads (os : Os) {H : Type} (enc : TypeId × Value → H) : ∃ places, DataW.whole enc Tryz.prog ((laidWorld os).forCall (fun _ _ => 0) ⟨#[], #[], []⟩).memory Tryz.f3.params.toList Rows.tearNoneSpec.vars false (#[] : Array Value).toList 8 = some ([], [], places) :=
  ⟨[], by kernel_rfl⟩

set_option maxRecDepth 100000 in
theorem lifted (os : Os) (started : os.Started) (H : Type) (enc : TypeId × Value → H) (F : Stop.Interp) :
    ReturnsInHanded {} Tryz.checked os 3 .any ((OpenSpec.ofChange Rows.tearNoneSpec).preRow enc Tryz.prog Tryz.f3 Rows.tearNoneRow.domain false Rows.tearNoneRow.laid) (((OpenSpec.ofChange Rows.tearNoneSpec).at F).post enc Tryz.prog Tryz.f3 false true false false) := by
  obtain ⟨places, hx⟩ := reads os enc
  refine returnsInHanded_of_row (C := Tryz.checked) (s := OpenSpec.ofChange Rows.tearNoneSpec) own started (by kernel_rfl) Tryz.func3
    (witness_row_at (enc := enc) (C := Tryz.checked) false (laidWorld os) #[] rfl (by kernel_rfl) (by kernel_rfl) (by kernel_rfl)
      (OpenSpec.preRow_of_cond 8 hx (by kernel_rfl) (fun k hk => by cases hk) (by kernel_rfl) (laid_met os))) ?_
  intro W base args ds gs before hval hW _ _ _ hL _ _
  exact contract H enc W args ds gs before hW hL

theorem closed : joinedFacts Tryz.prog 3 Tryz.f3 (OpenSpec.ofChange Rows.tearNoneSpec).bare Rows.tearNoneRow = true := by
  unfold joinedFacts
  rw [fact_laid, fact_maps, fact_stops, fact_knobs, in_place, unfollowed, recurses, named]
  kernel_rfl

theorem said : Rows.TearNoneSaid :=
  OpenClaim.holds_of_cond 3 Tryz.f3 rfl rfl rfl rfl rfl rfl rfl ⟨rfl, rfl, rfl, rfl, rfl⟩ rfl rfl rfl rfl rfl (by kernel_rfl) Tryz.func3 closed
    (of_decide_eq_true (by kernel_rfl)) (by unfold Func.isWrapper; first | (rw [if_pos (by decide +kernel)]; kernel_rfl) | (rw [if_neg (by decide +kernel)]; exact ⟨rfl, rfl⟩))
    (fun os started H enc _ F => by rw [OpenClaim.pre_eq_preRow]; exact lifted os started H enc F)

theorem plain (f : FuncId) (fn : Func) (hf : Tryz.pinned.checked.prog.funcNamed "millpond/millpondlaw27.TearNone" = some f) (hfn : Tryz.pinned.checked.prog.funcs[f]? = some fn) :
    false = Tryz.pinned.checked.prog.looks [] ∧ ∀ (j : Nat) t, fn.params[j]? = some t → Tryz.pinned.checked.prog.wantsStandIn t = false := by
  obtain rfl : f = 3 := Option.some.inj ((show Tryz.prog.funcNamed "millpond/millpondlaw27.TearNone" = some 3 by kernel_rfl).symm.trans hf) |>.symm
  obtain rfl : fn = Tryz.f3 := (Option.some.inj (Tryz.func3.symm.trans hfn)).symm
  refine ⟨by kernel_rfl, fun j t ht => ?_⟩
  rw [Tryz.params3] at ht
  simp at ht

/-- The card. -/
theorem card : Rows.TearNoneCardSaid :=
  Claim7.holds_tied_plain_at .later [] _ _ _ _ said (fun _ h => by cases h) (by kernel_rfl) (fun _ h => by cases h) tearNone_row_tie rfl ⟨rfl, rfl⟩ (by kernel_rfl) rfl plain goes.symm
end Go.Proofs.YtnpmgkccfknlkaaGreatDoor.tearNone
theorem Go.Proofs.YtnpmgkccfknlkaaGreatDoor.tearNone_holds : Go.Proofs.YtnpmgkccfknlkaaGreatDoor.Rows.TearNoneCardSaid := Go.Proofs.YtnpmgkccfknlkaaGreatDoor.tearNone.card
#print axioms Go.Proofs.YtnpmgkccfknlkaaGreatDoor.tearNone_holds
