/- millpondlaw20.ChargeWrong returns true, whatever the world, where the tables of math/bits are as the program's text lays them. Conditions: none but what the card itself names. -/
import Derived.Test.YtleknndhobpjcaaGreatDoorStart
import Derived.Test.YtleknndhobpjcaaGreatDoorEvChargeWrong
import Derived.Test.YtleknndhobpjcaaGreatDoorLFChargeWrong
namespace Go.Proofs.YtleknndhobpjcaaGreatDoor.chargeWrong
open Go.ChangeShapes Go.WideShapes Go.ChangeAt Go.RowKit

set_option maxRecDepth 100000 in
theorem contract (H : Type) (enc : TypeId × Value → H) (W : World) (base : Nat) (args : Array Value) (ds gs : List (DataW H)) (before : List MemPlace)
    (hval : ∀ (j : Nat) t v, Tryz.f8.params[j]? = some t → args[j]? = some v → Value.okWide Tryz.prog W .any base t v)
    (hW : DataW.Whole enc Tryz.prog Tryz.f8.params.toList Rows.chargeWrongSpec.vars false W args.toList ds gs before) (hL : laidMetH Tryz.prog Rows.chargeWrongRow.laid W) :
    Calls Tryz.prog 8 args W fun e W' => ∃ v, e = .returned v ∧ Rows.chargeWrongSpec.post enc Tryz.prog Tryz.f8 false true false false W args v W' := by
  have hW' := hW
  obtain ⟨p, q, hA0, hV, rfl, hfz, hnd⟩ := hW
  have hA : DataW.TrodAll enc Tryz.prog W 0 (fun _ => true) true Tryz.f8.params.toList args.toList ds p := hA0
  rw [Tryz.params8] at hA hval
  obtain ⟨v0, vs0, d0, ds0, p0, q0, hargs, rfl, rfl, h0, r0⟩ := trodAll_cons hA
  obtain ⟨v1, vs1, d1, ds1, p1, q1, rfl, rfl, rfl, h1, r1⟩ := trodAll_cons r0
  obtain ⟨rfl, rfl, rfl⟩ := trodAll_nil r1
  obtain rfl : args = #[v0, v1] := by cases args; simp_all
  obtain ⟨rfl, rfl⟩ := trodVars_none hV
  obtain ⟨a0, rfl, rfl, rfl, w0⟩ := open_int Tryz.underlying3 (hval 0 3 v0 rfl rfl) h0
  obtain ⟨a1, rfl, rfl, rfl, w1⟩ := open_int Tryz.underlying3 (hval 1 3 v1 rfl rfl) h1
  clear hA0
  refine AI.calls_mono (AI.rChargeWrong (tabs_of hL) a0 a1) fun e W' ⟨he, hs⟩ => ?_
  subst he
  exact ⟨_, rfl, post_same (pa := []) (pv := []) hW' (fun _ _ _ => trodAll_cons_mk (shut_bool Tryz.underlying4 _) trodAll_mk0) (fun _ _ => trodAll_cons_mk (shut_int Tryz.underlying3 w0) (trodAll_cons_mk (shut_int Tryz.underlying3 w1) trodAll_mk0)) (fun _ _ => rfl) hs⟩

theorem laid_met (os : Os) : laidMet Tryz.prog Rows.chargeWrongRow.laid ((laidWorld os).forCall (fun _ _ => 0) ⟨#[], #[.int .i64 5, .int .i64 5], []⟩).memory :=
  laidMet_of_run' 8 (by kernel_rfl) (by kernel_rfl)
theorem reads (os : Os) {H : Type} (enc : TypeId × Value → H) : ∃ places, DataW.whole enc Tryz.prog ((laidWorld os).forCall (fun _ _ => 0) ⟨#[], #[.int .i64 5, .int .i64 5], []⟩).memory Tryz.f8.params.toList Rows.chargeWrongSpec.vars false (#[.int .i64 5, .int .i64 5] : Array Value).toList 8 = some ([.lit (.int .i64 5), .lit (.int .i64 5)], [], places) :=
  ⟨[], by kernel_rfl⟩

set_option maxRecDepth 100000 in
theorem lifted (os : Os) (started : os.Started) (H : Type) (enc : TypeId × Value → H) (F : Stop.Interp) :
    ReturnsInHanded {} Tryz.checked os 8 .any ((OpenSpec.ofChange Rows.chargeWrongSpec).preRow enc Tryz.prog Tryz.f8 Rows.chargeWrongRow.domain false Rows.chargeWrongRow.laid) (((OpenSpec.ofChange Rows.chargeWrongSpec).at F).post enc Tryz.prog Tryz.f8 false true false false) := by
  obtain ⟨places, hx⟩ := reads os enc
  refine returnsInHanded_of_row (C := Tryz.checked) (s := OpenSpec.ofChange Rows.chargeWrongSpec) own started (by kernel_rfl) Tryz.func8
    (witness_row_at (enc := enc) (C := Tryz.checked) false (laidWorld os) #[.int .i64 5, .int .i64 5] rfl (by kernel_rfl) (by kernel_rfl) (by kernel_rfl)
      (OpenSpec.preRow_of_cond 8 hx (by kernel_rfl) (fun k hk => by cases hk) (by kernel_rfl) (laid_met os))) ?_
  intro W base args ds gs before hval hW _ _ _ hL _ _
  exact contract H enc W base args ds gs before hval hW hL

theorem closed : joinedFacts Tryz.prog 8 Tryz.f8 (OpenSpec.ofChange Rows.chargeWrongSpec).bare Rows.chargeWrongRow = true := by
  unfold joinedFacts
  rw [fact_laid, fact_maps, fact_stops, fact_knobs, in_place, unfollowed, recurses, named]
  kernel_rfl

theorem said : Rows.ChargeWrongSaid :=
  OpenClaim.holds_of_cond 8 Tryz.f8 rfl rfl rfl rfl rfl rfl rfl ⟨rfl, rfl, rfl, rfl, rfl⟩ rfl rfl rfl rfl rfl (by kernel_rfl) Tryz.func8 closed
    (of_decide_eq_true (by kernel_rfl)) (by unfold Func.isWrapper; first | (rw [if_pos (by decide +kernel)]; kernel_rfl) | (rw [if_neg (by decide +kernel)]; exact ⟨rfl, rfl⟩))
    (fun os started H enc _ F => by rw [OpenClaim.pre_eq_preRow]; exact lifted os started H enc F)

theorem plain (f : FuncId) (fn : Func) (hf : Tryz.pinned.checked.prog.funcNamed "millpond/millpondlaw20.ChargeWrong" = some f) (hfn : Tryz.pinned.checked.prog.funcs[f]? = some fn) :
    false = Tryz.pinned.checked.prog.looks [] ∧ ∀ (j : Nat) t, fn.params[j]? = some t → Tryz.pinned.checked.prog.wantsStandIn t = false := by
  obtain rfl : f = 8 := Option.some.inj ((show Tryz.prog.funcNamed "millpond/millpondlaw20.ChargeWrong" = some 8 by kernel_rfl).symm.trans hf) |>.symm
  obtain rfl : fn = Tryz.f8 := (Option.some.inj (Tryz.func8.symm.trans hfn)).symm
  refine ⟨by kernel_rfl, fun j t ht => ?_⟩
  rw [Tryz.params8] at ht
  have ht' : t = 3 := by
    match j, ht with
    | 0, ht => simpa using ht.symm
    | 1, ht => simpa using ht.symm
    | j + 2, ht => simp at ht
  have hw : Tryz.prog.wantsStandIn 3 = false := by kernel_rfl
  rw [ht']; exact hw

/-- The card. -/
theorem card : Rows.ChargeWrongCardSaid :=
  Claim7.holds_tied_plain_at .later [] _ _ _ _ said (fun _ h => by cases h) (by kernel_rfl) (fun _ h => by cases h) chargeWrong_row_tie rfl ⟨rfl, rfl⟩ (by kernel_rfl) rfl plain goes.symm
end Go.Proofs.YtleknndhobpjcaaGreatDoor.chargeWrong
theorem Go.Proofs.YtleknndhobpjcaaGreatDoor.chargeWrong_holds : Go.Proofs.YtleknndhobpjcaaGreatDoor.Rows.ChargeWrongCardSaid := Go.Proofs.YtleknndhobpjcaaGreatDoor.chargeWrong.card
#print axioms Go.Proofs.YtleknndhobpjcaaGreatDoor.chargeWrong_holds
