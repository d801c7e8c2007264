/- Functions of the library that the evaluator is told of: what is taken of each is shown here. No program is named here. -/
import Derived.Test.YtjhcoemfkejgdaaGreatDoorKFast
namespace Go.AI
variable {E : Ext} {P : Program} {W0 : World}

/-- What is to be shown of a function that the evaluator is told of. -/
def HookOk (E : Ext) (P : Program) (W0 : World) (k : Nat) (g : List Value → Hp E.X → Option (Value × Hp E.X)) : Prop :=
  ∀ vs h v h', g vs h = some (v, h') → ∀ ρ φ w, Good (E := E) W0 ρ φ (fun i => look i h.tbl) h.next w → ∀ vs', All2 (VR ρ) vs vs' →
    ((∃ fn c, P.funcs[k]? = some fn ∧ fn.body = some c ∧ (fn.name == "runtime.NumGoroutine") = false) ∧
    Calls P k ⟨vs'⟩ w fun e w' => ∃ v' ρ' φ', e = .returned v' ∧ VR ρ' v v' ∧ Post (E := E) W0 ρ φ (fun i => look i h.tbl) h.next w ρ' φ' (fun i => look i h'.tbl) h'.next w') ∨
    ∃ v' w' ρ' φ', (callFunc k ⟨vs'⟩).run P w = .ok (.value v') w' ∧ VR ρ' v v' ∧ Post (E := E) W0 ρ φ (fun i => look i h.tbl) h.next w ρ' φ' (fun i => look i h'.tbl) h'.next w'

theorem hooks_ok {hook : Hook E.X} (h : ∀ k g, hook k = some g → HookOk E P W0 k g) : CallsOk E P W0 fun f vs h => match hook f with | some g => g vs h | none => none := by
  intro k vs hp v h' hr ρ φ w hG vs' hvs
  simp only at hr
  cases hk : hook k with
  | none => rw [hk] at hr; cases hr
  | some g => rw [hk] at hr; exact h k g hk vs hp v h' hr ρ φ w hG vs' hvs

/-- A function without a body, that the model answers by an entry. -/
structure Entry (P : Program) (k : Nat) (e : Array Value → Sem Value) : Prop where
  ex : ∃ fn, P.funcs[k]? = some fn ∧ fn.body = none ∧ (fn.name == "runtime.NumGoroutine") = false ∧ (Extern.findNext fn).isNone = true ∧ ∃ e', Extern.find fn = some e' ∧ ∀ args, e' args = e args

theorem entry_run {k : Nat} {e : Array Value → Sem Value} (h : Entry P k e) (args : Array Value) (w : World) {v : Value} {w' : World} (hr : (e args).run P w = .ok v w') : (callFunc k args).run P w = .ok (.value v) w' := by
  obtain ⟨fn, h1, h2, h3, h4, e', h5, h6⟩ := h.ex
  have h7 : Extern.findNext fn = none := by
    cases hq : Extern.findNext fn with
    | none => rfl
    | some x => rw [hq] at h4; cases h4
  rw [← h6] at hr
  simp only [callFunc, Sem.run_bind, run_program, Result.andThen_ok, h1, h3, Bool.false_eq_true, if_false, h2, Option.isNone_none, if_true, run_mark, h7, h5, hr, Sem.run_pure]

/-- internal/abi.NoEscape: the pointer as it is. -/
def noEscapeH {X : Type} : List Value → Hp X → Option (Value × Hp X)
  | [v], h => some (v, h)
  | _, _ => none
theorem noEscape_ok {k : Nat} (h : Entry P k Extern.AbiNoEscape.same) : HookOk E P W0 k noEscapeH := by
  intro vs hp v h' hr ρ φ w hG vs' hvs
  unfold noEscapeH at hr
  split at hr
  · simp only [Option.some.injEq, Prod.mk.injEq] at hr
    obtain ⟨rfl, rfl⟩ := hr
    cases hvs with
    | cons h1 h2 =>
      cases h2
      exact .inr ⟨_, w, ρ, φ, entry_run h _ w (Lib.run_noEscape (P := P) w _), h1, Post.refl hG⟩
  · cases hr

/-- internal/bytealg.MakeNoZero: so many bytes, of which nothing is known. -/
def makeNoZeroH {X : Type} (t : Nat) : List Value → Hp X → Option (Value × Hp X)
  | [.int .i64 (.ofNat n)], h => bif Nat.ble n 281474976710656 then some (.slice (some ⟨h.next, 0, none⟩) n 0, ⟨(h.next, .grown 1 t []) :: h.tbl, Nat.succ h.next⟩) else none
  | _, _ => none

theorem digits_size : ∀ (n t : Nat) (acc : Array Value), (Extern.BytealgMakeNoZero.digits n t acc).size = acc.size + n
  | 0, t, acc => rfl
  | n + 1, t, acc => by
    unfold Extern.BytealgMakeNoZero.digits
    rw [digits_size n]
    simp; omega

theorem run_askRoom (n : Nat) (w : World) : (askRoom n).run P w = .ok () w := by
  unfold askRoom
  split <;> rfl

theorem makeNoZero_ok {k : Nat} {ps rs : Array TypeId} {t s : TypeId} (h : Entry P k (Extern.BytealgMakeNoZero.makeNoZero ps rs)) (hrs : rs[0]? = some s) (hs : P.underlying s = some (.slice t)) : HookOk E P W0 k (makeNoZeroH t) := by
  intro vs hp v h' hr ρ φ w hG vs' hvs
  unfold makeNoZeroH at hr
  split at hr
  · rename_i n
    cases hn : Nat.ble n 281474976710656 with
    | false => rw [hn] at hr; cases hr
    | true =>
      rw [hn, cond_true] at hr
      rw [Nat.ble_eq] at hn
      simp only [Option.some.injEq, Prod.mk.injEq] at hr
      obtain ⟨rfl, rfl⟩ := hr
      cases hvs with
      | cons h1 h2 =>
        cases h2
        rw [h1.int_inv]
        have hG' : Good (E := E) W0 ρ φ (⟨[], hp.tbl, hp.next⟩ : Mem E.X).get (⟨[], hp.tbl, hp.next⟩ : Mem E.X).next w := hG
        have hcut : ∀ k, ¬ (Question.appendCap n 0 t).forced = true ∧ n ≤ (Question.appendCap n 0 t).cut k := by
          intro k; refine ⟨by simp [Question.forced], by simp [Question.cut]⟩
        obtain ⟨hnf, hcap⟩ := hcut (w.tape w.drawn (Question.appendCap n 0 t))
        generalize hC : (Question.appendCap n 0 t).cut (w.tape w.drawn (Question.appendCap n 0 t)) = C at hcap
        generalize hB : (Question.extern "internal/bytealg.MakeNoZero.bytes" 0).cut (w.tape (w.drawn + 1) (Question.extern "internal/bytealg.MakeNoZero.bytes" 0)) = B
        have hsz := digits_size C B #[]
        have hn1 : ¬ ((n : Int) < 0) := by omega
        have hn2 : ¬ ((n : Int) > 2 ^ 48) := by omega
        have hrun : (Extern.BytealgMakeNoZero.makeNoZero ps rs #[.int .i64 (.ofNat n)]).run P w = .ok (.slice (some ⟨w.heap.size, 0, none⟩) n C) { w with drawn := w.drawn + 1 + 1, heap := w.heap.push (.cells (Extern.BytealgMakeNoZero.digits C B #[]) t) } := by
          have hf2 : (Question.extern "internal/bytealg.MakeNoZero.bytes" 0).forced = false := by simp [Question.forced]
          have hor : (decide ((Int.ofNat n) < 0) || decide ((Int.ofNat n) > 2 ^ 48)) = false := by
            simp only [Bool.or_eq_false_iff, decide_eq_false_iff_not]
            exact ⟨hn1, hn2⟩
          have hdef : Extern.BytealgMakeNoZero.makeNoZero ps rs #[.int .i64 (.ofNat n)] = (do
              let some t := rs[0]? | stuck "bytealg.MakeNoZero: no result type"
              let .slice elem ← underlying t | stuck "bytealg.MakeNoZero: slice type expected"
              if (Int.ofNat n) < 0 || (Int.ofNat n) > 2 ^ 48 then runtimePanic (.error "makeslice: len out of range")
              let cap ← choose (.appendCap (Int.ofNat n).toNat 0 elem)
              askRoom cap
              let bytes ← choose (.extern "internal/bytealg.MakeNoZero.bytes" 0)
              let a ← newRow elem (Extern.BytealgMakeNoZero.digits cap bytes #[])
              pure (.slice (some a) (Int.ofNat n).toNat cap)) := rfl
          rw [hdef]
          have hC' : (Int.ofNat n).toNat = n := rfl
          simp only [hrs, hC', hor, Bool.false_eq_true, if_false]
          simp only [Sem.run_bind, run_under hs, Result.andThen_ok, Sem.run_pure, run_choose, hnf, hC, run_askRoom, hf2, hB, run_newRow, Bool.false_eq_true, if_false]
        have hd : (Extern.BytealgMakeNoZero.digits C B #[]) = ⟨[] ++ (Extern.BytealgMakeNoZero.digits C B #[]).toList⟩ := by simp
        obtain ⟨ρ', φ', q1, q2, q3⟩ := new_grown (cs := []) (cs' := []) (rest := (Extern.BytealgMakeNoZero.digits C B #[]).toList) (s := C) (ez := 1) (heap := true) (w' := { w with drawn := w.drawn + 1 + 1, heap := w.heap.push (.cells (Extern.BytealgMakeNoZero.digits C B #[]) t) }) hG' (fun i x y hx => by simp [look] at hx) t .nil (by simp [hsz]) (0, 0) (free_zero _) (by rw [← hd]) rfl rfl
        refine .inr ⟨_, _, ρ', φ', entry_run h _ w hrun, .of_flat ?_, q2⟩
        have := FR.slc (ρ := ρ') (i := hp.next) (b := w.heap.size) (s := C) (o := 0) (l := n) (c := 0) q1
        rw [Nat.zero_add] at this
        exact this
  · cases hr
end Go.AI
