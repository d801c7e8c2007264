/- Closed calls: what is reckoned once, on an empty heap, holds everywhere. No program is named here. -/
import Derived.Test.YtjhcoemfkejgdaaGreatDoorAiTz
namespace Go.AI
variable {E : Ext} {P : Program} {W0 : World}

/-- A function without parameters, whose result holds no reference. -/
def constH {X : Type} (r : Value) : List Value → Hp X → Option (Value × Hp X)
  | [], h => some (r, h)
  | _, _ => none

theorem const_ok {k : Nat} {r : Value} {call : CallFn E.X} (hC : CallsOk E P W0 call) (hv : ∃ h', call k [] ⟨[], 0⟩ = some (r, h')) (hp : ∀ ρ v, VR ρ r v → v = r) (hs : ∀ ρ, VR ρ r r) : HookOk E P W0 k (constH r) := by
  intro vs h v h2 hr ρ φ w hG vs' hvs
  unfold constH at hr
  split at hr
  · simp only [Option.some.injEq, Prod.mk.injEq] at hr
    obtain ⟨rfl, rfl⟩ := hr
    cases hvs
    obtain ⟨h', hv⟩ := hv
    have hG0 : Good (E := E) W0 (fun _ => none) φ (fun i => look i (⟨[], 0⟩ : Hp E.X).tbl) 0 w :=
      ⟨fun _ _ => rfl, fun i o h => by simp [look] at h, fun i j oi oj b h => by simp [look] at h, fun i o b h => by simp [look] at h, fun i o b h => by simp [look] at h, fun i o b h => by simp [look] at h, hG.size, hG.base, hG.os, hG.out⟩
    have key : ∀ {v' w' ρ' φ'}, VR ρ' r v' → Post (E := E) W0 (fun _ => none) φ (fun i => look i (⟨[], 0⟩ : Hp E.X).tbl) 0 w ρ' φ' (fun i => look i h'.tbl) h'.next w' → VR ρ r v' ∧ Post (E := E) W0 ρ φ (fun i => look i h.tbl) h.next w ρ φ (fun i => look i h.tbl) h.next w' := by
      intro v' w' ρ' φ' h1 h2
      rw [hp _ _ h1]
      have hk : ∀ c, c < w.heap.size → w'.heap[c]? = w.heap[c]? := fun c hc => h2.keep c hc fun i o h => by simp [look] at h
      refine ⟨hs _, ⟨?_, Ren.le_refl _, Nat.le_refl _, h2.sz, fun c hc _ => hk c hc, fun i o c hi hc => .inr ⟨i, o, hi, hc⟩, fun i o c hi hc => .inr ⟨i, o, hi, hc⟩, fun i o hi => .inr ⟨o, hi⟩, fun _ _ => rfl⟩⟩
      exact ⟨hG.dom, fun i o hi => let ⟨b, s, a, c⟩ := hG.rel i o hi; ⟨b, s, a, c.frame (Ren.le_refl _) fun c hc => hk c (hG.lts i o c hi hc)⟩, hG.dis, hG.sub, fun i o b hi hb => Nat.lt_of_lt_of_le (hG.lts i o b hi hb) h2.sz, hG.frs, h2.good.size, h2.good.base, h2.good.os, h2.good.out⟩
    rcases hC k [] ⟨[], 0⟩ r h' hv _ φ w hG0 [] .nil with ⟨hb, hc⟩ | ⟨v', w', ρ', φ', hx, h1, h2⟩
    · refine .inl ⟨hb, calls_mono hc ?_⟩
      rintro e w' ⟨v', ρ', φ', rfl, h1, h2⟩
      obtain ⟨q1, q2⟩ := key h1 h2
      exact ⟨v', ρ, φ, rfl, q1, q2⟩
    · obtain ⟨q1, q2⟩ := key h1 h2
      exact .inr ⟨v', w', ρ, φ, hx, q1, q2⟩
  · cases hr

theorem true_ok {k : Nat} {call : CallFn E.X} (hC : CallsOk E P W0 call) (hv : ∃ h', call k [] ⟨[], 0⟩ = some (.bool true, h')) : HookOk E P W0 k (constH (.bool true)) :=
  const_ok hC hv (fun _ _ h => h.bool_inv) (fun _ => .of_flat (.bool _))

/-- A list of what the evaluator is told. -/
def hookL {X : Type} : List (Nat × (List Value → Hp X → Option (Value × Hp X))) → Hook X
  | [], _ => none
  | (k, g) :: r, f => bif Nat.beq f k then some g else hookL r f
theorem hookL_ok : ∀ {l : List (Nat × (List Value → Hp E.X → Option (Value × Hp E.X)))}, (∀ x ∈ l, HookOk E P W0 x.1 x.2) → CallsOk E P W0 fun f vs h => match hookL l f with | some g => g vs h | none => none := by
  intro l hl
  refine hooks_ok fun k g h => ?_
  induction l with
  | nil => simp [hookL] at h
  | cons x r ih =>
    obtain ⟨a, b⟩ := x
    simp only [hookL] at h
    cases hq : Nat.beq k a with
    | true =>
      rw [hq, cond_true] at h
      rw [Nat.beq_eq] at hq
      injection h with h; subst h; subst hq
      exact hl _ (List.mem_cons_self ..)
    | false =>
      rw [hq, cond_false] at h
      exact ih (fun x hx => hl x (List.mem_cons_of_mem _ hx)) h

theorem run_of_value {X : Type} {F : Nat → Option IFn} {clean : Nat → Bool} {hook : Hook X} {n f : Nat} {vs : List Value} {h : Hp X} {v : Value}
    (hk : runK F clean hook n f vs h (fun v _ => some (v, (⟨[], 0⟩ : Hp X))) = some (v, (⟨[], 0⟩ : Hp X))) : ∃ h', run F clean hook n f vs h = some (v, h') := by
  rw [runK_eq] at hk
  cases hr : run F clean hook n f vs h with
  | none => rw [hr] at hk; cases hk
  | some r =>
    rw [hr] at hk
    simp only [Option.bind_some, Option.some.injEq, Prod.mk.injEq, and_true] at hk
    exact ⟨r.2, by rw [← hk]⟩
end Go.AI
