/- math/bits.TrailingZeros64 and TrailingZeros32, of which the evaluator is told; what the shelf shows of them serves. No program is named here. -/
import Derived.Test.YtjhcoemfkejgdaaGreatDoorAiHook
import Derived.Shelf.Spec.TrailingZeros
namespace Go.AI
open Go.Proofs
variable {E : Ext} {P : Program} {W0 : World}

def tzF : Nat → Nat → Nat
  | 0, _ => 0
  | f + 1, x => bif Nat.beq (Nat.mod x 2) 1 then 0 else Nat.succ (tzF f (Nat.div x 2))
theorem tzF_eq : ∀ (f x : Nat), tzF f x = Lib.ctzFrom f x
  | 0, _ => rfl
  | f + 1, x => by
    simp only [tzF, Lib.ctzFrom]
    have h : Nat.beq (Nat.mod x 2) 1 = decide (x % 2 = 1) := by
      have : Nat.mod x 2 = x % 2 := rfl
      rw [this]
      by_cases h : x % 2 = 1
      · rw [h]; rfl
      · rw [decide_eq_false h, ← Bool.not_eq_true, Nat.beq_eq]; exact h
    rw [h]
    by_cases h2 : x % 2 = 1
    · simp [h2]
    · have h3 : Nat.div x 2 = x / 2 := rfl
      rw [h3, tzF_eq f]
      simp only [h2, decide_false, cond_false, if_false]; omega
def ctzF (n x : Nat) : Nat := bif Nat.beq x 0 then n else tzF n x
theorem ctzF_eq (n x : Nat) : ctzF n x = Lib.ctz n x := by
  unfold ctzF Lib.ctz
  by_cases h : x = 0
  · subst h; rfl
  · have : Nat.beq x 0 = false := by rw [← Bool.not_eq_true, Nat.beq_eq]; exact h
    rw [this, cond_false, if_neg h, tzF_eq]

def tz64H {X : Type} : List Value → Hp X → Option (Value × Hp X)
  | [.int .u64 (.ofNat x)], h => bif Nat.blt x 18446744073709551616 then some (.int .i64 (.ofNat (ctzF 64 x)), h) else none
  | _, _ => none
def tz32H {X : Type} : List Value → Hp X → Option (Value × Hp X)
  | [.int .u32 (.ofNat x)], h => bif Nat.blt x 4294967296 then some (.int .i64 (.ofNat (ctzF 32 x)), h) else none
  | _, _ => none

theorem tab_base {g : Nat} {tab : List Nat} {w : World} (hT : TabAt g tab W0) (h : w.heap[g]? = W0.heap[g]?) : TabAt g tab w := by
  intro j hj
  rw [← hT j hj]
  simp only [World.cell?, h]

theorem calls_mono {f : FuncId} {args : Array Value} {w : World} {R R' : Ending → World → Prop} (h : Calls P f args w R) (hr : ∀ e w', R e w' → R' e w') : Calls P f args w R' :=
  fun cs => let ⟨e, w', fr, r, x⟩ := h cs; ⟨e, w', fr, hr _ _ r, x⟩

structure Bodied (P : Program) (k : Nat) : Prop where
  ex : ∃ fn c, P.funcs[k]? = some fn ∧ fn.body = some c ∧ (fn.name == "runtime.NumGoroutine") = false

theorem tz64_ok {k : Nat} {ρ' : Go.Shelf.Ren} (L : Lays7.n29 P ρ') (hk : ρ'.f 29 = k) (hb : Bodied P k) (hT : TabAt (ρ'.g 1) Lib.deBruijn64tab W0) (hlt : ρ'.g 1 < W0.heap.size) : HookOk E P W0 k tz64H := by
  intro vs hp v h' hr ρ φ w hG vs' hvs
  unfold tz64H at hr
  split at hr
  · rename_i x
    cases hn : Nat.blt x 18446744073709551616 with
    | false => rw [hn] at hr; cases hr
    | true =>
      rw [hn, cond_true] at hr
      rw [blt_iff, decide_eq_true_eq] at hn
      simp only [Option.some.injEq, Prod.mk.injEq] at hr
      obtain ⟨rfl, rfl⟩ := hr
      cases hvs with
      | cons h1 h2 =>
        cases h2
        rw [h1.int_inv]
        subst hk
        refine .inl ⟨hb.ex, calls_mono (Any7.bits_TrailingZeros64 L x hn w fun _ => tab_base hT (hG.base _ hlt)) ?_⟩
        rintro e w' ⟨rfl, rfl⟩
        refine ⟨_, ρ, φ, rfl, ?_, Post.refl hG⟩
        rw [ctzF_eq]
        exact .of_flat (.int _ _)
  · cases hr
theorem tz32_ok {k : Nat} {ρ' : Go.Shelf.Ren} (L : Lays7.n28 P ρ') (hk : ρ'.f 28 = k) (hb : Bodied P k) (hT : TabAt (ρ'.g 0) Lib.deBruijn32tab W0) (hlt : ρ'.g 0 < W0.heap.size) : HookOk E P W0 k tz32H := by
  intro vs hp v h' hr ρ φ w hG vs' hvs
  unfold tz32H at hr
  split at hr
  · rename_i x
    cases hn : Nat.blt x 4294967296 with
    | false => rw [hn] at hr; cases hr
    | true =>
      rw [hn, cond_true] at hr
      rw [blt_iff, decide_eq_true_eq] at hn
      simp only [Option.some.injEq, Prod.mk.injEq] at hr
      obtain ⟨rfl, rfl⟩ := hr
      cases hvs with
      | cons h1 h2 =>
        cases h2
        rw [h1.int_inv]
        subst hk
        refine .inl ⟨hb.ex, calls_mono (Any7.bits_TrailingZeros32 L x hn w fun _ => tab_base hT (hG.base _ hlt)) ?_⟩
        rintro e w' ⟨rfl, rfl⟩
        refine ⟨_, ρ, φ, rfl, ?_, Post.refl hG⟩
        rw [ctzF_eq]
        exact .of_flat (.int _ _)
  · cases hr
end Go.AI
