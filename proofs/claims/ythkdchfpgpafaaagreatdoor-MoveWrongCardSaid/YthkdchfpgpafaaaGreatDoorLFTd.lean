/- Closed facts of what MoveWrong reaches, each by itself. -/
import Derived.Test.YthkdchfpgpafaaaGreatDoorRows
import GoSem.ClaimGoes
import Derived.KernelRfl
namespace Go.Proofs.YthkdchfpgpafaaaGreatDoor.moveWrong
open Go
theorem no_goes : Tryz.prog.funcs.any Func.goes = false := by kernel_rfl
theorem goes_of {P : Program} (h : P.funcs.any Func.goes = false) (f : FuncId) : P.goes f = false := by
  have hg : ∀ g : FuncId, (P.funcs[g]?).any Func.goes = false := by
    intro g
    cases hq : P.funcs[g]? with
    | none => rfl
    | some fn =>
      rw [Array.any_eq_false] at h
      obtain ⟨hi, e⟩ := Array.getElem?_eq_some_iff.1 hq
      have := h g hi
      rw [e] at this
      simpa using this
  unfold Program.goes
  simp only [hg, h, Bool.and_false, Bool.or_false, List.any_eq_false]
  simp
theorem goesBy_of {P : Program} {c : OpenClaim} (h : P.funcs.any Func.goes = false) : c.goesBy P = false := by
  have hg : ∀ f, P.goes f = false := goes_of h
  unfold OpenClaim.goesBy Program.goesAt Program.goesFrom
  have h1 : (P.funcNamed c.func).any P.goes = false := by
    cases P.funcNamed c.func <;> simp [hg]
  rw [h1, Bool.false_or]
  split <;> simp [hg]
theorem goes : Rows.moveWrongRow.goesBy Tryz.prog = false := goesBy_of no_goes
end Go.Proofs.YthkdchfpgpafaaaGreatDoor.moveWrong
