/- ClassParts answers true, in plain Lean: by each format and each part. -/
import Derived.Test.YtclmdnfkdpdacaaFnC
set_option linter.unusedSimpArgs false
set_option linter.unusedVariables false
namespace Go.Proofs.Ytclmdnfkdpdacaa
open Go Go.Rf Go.Proofs Go.RowKit

theorem parts_all : ((List.range 4).all fun a => (List.range 9).all fun b => polyglotlaw16_ClassParts.f 100 (a : Int) (b : Int) == some true) = true := by kernel_rfl

theorem classParts_pure (proto how : Int) (h1 : (Lit.int .u8 proto).wf = true) (h2 : (Lit.int .u8 how).wf = true) : polyglotlaw16_ClassParts.f 100 proto how = some true := by
  have b1 : (0 : Int) ≤ proto ∧ proto ≤ 255 := by
    simp only [Lit.wf, Bool.and_eq_true, decide_eq_true_eq] at h1
    exact h1
  have b2 : (0 : Int) ≤ how ∧ how ≤ 255 := by
    simp only [Lit.wf, Bool.and_eq_true, decide_eq_true_eq] at h2
    exact h2
  have e1 : Int.tmod proto 4 = Int.tmod (((proto % 4).toNat : Nat) : Int) 4 := by
    rw [Int.tmod_eq_emod_of_nonneg b1.1, Int.tmod_eq_emod_of_nonneg (by omega)]
    omega
  have e2 : Int.tmod how 9 = Int.tmod (((how % 9).toNat : Nat) : Int) 9 := by
    rw [Int.tmod_eq_emod_of_nonneg b2.1, Int.tmod_eq_emod_of_nonneg (by omega)]
    omega
  have key : polyglotlaw16_ClassParts.f 100 proto how = polyglotlaw16_ClassParts.f 100 (((proto % 4).toNat : Nat) : Int) (((how % 9).toNat : Nat) : Int) := by
    unfold polyglotlaw16_ClassParts.f
    rw [e1, e2]
  rw [key]
  have h3 := List.all_eq_true.1 parts_all (proto % 4).toNat (List.mem_range.2 (by omega))
  have h4 := List.all_eq_true.1 h3 (how % 9).toNat (List.mem_range.2 (by omega))
  simpa using h4

end Go.Proofs.Ytclmdnfkdpdacaa
