/- What the laws of the line format's print know. -/
import Derived.Test.YtekeaempemiciaaGreatDoorLg
set_option linter.unusedSimpArgs false
set_option linter.unusedVariables false
namespace Go.Proofs.YtekeaempemiciaaGreatDoor
open Go Go.Rf Go.Proofs Go.RowKit
open Go.IntWalk (i64_in i32_in u8_in u64_in)

theorem known22 : polyglotlaw22_known.f 1000 = some true := by
  unfold polyglotlaw22_known.f
  rw [printP_eq (fit_of (by kernel_rfl)), printP_eq (fit_of (by kernel_rfl)), printP_eq (fit_of (by kernel_rfl)), printP_eq (fit_of (by kernel_rfl))]
  kernel_rfl

theorem fit_of_wide {b : Bat} (hi : BatIn b) (hv : BatVal b) (h : Narrow b) : Fit b := ⟨h, hi, hv⟩

end Go.Proofs.YtekeaempemiciaaGreatDoor
