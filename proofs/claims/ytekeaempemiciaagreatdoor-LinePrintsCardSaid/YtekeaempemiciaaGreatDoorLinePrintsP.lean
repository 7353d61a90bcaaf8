/- LinePrints, in plain Lean. -/
import Derived.Test.YtekeaempemiciaaGreatDoorLh
set_option linter.unusedSimpArgs false
set_option linter.unusedVariables false
namespace Go.Proofs.YtekeaempemiciaaGreatDoor
open Go Go.Rf Go.Proofs Go.RowKit
open Go.IntWalk (i64_in i32_in u8_in u64_in)

theorem linePrints_pure (b : Bat) (unit kind : Int) (hi : BatIn b) (hv : BatVal b) : polyglotlaw22_LinePrints.f 1000 b unit kind = some true := by
  obtain ⟨w, e1, hw⟩ := wide_eq (K := 1000) (b := b) (by omega)
  unfold polyglotlaw22_LinePrints.f
  simp only [known22, Option.bind_some, Bool.not_true, cond_false, e1]
  cases w with
  | true => rfl
  | false =>
    have hb : Fit b := ⟨hw rfl, hi, hv⟩
    simp only [cond_false, printP_eq hb, printR2_eq hb, Option.bind_some, beq_self_eq_true, bne_self_eq_false, Bool.not_true]
    rw [loop_ix 5 (fun _ => true) false (by omega) (fun k hk => ?_) (by simp)]
    · simp only [field_eq, fieldR_eq, Option.bind_some, beq_self_eq_true]
      rfl
    · have e2 : decide ((k : Int) < 5) = true := by rw [decide_eq_true_eq]; omega
      have e3 : decide ((k : Int).toNat < 5) = true := by rw [decide_eq_true_eq]; omega
      simp only [e2, e3, idx_nat hk, cond_true]
      rw [step_nat (by omega)]
      rfl

end Go.Proofs.YtekeaempemiciaaGreatDoor
