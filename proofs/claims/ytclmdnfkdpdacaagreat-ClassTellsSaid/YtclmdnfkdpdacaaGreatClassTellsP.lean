/- ClassTells answers true, in plain Lean. -/
import Derived.Test.YtclmdnfkdpdacaaGreatPr
set_option linter.unusedSimpArgs false
set_option linter.unusedVariables false
namespace Go.Proofs.YtclmdnfkdpdacaaGreat
open Go Go.Rf Go.Proofs Go.RowKit
open Go.IntWalk (i64_in i32_in u8_in u64_in)

theorem of_ex {X : Option Bool} (h : ∃ t, X = some t ∧ t = true) : X = some true := by
  obtain ⟨t, h1, rfl⟩ := h
  exact h1

theorem known_true' : polyglotlaw16_known.f 1000 = some true := by kernel_rfl

theorem classTells_pure (b : Bat) (proto : Int) (v : List UInt8) (hi : BatIn b) : polyglotlaw16_ClassTells.f 1000 b proto v = some true := by
  obtain ⟨w, e1, hw⟩ := wide_eq (K := 1000) (b := b) (by omega)
  unfold polyglotlaw16_ClassTells.f
  simp only [known_true', Option.bind_some, Bool.not_true, cond_false, e1]
  cases w with
  | true => rfl
  | false =>
    simp only [cond_false, Option.bind_some]
    cases decide ((v.length : Int) > 200) with
    | true => rfl
    | false =>
      have hq := small_of (hw rfl) hi
      have hsmallC : ∀ f ∈ b.2, SmallC 1000 f := fun f hf => (hq.all f hf).smallC
      have hcl : ∀ q : Int, polyglotref12_Class.f 1000 q b = some (whyB okBound riseP q b).2 := by
        intro q
        unfold polyglotref12_Class.f
        rw [rwhy_eq (by omega) q hq]
        rfl
      simp only [cond_false, why_eq _ hq.smallB hsmallC, isB_eq _ hq.smallB hsmallC, rwhy_eq (show 200 < 1000 by omega) _ hq, hcl, kinds_eq, rkindsC_eq, classValue_eq _ v (show 64 < 1000 by omega), rclassValue_eq _ v (show 64 < 1000 by omega), Option.bind_some]
      refine of_ex (bind_loop2 (fun s => ∃ i : Nat, s = (i : Int) ∧ i ≤ 7) (fun s => 7 - s.toNat) (fun r => match r with | .inl _ => True | .inr t => t = true) ?_ ⟨0, rfl, by omega⟩ (by show 7 - (0 : Int).toNat < 1000; omega) ?_)
      · rintro _ ⟨i, rfl, h⟩
        skip
        by_cases h7 : i < 7
        · have e : decide ((i : Int) < 7) = true := by rw [decide_eq_true_eq]; omega
          have hq' : (bif (i : Int) == 6 then some proto else some (i : Int)) = some (bif (i : Int) == 6 then proto else (i : Int)) := by cases (i : Int) == 6 <;> rfl
          rw [e, hq']
          generalize (bif (i : Int) == 6 then proto else (i : Int)) = q
          simp only [cond_true, Option.bind_some, beq_self_eq_true, Bool.not_true, cond_false, bne_self_eq_false]
          have hk := kinds_len q
          rw [loop_ix (okKinds q).length (fun _ => true) false (by omega) (fun k hk' => ?_) (by simp)]
          · have : ((List.range (okKinds q).length).all fun _ => true) = true := by simp
            rw [this]
            refine ⟨_, rfl, ⟨i + 1, step_nat (by omega), by omega⟩, ?_⟩
            show 7 - (IntKind.i64.wrap ((i : Int) + 1)).toNat < 7 - ((i : Int)).toNat
            rw [step_nat (by omega)]
            omega
          · have e2 : decide ((k : Int) < ((okKinds q).length : Int)) = true := by simpa using hk'
            simp only [e2, idx_nat hk', cond_true, cond_false]
            rw [step_nat (by omega)]
            rfl
        · have e : decide ((i : Int) < 7) = false := by rw [decide_eq_false_iff_not]; omega
          rw [e]
          exact ⟨.inr (.inl ()), rfl, trivial⟩
      · rintro (u | t) hQ
        · exact ⟨_, rfl, rfl⟩
        · exact ⟨_, rfl, hQ⟩

end Go.Proofs.YtclmdnfkdpdacaaGreat
