/- StatBatch, in plain Lean. -/
import Derived.Test.YtoobdenlgapcmaaGreatSd
set_option linter.unusedSimpArgs false
set_option linter.unusedVariables false
namespace Go.Proofs.YtoobdenlgapcmaaGreat
open Go Go.Rf Go.Proofs Go.RowKit
open Go.IntWalk (i64_in i32_in u8_in u64_in)

theorem known27 : polyglotlaw27_known.f 1000 = some true := by kernel_rfl

theorem statBatch_pure (b : Bat) (hi : BatIn b) (hv : BatVal b) : polyglotlaw27_StatBatch.f 1000 b = some true := by
  obtain ⟨w, e1, hw⟩ := wide_eq (K := 1000) (b := b) (by omega)
  unfold polyglotlaw27_StatBatch.f
  simp only [known27, Option.bind_some, Bool.not_true, cond_false, e1]
  cases w with
  | true => rfl
  | false =>
    have hn := hw rfl
    have hq := small_of hn hi
    have hsC : ∀ f ∈ b.2, SmallC 1000 f := fun f hf => (hq.all f hf).smallC
    simp only [cond_false, events_eq (K := 1000) (by omega) hn hq.smallB hsC, isB_eq 4 hq.smallB hsC, Option.bind_some]
    cases hc : (whyB okBound riseP 4 b).2 with
    | false => rfl
    | true =>
      have hck := why_check hc
      have hF : ∀ f ∈ b.2, okF 4 f = true := by
        unfold whyB at hc
        rw [hck] at hc
        have h1 : (whyF 4 b.2).2 = true := hc
        rw [whyF_all, List.all_eq_true] at h1
        exact h1
      have hlen := evB_len b.2
      obtain ⟨n1, n2, n3, n4⟩ := hn
      simp only [if_true, Option.bind_some, show ((true == true) : Bool) = true from rfl, Bool.not_true, cond_false]
      refine of_ex_eq (ex_bind (Q := fun r => r = (.inl ((countP b.2 : Nat) : Int) : Int ⊕ Bool)) (loop_rel (fun n t => (n, t)) b.2 (fun i n => n = ((countP (b.2.take i) : Nat) : Int)) _ (fun i f n hf hn => ?_) (fun n hn => ?_) (by omega) rfl) (fun r hr => ?_))
      · subst hn
        have hi' := lt_at hf
        have hfm := List.mem_of_getElem? hf
        have e : decide ((i : Int) < (b.2.length : Int)) = true := by simpa using hi'
        have hcs := countP_succ hf
        have hfw := n4 f hfm
        unfold famW at hfw
        simp only [Bool.and_eq_true, decide_eq_true_eq] at hfw
        simp only [e, idx_nat hi', Int.toNat_natCast, get_at hf, cond_true, step_nat (show i < 9000000000000000000 by omega)]
        refine ex_bind (Q := fun r => r = (.inl ((countP (b.2.take (i + 1)) : Nat) : Int) : Int ⊕ Bool)) (loop_rel (fun n t => (n, t)) f.2.2.2.2 (fun k n => n = ((countP (b.2.take i) + k : Nat) : Int)) _ (fun k p n hp hn => ?_) (fun n hn => ?_) (by omega) rfl) (fun r hr => ?_)
        · subst hn
          have hk := lt_at hp
          have hpm := List.mem_of_getElem? hp
          have e2 : decide ((k : Int) < (f.2.2.2.2.length : Int)) = true := by simpa using hk
          have hat := evB_at hf hp
          have hlt := lt_at hat
          have e3 : decide (((countP (b.2.take i) + k : Nat) : Int) ≥ ((evB b.2).length : Int)) = false := by simp only [decide_eq_false_iff_not]; omega
          have hshort := (hq.all f hfm).labs p hpm
          have hFf := hF f hfm
          unfold okF at hFf
          simp only [Bool.and_eq_true, List.all_eq_true] at hFf
          have hg : statprint_Good.f 1000 ((ev f p).1, (ev f p).2.1, (ev f p).2.2.1, (ev f p).2.2.2.1, (ev f p).2.2.2.2.1, (ev f p).2.2.2.2.2.1, (ev f p).2.2.2.2.2.2.1, (ev f p).2.2.2.2.2.2.2) = some true :=
            evGood_eq (by omega) hshort hFf.1.1.2 (check_pt hck hfm hpm) (hFf.2 p hpm) (hv f hfm p hpm)
          have a1 : ((ev f p).1 == f.1) = true := beq_self_eq_true _
          have a2 : ((ev f p).2.2.2.1 == p.2.2.2.2.2.1) = true := beq_self_eq_true _
          have a3 : ((ev f p).2.2.2.2.1 == p.2.2.2.2.2.2.1) = true := beq_self_eq_true _
          have a4 : (((ev f p).2.2.1 == 1) == (f.2.1 == 2)) = true := by
            unfold ev
            by_cases h2 : f.2.1 = 2
            · simp [h2]
            · simp [h2]
          have a5 : polyglotref7_SameLabels.f 1000 (ev f p).2.1 p.1 = some true := same_self (l := p.1) (by have := hshort.1; omega) hshort.2.1
          have s1 : IntKind.i64.wrap (((countP (b.2.take i) + k : Nat) : Int) + 1) = ((countP (b.2.take i) + (k + 1) : Nat) : Int) := by
            rw [step_nat (by omega)]
            rfl
          refine ⟨.inl (((countP (b.2.take i) + (k + 1) : Nat) : Int), ((k + 1 : Nat) : Int)), ?_, ⟨_, rfl, rfl⟩⟩
          simp only [e2, e3, idx_nat hlt, idx_nat hk, Int.toNat_natCast, get_at hat, get_at hp, cond_true, cond_false, a1, a2, a3, a4, a5, hg, Bool.and_self, Bool.not_true, Option.bind_some, s1, step_nat (show k < 9000000000000000000 by omega)]
        · subst hn
          have e2 : decide ((f.2.2.2.2.length : Int) < (f.2.2.2.2.length : Int)) = false := by simp
          refine ⟨.inl ((countP (b.2.take i) + f.2.2.2.2.length : Nat) : Int), by simp only [e2, cond_false], ?_⟩
          rw [hcs]
        · subst hr
          exact ⟨_, rfl, ⟨_, rfl, rfl⟩⟩
      · subst hn
        have e2 : decide ((b.2.length : Int) < (b.2.length : Int)) = false := by simp
        refine ⟨.inl ((countP (b.2.take b.2.length) : Nat) : Int), by simp only [e2, cond_false], ?_⟩
        rw [List.take_length]
      · subst hr
        refine ⟨_, rfl, ?_⟩
        rw [hlen]
        exact beq_self_eq_true _

end Go.Proofs.YtoobdenlgapcmaaGreat
