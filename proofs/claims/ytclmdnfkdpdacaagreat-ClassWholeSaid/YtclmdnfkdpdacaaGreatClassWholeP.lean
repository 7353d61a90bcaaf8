/- ClassWhole answers true, in plain Lean. -/
import Derived.Test.YtclmdnfkdpdacaaGreatPo
set_option linter.unusedSimpArgs false
set_option linter.unusedVariables false
namespace Go.Proofs.YtclmdnfkdpdacaaGreat
open Go Go.Rf Go.Proofs Go.RowKit
open Go.IntWalk (i64_in i32_in u8_in u64_in)

theorem proto_in (k : Int) (h : (Lit.int .u8 k).wf = true) : ∃ r, IntKind.i64.wrap (1 + IntKind.i64.wrap (Int.tmod k 4)) = r ∧ (r = 1 ∨ r = 2 ∨ r = 3 ∨ r = 4) := by
  have h1 : (0 : Int) ≤ k ∧ k ≤ 255 := by
    simp only [Lit.wf, Bool.and_eq_true, decide_eq_true_eq] at h
    exact h
  have h2 : Int.tmod k 4 = k % 4 := Int.tmod_eq_emod_of_nonneg h1.1
  refine ⟨1 + k % 4, ?_, by omega⟩
  rw [h2, i64_in (k % 4) (by omega), i64_in _ (by omega)]

theorem known_true : polyglotlaw16_known.f 1000 = some true := by kernel_rfl

theorem why_snoc (p : Int) (l : List Fam) (f : Fam) : whyF p (l ++ [f]) = if (whyF p l).2 then (if okF p f then whyF p l else (f.1, false)) else whyF p l := by
  unfold whyF
  rw [List.find?_append]
  cases l.find? fun f => !okF p f with
  | some g => rfl
  | none =>
    simp only [Option.none_or, if_true, List.find?_cons, List.find?_nil]
    cases okF p f <;> rfl

theorem why_ok (p : Int) (l : List Fam) : (whyF p l).2 = true → whyF p l = ([], true) := by
  unfold whyF
  cases l.find? fun f => !okF p f with
  | some g => intro h; cases h
  | none => intro _; rfl

theorem count_le {l : List Fam} {f : Fam} (h : f ∈ l) : f.2.2.2.2.length ≤ countP l := by
  unfold countP
  induction l with
  | nil => simp at h
  | cons a l ih =>
    rw [List.map_cons, List.sum_cons]
    rcases List.mem_cons.1 h with rfl | h
    · omega
    · have := ih h
      omega

theorem single_check {b : Bat} (h : checkB okBound riseP b = 0) {f : Fam} (hf : f ∈ b.2) : checkB okBound riseP (b.1, [f]) = 0 := by
  unfold checkB at h ⊢
  have h1 : (okTenant b.1 && b.2.all (okFam okBound riseP) && riseF b.2) = true := by
    cases hh : (okTenant b.1 && b.2.all (okFam okBound riseP) && riseF b.2) with
    | true => rfl
    | false => rw [hh] at h; cases h
  rw [h1] at h
  have h2 : (decide (b.2.length ≤ 30) && decide (countP b.2 ≤ 120)) = true := by
    cases hh : (decide (b.2.length ≤ 30) && decide (countP b.2 ≤ 120)) with
    | true => rfl
    | false => rw [hh] at h; cases h
  simp only [Bool.and_eq_true, decide_eq_true_eq, List.all_eq_true] at h1 h2
  have hc := count_le hf
  have e1 : (okTenant b.1 && [f].all (okFam okBound riseP) && riseF [f]) = true := by
    rw [h1.1.1]
    simp only [List.all_cons, List.all_nil, h1.1.2 f hf]
    rfl
  have e2 : (decide ([f].length ≤ 30) && decide (countP [f] ≤ 120)) = true := by
    simp only [Bool.and_eq_true, decide_eq_true_eq]
    refine ⟨by simp, ?_⟩
    unfold countP
    simp only [List.map_cons, List.map_nil, List.sum_cons, List.sum_nil]
    omega
  show (if (okTenant b.1 && [f].all (okFam okBound riseP) && riseF [f]) = true then (if (decide ([f].length ≤ 30) && decide (countP [f] ≤ 120)) = true then (0 : Int) else 14) else 19) = 0
  rw [e1, e2]
  rfl

theorem classWhole_pure (b : Bat) (proto : Int) (hi : BatIn b) (h1 : (Lit.int .u8 proto).wf = true) : polyglotlaw16_ClassWhole.f 1000 b proto = some true := by
  obtain ⟨p, ep, hp⟩ := proto_in proto h1
  obtain ⟨w, e1, hw⟩ := wide_eq (K := 1000) (b := b) (by omega)
  unfold polyglotlaw16_ClassWhole.f
  simp only [known_true, ep, Option.bind_some, Bool.not_true, cond_false, e1]
  cases w with
  | true => rfl
  | false =>
    have hn := hw rfl
    have hq := small_of hn hi
    simp only [cond_false, rcheck_eq hq, Option.bind_some]
    unfold bne
    by_cases hc : checkB okBound riseP b = 0
    · have hc' : (checkB okBound riseP b == 0) = true := by simpa using hc
      have hwhy : ∀ bb : Bat, checkB okBound riseP bb = 0 → whyB okBound riseP p bb = whyF p bb.2 := by
        intro bb hb
        unfold whyB
        rw [hb]
        have : (decide (1 ≤ p) && decide (p ≤ 4) && (0 : Int) == 0) = true := by rcases hp with rfl | rfl | rfl | rfl <;> rfl
        rw [if_pos this]
      have hsmallC : ∀ f ∈ b.2, SmallC 1000 f := fun f hf => (hq.all f hf).smallC
      rw [hc']
      simp only [Bool.not_true, cond_false, why_eq p hq.smallB hsmallC, isB_eq p hq.smallB hsmallC, hwhy b hc, Option.bind_some]
      have key : ∃ t : Bool, ((loopN 1000 (fun (s_ : List UInt8 × Bool × Int) =>
        match s_ with
        | (want840, ok841, i842) =>
          bif decide (i842 < (b.2.length : Int)) then
            bif (decide (0 ≤ i842)) && (decide (i842 ≤ (IntKind.i64.wrap (i842 + 1)))) && (decide ((IntKind.i64.wrap (i842 + 1)) ≤ (b.2.length : Int))) then
              (class_Is.f 1000 p (b.1, (b.2.take ((IntKind.i64.wrap (i842 + 1)).toNat)).drop i842.toNat)).bind fun r843 =>
              bif ok841 then
                bif !r843 then
                  bif idx i842 b.2.length then
                    some (.inl ((b.2.getD i842.toNat nofam).1, false, IntKind.i64.wrap (i842 + 1)))
                  else none
                else some (.inl (want840, ok841, IntKind.i64.wrap (i842 + 1)))
              else some (.inl (want840, ok841, IntKind.i64.wrap (i842 + 1)))
            else none
          else some (.inr (want840, ok841))) (([] : List UInt8), true, 0) : Option (List UInt8 × Bool))).bind (fun x => bif (whyF p b.2).1 == x.1 then bif (whyF p b.2).2 == x.2 then some ((whyF p b.2).2 == x.2) else some false else some false) = some t ∧ t = true := by
        refine bind_loop2 (fun x => ∃ i : Nat, x.2.2 = (i : Int) ∧ i ≤ b.2.length ∧ (x.1, x.2.1) = whyF p (b.2.take i)) (fun x => b.2.length - x.2.2.toNat) (fun r => r = whyF p b.2) ?_ ⟨0, rfl, by omega, rfl⟩ (by show b.2.length - (0 : Int).toNat < 1000; have := hn.1; omega) ?_
        · rintro ⟨want, ok, _⟩ ⟨i, rfl, i1, i2⟩
          simp only [] at i2 ⊢
          by_cases hlt : i < b.2.length
          · have e : decide ((i : Int) < (b.2.length : Int)) = true := by simpa using hlt
            have hb40 := hn.1
            have e2 : (decide (0 ≤ (i : Int)) && decide ((i : Int) ≤ ((i + 1 : Nat) : Int)) && decide (((i + 1 : Nat) : Int) ≤ (b.2.length : Int))) = true := by
              simp only [Bool.and_eq_true, decide_eq_true_eq]
              omega
            have hsl : (b.2.take (i + 1)).drop i = [b.2[i]] := by
              rw [List.drop_take, List.drop_eq_getElem_cons hlt]
              have : i + 1 - i = 1 := by omega
              rw [this]
              rfl
            have htk : b.2.take (i + 1) = b.2.take i ++ [b.2[i]] := by rw [List.take_add_one, List.getElem?_eq_getElem hlt]; rfl
            have hm := List.getElem_mem hlt
            have hsq : SmallQ 1000 (b.1, [b.2[i]]) := by
              refine ⟨hq.ten, by simp, ?_, fun f hf => ?_⟩
              · have := (hq.all _ hm).pts.2
                unfold countP
                simp only [List.map_cons, List.map_nil, List.sum_cons, List.sum_nil]
                omega
              · have hf' : f ∈ [b.2[i]] := hf
                rw [List.mem_singleton] at hf'
                subst hf'
                exact hq.all _ hm
            have hsc : ∀ f ∈ (b.1, [b.2[i]]).2, SmallC 1000 f := fun f hf => (hsq.all f hf).smallC
            have his := isB_eq p hsq.smallB hsc
            rw [hwhy _ (single_check hc hm)] at his
            have hone : (whyF p [b.2[i]]).2 = okF p b.2[i] := by
              unfold whyF
              rw [List.find?_cons]
              cases okF p b.2[i] <;> rfl
            have his' : class_Is.f 1000 p (b.1, [b.2[i]]) = some (okF p b.2[i]) := his.trans (congrArg some hone)
            have hgf : b.2.getD i nofam = b.2[i] := by rw [List.getD_eq_getElem?_getD, List.getElem?_eq_getElem hlt]; rfl
            have hsn := why_snoc p (b.2.take i) b.2[i]
            rw [← htk, ← i2] at hsn
            simp only [] at hsn
            simp only [e, step_nat (show i < 9000000000000000000 by omega), e2, cond_true, Int.toNat_natCast, hsl, his', Option.bind_some, idx_nat hlt, hgf]
            have hmeas : b.2.length - (((i + 1 : Nat) : Int)).toNat < b.2.length - ((i : Int)).toNat := by omega
            cases ok with
            | false =>
              exact ⟨_, rfl, ⟨i + 1, rfl, by omega, by rw [hsn]; rfl⟩, hmeas⟩
            | true =>
              cases hok : okF p b.2[i] with
              | true =>
                rw [hok] at hsn
                exact ⟨_, rfl, ⟨i + 1, rfl, by omega, by rw [hsn]; rfl⟩, hmeas⟩
              | false =>
                rw [hok] at hsn
                exact ⟨_, rfl, ⟨i + 1, rfl, by omega, by rw [hsn]; rfl⟩, hmeas⟩
          · have e : decide ((i : Int) < (b.2.length : Int)) = false := by simpa using hlt
            have ht : b.2.take i = b.2 := List.take_of_length_le (by omega)
            rw [e]
            rw [ht] at i2
            exact ⟨_, rfl, i2⟩
        · rintro r hr
          have hr' : r = whyF p b.2 := hr
          subst hr'
          refine ⟨true, ?_, rfl⟩
          simp
      obtain ⟨t, k1, k2⟩ := key
      subst k2
      exact k1
    · have hc' : (checkB okBound riseP b == 0) = false := by simpa using hc
      rw [hc']
      rfl

end Go.Proofs.YtclmdnfkdpdacaaGreat
