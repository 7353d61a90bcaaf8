/- What the functions of classes answer, in plain Lean. -/
import Derived.Test.YtoobdenlgapcmaaGreatPe
set_option linter.unusedSimpArgs false
set_option linter.unusedVariables false
namespace Go.Proofs.YtoobdenlgapcmaaGreat
open Go Go.Rf Go.Proofs Go.RowKit
open Go.IntWalk (i64_in i32_in u8_in u64_in)

def okKinds (p : Int) : List Int := bif p == 1 then [0, 1, 2, 3, 4] else bif p == 2 then [0, 1, 2] else bif p == 3 then [0] else bif p == 4 then [1, 2] else []
theorem kinds_eq (K : Nat) (p : Int) : class_Kinds.f K p = some (okKinds p) := by
  unfold class_Kinds.f okKinds
  cases p == 1 <;> cases p == 2 <;> cases p == 3 <;> cases p == 4 <;> rfl
theorem kinds_len (p : Int) : (okKinds p).length ≤ 5 := by
  unfold okKinds
  cases p == 1 <;> cases p == 2 <;> cases p == 3 <;> cases p == 4 <;> simp

def isT (t : Int) : Bool := decide (-1125899906842624 ≤ t) && decide (t ≤ 1125899906842624)
theorem stamp_eq (K : Nat) (t : Int) : ∃ r, stamp_Of.f K t 0 = some r ∧ r.2 = (isT t && Int.tmod t 1000 == 0) := by
  unfold stamp_Of.f isT
  have hu : stamp_unitOf.f K 0 = some ((1000, 1), true) := by kernel_rfl
  simp only [hu, Option.bind_some, stamp_isTime.f]
  by_cases h1 : -1125899906842624 ≤ t
  · have e1 : decide (t ≥ -1125899906842624) = true := by simpa using h1
    have e1' : decide (-1125899906842624 ≤ t) = true := by simpa using h1
    simp only [e1, e1', Bool.not_true, cond_false, cond_true, Option.bind_some, Bool.true_and]
    by_cases h2 : t ≤ 1125899906842624
    · have e2 : decide (t ≤ 1125899906842624) = true := by simpa using h2
      simp only [e2, Bool.not_true, cond_false, show ((1000 : Int) != 0) = true from rfl, cond_true, Option.bind_some, Bool.true_and, show ((1 : Int) != 0) = true from rfl]
      cases h3 : (Int.tmod t 1000 == 0) with
      | true =>
        have e3 : (Int.tmod t 1000 != 0) = false := by unfold bne; rw [h3]; rfl
        have hd : -1125899906842624 ≤ Int.tdiv t 1000 ∧ Int.tdiv t 1000 ≤ 1125899906842624 := by
          have h4 : (Int.tdiv t 1000).natAbs = t.natAbs / 1000 := Int.natAbs_tdiv t 1000
          omega
        rw [e3]
        simp only [cond_false]
        rw [i64_in (Int.tdiv t 1000) (by omega)]
        have e4 : IntKind.i64.wrap (Int.tdiv 9223372036854775807 1) = 9223372036854775807 := by kernel_rfl
        have e5 : IntKind.i64.wrap (Int.tdiv (-9223372036854775808) 1) = -9223372036854775808 := by kernel_rfl
        rw [e4, e5]
        have e6 : decide (Int.tdiv t 1000 > 9223372036854775807) = false := by simp; omega
        have e7 : decide (Int.tdiv t 1000 < -9223372036854775808) = false := by simp; omega
        rw [e6, e7]
        exact ⟨_, rfl, rfl⟩
      | false =>
        have e3 : (Int.tmod t 1000 != 0) = true := by unfold bne; rw [h3]; rfl
        rw [e3]
        exact ⟨_, rfl, rfl⟩
    · have e2 : decide (t ≤ 1125899906842624) = false := by simpa using h2
      rw [e2]
      exact ⟨_, rfl, rfl⟩
  · have e1 : decide (t ≥ -1125899906842624) = false := by simpa using h1
    have e1' : decide (-1125899906842624 ≤ t) = false := by simpa using h1
    rw [e1]
    exact ⟨_, rfl, rfl⟩

def okPoint (pr : Int) (p : Pt) : Bool := p.1.all (fun x => okIs pr 1 x.1 && okVal pr x.2) &&
  (bif pr == 3 then p.2.2.2.2.2.2.2.1 && (isT p.2.2.2.2.2.2.2.2 && Int.tmod p.2.2.2.2.2.2.2.2 1000 == 0)
   else bif pr == 4 then !p.2.2.2.2.2.2.2.1 && decide (0 ≤ p.2.2.2.2.2.1) else true)

theorem isPoint_eq {K : Nat} {pr : Int} (hp : pr = 1 ∨ pr = 2 ∨ pr = 3 ∨ pr = 4) {p : Pt} (hK : p.1.length + 64 < K) (hs : p.1.length < 4611686018427387904) : class_isPoint.f K pr p = some (okPoint pr p) := by
  unfold class_isPoint.f
  rw [loop_all p.1 (fun x => okIs pr 1 x.1 && okVal pr x.2) false (by omega) (fun i x hx => ?_) (by simp)]
  · unfold okPoint
    obtain ⟨r, r1, r2⟩ := stamp_eq K p.2.2.2.2.2.2.2.2
    simp only [r1, Option.bind_some, r2]
    rw [show decide (p.2.2.2.2.2.1 ≥ 0) = decide (0 ≤ p.2.2.2.2.2.1) from rfl]
    generalize (isT p.2.2.2.2.2.2.2.2 && Int.tmod p.2.2.2.2.2.2.2.2 1000 == 0) = z
    generalize decide (0 ≤ p.2.2.2.2.2.1) = y
    cases p.1.all fun x => okIs pr 1 x.1 && okVal pr x.2 with
    | false => rfl
    | true =>
      simp only [if_true, Option.bind_some, Bool.true_and]
      cases pr == 3 <;> cases pr == 4 <;> cases p.2.2.2.2.2.2.2.1 <;> rfl
  · have hi := lt_at hx
    have e : decide ((i : Int) < (p.1.length : Int)) = true := by simpa using hi
    simp only [e, idx_nat hi, Int.toNat_natCast, get_at hx, cond_true, is_eq hp (.inr rfl) x.1 (show 64 < K by omega), classValue_eq pr x.2 (show 64 < K by omega), Option.bind_some]
    rw [step_nat (by omega)]
    cases okIs pr 1 x.1 <;> cases okVal pr x.2 <;> rfl

/-! ### Families -/
def okUnit (name unit : List UInt8) : Bool := ((List.range unit.length).all fun i => legal 1 0 (95 :: unit) (i + 1)) && (unit == [] || (decide (unit.length + 1 ≤ name.length) && name.drop (name.length - (unit.length + 1)) == 95 :: unit))

theorem isUnit_eq {K : Nat} {h : List UInt8 × Int × List UInt8 × List UInt8} (hK : h.2.2.1.length + 4 < K) (hs : h.2.2.1.length < 100000) (hn : h.1.length < 4611686018427387904) : class_isUnit.f K h = some (okUnit h.1 h.2.2.1) := by
  obtain ⟨n, rfl⟩ : ∃ n, K = n + 4 := ⟨K - 4, by omega⟩
  unfold class_isUnit.f
  have hl : decide (([95] : List UInt8).length + h.2.2.1.length ≤ LIM) = true := by
    rw [decide_eq_true_eq]
    unfold LIM
    simp only [List.length_cons, List.length_nil]
    omega
  have hc : ([95] : List UInt8) ++ h.2.2.1 = 95 :: h.2.2.1 := rfl
  rw [loop_ix h.2.2.1.length (fun i => legal 1 0 (95 :: h.2.2.1) (i + 1)) false (by omega) (fun i hi => ?_) (by simp)]
  · unfold okUnit
    cases (List.range h.2.2.1.length).all fun i => legal 1 0 (95 :: h.2.2.1) (i + 1) with
    | false => rfl
    | true =>
      simp only [if_true, Option.bind_some, Bool.true_and, hl, cond_true]
      simp only [hc, strings_HasSuffix.f, stringslite_HasSuffix.f, List.length_cons]
      cases h.2.2.1 == [] with
      | true => rfl
      | false =>
        simp only [cond_false, Bool.false_or]
        by_cases hx : h.2.2.1.length + 1 ≤ h.1.length
        · have e1 : decide ((h.1.length : Int) ≥ ((h.2.2.1.length + 1 : Nat) : Int)) = true := by rw [decide_eq_true_eq]; omega
          have e2 : (h.1.length : Int) - ((h.2.2.1.length + 1 : Nat) : Int) = ((h.1.length - (h.2.2.1.length + 1) : Nat) : Int) := by omega
          rw [e1, e2, i64_in _ (by omega)]
          have e3 : (decide (0 ≤ ((h.1.length - (h.2.2.1.length + 1) : Nat) : Int)) && decide (((h.1.length - (h.2.2.1.length + 1) : Nat) : Int) ≤ (h.1.length : Int))) = true := by
            rw [Bool.and_eq_true, decide_eq_true_eq, decide_eq_true_eq]
            omega
          rw [e3, Int.toNat_natCast]
          simp only [cond_true, Option.bind_some, hx, decide_true, Bool.true_and, List.take_length]
        · have e1 : decide ((h.1.length : Int) ≥ ((h.2.2.1.length + 1 : Nat) : Int)) = false := by rw [decide_eq_false_iff_not]; omega
          rw [e1]
          simp only [cond_false, Option.bind_some, hx, decide_false, Bool.false_and]
  · have e : decide ((i : Int) < (h.2.2.1.length : Int)) = true := by simpa using hi
    simp only [e, cond_true, hl, hc, step_nat (show i < 9000000000000000000 by omega)]
    rw [legal_eq n (.inl rfl) (.inl rfl) (by simp only [List.length_cons]; omega) (by simp only [List.length_cons]; omega)]
    simp only [Option.bind_some]
    cases legal 1 0 (95 :: h.2.2.1) (i + 1) <;> rfl

/-- May a family be printed? -/
def okF (pr : Int) (f : Fam) : Bool := (okKinds pr).contains f.2.1 && okIs pr 0 f.1 &&
  (bif pr == 1 then okUnit f.1 f.2.2.1 else f.2.2.1 == [] && f.2.2.2.1 == [] && !(f.2.2.2.2.length == 0)) && f.2.2.2.2.all (okPoint pr)

structure SmallC (K : Nat) (f : Fam) : Prop where
  name : f.1.length < 4611686018427387904
  unit : f.2.2.1.length + 4 < K ∧ f.2.2.1.length < 100000
  pts : f.2.2.2.2.length + 64 < K ∧ f.2.2.2.2.length < 4611686018427387904
  labs : ∀ p ∈ f.2.2.2.2, p.1.length + 64 < K ∧ p.1.length < 4611686018427387904

theorem isFamily_eq {K : Nat} {pr : Int} (hp : pr = 1 ∨ pr = 2 ∨ pr = 3 ∨ pr = 4) {f : Fam} (h : SmallC K f) : class_isFamily.f K pr f = some (okF pr f) := by
  have h1 := h.pts
  have h2 := kinds_len pr
  unfold class_isFamily.f
  have hu : class_isUnit.f K (f.1, f.2.1, f.2.2.1, f.2.2.2.1) = some (okUnit f.1 f.2.2.1) := isUnit_eq (h := (f.1, f.2.1, f.2.2.1, f.2.2.2.1)) h.unit.1 h.unit.2 h.name
  have e0 : ((f.2.2.2.2.length : Int) == 0) = (f.2.2.2.2.length == 0) := nat_beq _ 0
  simp only [kinds_eq, Option.bind_some, contains_eq f.2.1 (K := K) (l := okKinds pr) (by omega) (by omega), is_eq hp (.inl rfl) f.1 (show 64 < K by omega), hu, e0]
  unfold okF
  cases (okKinds pr).contains f.2.1 with
  | false => rfl
  | true =>
    cases okIs pr 0 f.1 with
    | false => rfl
    | true =>
      simp only [Bool.not_true, cond_false, Option.bind_some, Bool.true_and]
      have e1 : ((bif pr == 1 then bif !okUnit f.1 f.2.2.1 then some true else bif pr != 1 then (bif !(f.2.2.1 == []) then some true else bif !(f.2.2.2.1 == []) then some true else some (f.2.2.2.2.length == 0)) else some false
          else bif pr != 1 then (bif !(f.2.2.1 == []) then some true else bif !(f.2.2.2.1 == []) then some true else some (f.2.2.2.2.length == 0)) else some false) : Option Bool) = some (!(bif pr == 1 then okUnit f.1 f.2.2.1 else f.2.2.1 == [] && f.2.2.2.1 == [] && !(f.2.2.2.2.length == 0))) := by
        unfold bne
        cases pr == 1 <;> cases okUnit f.1 f.2.2.1 <;> cases f.2.2.1 == [] <;> cases f.2.2.2.1 == [] <;> cases f.2.2.2.2.length == 0 <;> rfl
      rw [e1]
      cases (bif pr == 1 then okUnit f.1 f.2.2.1 else f.2.2.1 == [] && f.2.2.2.1 == [] && !(f.2.2.2.2.length == 0)) with
      | false => rfl
      | true =>
        simp only [Bool.not_true, cond_false, Option.bind_some, Bool.true_and]
        refine any_bind f.2.2.2.2 (okPoint pr) (by omega) (fun i p hp' => ?_) (by simp) (fun hh => ?_) (fun i hi hh => ?_)
        · have hi := lt_at hp'
          have e : decide ((i : Int) < (f.2.2.2.2.length : Int)) = true := by simpa using hi
          have hm := h.labs p (List.mem_of_getElem? hp')
          simp only [e, idx_nat hi, Int.toNat_natCast, cond_true, getPt hp', pt_eta, isPoint_eq hp hm.1 hm.2, Option.bind_some]
          rw [step_nat (by omega)]
          cases okPoint pr p <;> rfl
        · rw [hh]
        · rw [hh]
          have e : decide (i ≥ 0) = true := by simpa using hi
          simp only [e, Bool.not_true]

/-! ### Batches -/
def whyF (pr : Int) (l : List Fam) : List UInt8 × Bool := match l.find? (fun f => !okF pr f) with | some f => (f.1, false) | none => ([], true)
def whyB (bd : Pt → Bool) (rs : List Pt → Bool) (pr : Int) (b : Bat) : List UInt8 × Bool := if decide (1 ≤ pr) && decide (pr ≤ 4) && checkB bd rs b == 0 then whyF pr b.2 else ([], false)

theorem why_eq {K : Nat} {bd : Pt → Bool} {rs : List Pt → Bool} (pr : Int) {b : Bat} (h : SmallB K bd rs b) (hc : ∀ f ∈ b.2, SmallC K f) : class_Why.f K pr b = some (whyB bd rs pr b) := by
  unfold class_Why.f whyB
  simp only [check_eq h, Option.bind_some]
  by_cases h1 : 1 ≤ pr
  · by_cases h2 : pr ≤ 4
    · have hp : pr = 1 ∨ pr = 2 ∨ pr = 3 ∨ pr = 4 := by omega
      have e1 : decide (pr < 1) = false := by simp; omega
      have e2 : decide (pr > 4) = false := by simp; omega
      have e3 : decide (1 ≤ pr) = true := by simpa using h1
      have e4 : decide (pr ≤ 4) = true := by simpa using h2
      simp only [e1, e2, e3, e4, cond_false, Option.bind_some, Bool.true_and]
      unfold bne
      cases checkB bd rs b == 0 with
      | false => rfl
      | true =>
        simp only [Bool.not_true, cond_false, if_true]
        rw [loop_row b.2 (fun f => if okF pr f then none else some (f.1, false)) h.fams.1 (fun i f hf => ?_) (by simp)]
        · have : (b.2.findSome? fun f => if okF pr f then none else some (f.1, false)) = (b.2.find? fun f => !okF pr f).map fun f => (f.1, false) := by
            generalize b.2 = l
            induction l with
            | nil => rfl
            | cons a l ih =>
              rw [List.findSome?_cons, List.find?_cons]
              cases okF pr a with
              | true => simpa using ih
              | false => rfl
          rw [this]
          unfold whyF
          cases b.2.find? fun f => !okF pr f <;> rfl
        · have hi := lt_at hf
          have hff := h.fams
          have e : decide ((i : Int) < (b.2.length : Int)) = true := by simpa using hi
          have hm := List.mem_of_getElem? hf
          simp only [e, idx_nat hi, Int.toNat_natCast, cond_true, get_at hf, fam_eta, isFamily_eq hp (hc f hm), Option.bind_some]
          rw [step_nat (by omega)]
          cases okF pr f <;> rfl
    · have e1 : decide (pr < 1) = false := by simp; omega
      have e2 : decide (pr > 4) = true := by simp; omega
      have e4 : decide (pr ≤ 4) = false := by simpa using h2
      simp only [e1, e2, e4, Bool.and_false, Bool.false_and]
      rfl
  · have e1 : decide (pr < 1) = true := by simp; omega
    have e3 : decide (1 ≤ pr) = false := by simpa using h1
    simp only [e1, e3, Bool.false_and]
    rfl

theorem isB_eq {K : Nat} {bd : Pt → Bool} {rs : List Pt → Bool} (pr : Int) {b : Bat} (h : SmallB K bd rs b) (hc : ∀ f ∈ b.2, SmallC K f) : class_Is.f K pr b = some (whyB bd rs pr b).2 := by
  unfold class_Is.f
  rw [why_eq pr h hc]
  rfl

end Go.Proofs.YtoobdenlgapcmaaGreat
