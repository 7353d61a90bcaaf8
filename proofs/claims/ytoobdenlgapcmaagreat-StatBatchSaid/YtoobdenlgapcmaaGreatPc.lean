/- What the functions of labels' values, of points and families answer, in plain Lean. -/
import Derived.Test.YtoobdenlgapcmaaGreatPb
set_option linter.unusedSimpArgs false
set_option linter.unusedVariables false
namespace Go.Proofs.YtoobdenlgapcmaaGreat
open Go Go.Rf Go.Proofs Go.RowKit
open Go.IntWalk (i64_in i32_in u8_in u64_in)

def inkByte (c : UInt8) : Bool := decide (33 ≤ c.toNat) && decide (c.toNat ≤ 126)
def okInks (v but : List UInt8) : Bool := v.all inkByte && (!(v == []) && !(v.any fun c => but.contains c))

theorem inks_eq {K : Nat} {v but : List UInt8} (hb : (but.all fun c => decide (c.toNat < 128)) = true) (hK : v.length + but.length < K) (hs : v.length < 4611686018427387904) : class_inks.f K v but = some (okInks v but) := by
  unfold class_inks.f
  rw [loop_all v inkByte false (by omega) (fun i x hx => ?_) (by simp)]
  · unfold okInks
    cases hv : v.all inkByte with
    | false => rfl
    | true =>
      have hv' : (v.all fun c => decide (c.toNat < 128)) = true := by
        rw [List.all_eq_true] at hv ⊢
        intro c hc
        have := hv c hc
        unfold inkByte at this
        rw [Bool.and_eq_true, decide_eq_true_eq, decide_eq_true_eq] at this
        rw [decide_eq_true_eq]
        omega
      simp only [if_true, Option.bind_some, Bool.true_and, hasAny_eq hv' hb hK]
      cases v == [] <;> rfl
  · have hi := lt_at hx
    have e : decide ((i : Int) < (v.length : Int)) = true := by simpa using hi
    simp only [e, idx_nat hi, Int.toNat_natCast, get_at hx, cond_true]
    rw [step_nat (by omega)]
    unfold inkByte
    by_cases h1 : x.toNat ≤ 32
    · have e1 : decide ((x.toNat : Int) ≤ 32) = true := by simpa using (by omega : (x.toNat : Int) ≤ 32)
      have e2 : decide (33 ≤ x.toNat) = false := by simpa using (by omega : ¬ 33 ≤ x.toNat)
      rw [e1, e2]
      rfl
    · have e1 : decide ((x.toNat : Int) ≤ 32) = false := by simpa using (by omega : ¬ (x.toNat : Int) ≤ 32)
      have e2 : decide (33 ≤ x.toNat) = true := by simpa using (by omega : 33 ≤ x.toNat)
      rw [e1, e2]
      by_cases h2 : x.toNat ≤ 126
      · have e3 : decide ((x.toNat : Int) > 126) = false := by simpa using (by omega : ¬ (x.toNat : Int) > 126)
        rw [e3]
        simp [h2]
      · have e3 : decide ((x.toNat : Int) > 126) = true := by simpa using (by omega : (x.toNat : Int) > 126)
        rw [e3]
        simp [h2]

theorem idx_any (v : List UInt8) (c : UInt8) : decide (idxByte v (c.toNat : Int) ≥ 0) = v.contains c := by
  unfold idxByte
  rw [Int.toNat_natCast, UInt8.ofNat_toNat]
  cases h : v.findIdx? (fun b => b == c) with
  | none =>
    rw [List.findIdx?_eq_none_iff] at h
    have : v.contains c = false := by
      rw [Bool.eq_false_iff]
      intro hc
      rw [List.contains_iff_mem] at hc
      have := h c hc
      simp at this
    rw [this]
    rfl
  | some i =>
    obtain ⟨hi, h1, _⟩ := List.findIdx?_eq_some_iff_getElem.1 h
    have : v.contains c = true := by
      rw [List.contains_iff_mem]
      have := eq_of_beq h1
      rw [← this]
      exact List.getElem_mem hi
    rw [this]
    simp

/-- A label's value, by the format. -/
def okVal (p : Int) (v : List UInt8) : Bool :=
  okValue v && (bif p == 1 then true
    else bif p == 2 then v.all plainByte && (!(v == []) && !v.contains 92)
    else bif p == 3 then okInks v [59]
    else bif p == 4 then okInks v [44, 124] else false)

theorem classValue_eq {K : Nat} (p : Int) (v : List UInt8) (hK : 64 < K) : class_Value.f K p v = some (okVal p v) := by
  unfold class_Value.f okVal
  rw [labelValue_eq hK]
  cases hv : okValue v with
  | false => rfl
  | true =>
    have hl : v.length ≤ 60 := by
      unfold okValue at hv
      rw [Bool.and_eq_true, decide_eq_true_eq] at hv
      exact hv.1
    simp only [Option.bind_some, Bool.not_true, cond_false, Bool.true_and]
    cases h1 : p == 1 with
    | true => rfl
    | false =>
      simp only [cond_false]
      cases h2 : p == 2 with
      | true =>
        simp only [cond_true]
        rw [loop_all v plainByte false (by omega) (fun i x hx => ?_) (by simp)]
        · cases v.all plainByte with
          | false => rfl
          | true =>
            simp only [if_true, Option.bind_some, Bool.true_and]
            cases hn : v == [] with
            | true => rfl
            | false =>
              simp only [Bool.not_false, cond_true, Bool.true_and, stringslite_IndexByte.f, Option.bind_some]
              have := idx_any v 92
              cases h92 : ([92] : List UInt8) == v with
              | true =>
                have hh : ([92] : List UInt8) = v := eq_of_beq h92
                subst hh
                rfl
              | false =>
                simp only [cond_false]
                rw [← this]
                rfl
        · have hi := lt_at hx
          have e : decide ((i : Int) < (v.length : Int)) = true := by simpa using hi
          simp only [e, idx_nat hi, Int.toNat_natCast, get_at hx, cond_true]
          rw [step_nat (by omega)]
          unfold plainByte
          by_cases h1 : x.toNat < 32
          · have e1 : decide ((x.toNat : Int) < 32) = true := by simpa using (by omega : (x.toNat : Int) < 32)
            rw [e1]
            simp [h1]
          · have e1 : decide ((x.toNat : Int) < 32) = false := by simpa using (by omega : ¬ (x.toNat : Int) < 32)
            rw [e1]
            by_cases h2 : x.toNat = 127
            · simp [h2]
            · have e2 : ((x.toNat : Int) == 127) = false := by simpa using (by omega : ¬ (x.toNat : Int) = 127)
              rw [e2]
              simp [h1, h2]
      | false =>
        simp only [cond_false]
        rw [inks_eq (by rfl) (by simp only [List.length_cons, List.length_nil]; omega) (by omega), inks_eq (by rfl) (by simp only [List.length_cons, List.length_nil]; omega) (by omega)]
        cases p == 3 <;> cases p == 4 <;> rfl

end Go.Proofs.YtoobdenlgapcmaaGreat
