/- What the reference's functions of names and classes answer: the same. -/
import Derived.Test.YtekeaempemiciaaGreatDoorPo
set_option linter.unusedSimpArgs false
set_option linter.unusedVariables false
namespace Go.Proofs.YtekeaempemiciaaGreatDoor
open Go Go.Rf Go.Proofs Go.RowKit
open Go.IntWalk (i64_in i32_in u8_in u64_in)

def isDig (c : UInt8) : Bool := decide (48 ≤ c.toNat) && decide (c.toNat ≤ 57)
theorem rletter_eq (K : Nat) (c : UInt8) : polyglotref12_letter.f K (c.toNat : Int) = some (isLet c false) := by
  have := byte_all (p := fun c => polyglotref12_letter.f K (c.toNat : Int) == some (isLet c false)) (by kernel_rfl) c
  simpa using this
theorem rdigit_eq (K : Nat) (c : UInt8) : polyglotref12_digit.f K (c.toNat : Int) = some (isDig c) := by
  have := byte_all (p := fun c => polyglotref12_digit.f K (c.toNat : Int) == some (isDig c)) (by kernel_rfl) c
  simpa using this
theorem isLet_dig (c : UInt8) (d : Bool) : isLet c d = (isLet c false || (d && isDig c)) := by
  have := byte_all (p := fun c => [true, false].all fun d => isLet c d == (isLet c false || (d && isDig c))) (by kernel_rfl) c
  simp only [List.all_cons, List.all_nil, Bool.and_true, Bool.and_eq_true, beq_iff_eq] at this
  cases d
  · exact this.2
  · exact this.1
theorem dot_no (c : UInt8) (h : (c.toNat == 46) = true) : isLet c true = false ∧ (c.toNat == 95) = false ∧ (c.toNat == 45) = false ∧ (c.toNat == 58) = false := by
  have := byte_all (p := fun c => !(c.toNat == 46) || (!isLet c true && !(c.toNat == 95) && !(c.toNat == 45) && !(c.toNat == 58))) (by kernel_rfl) c
  rw [h] at this
  simpa [Bool.and_eq_true, and_assoc] using this
theorem hash_in (c : UInt8) (h : (c.toNat == 35) = true) : decide (32 ≤ c.toNat) = true ∧ decide (c.toNat ≤ 126) = true ∧ (c.toNat == 92) = false := by
  have := byte_all (p := fun c => !(c.toNat == 35) || (decide (32 ≤ c.toNat) && decide (c.toNat ≤ 126) && !(c.toNat == 92))) (by kernel_rfl) c
  rw [h] at this
  simpa [Bool.and_eq_true, and_assoc] using this

theorem rlegal_eq (K : Nat) {p w : Int} (hp : p = 1 ∨ p = 2 ∨ p = 3 ∨ p = 4) (hw : w = 0 ∨ w = 1) {s : List UInt8} {i : Nat} (h : i < s.length) (hs : s.length < 4611686018427387904) : polyglotref12_Legal.f K p w s (i : Int) = some (legal p w s i) := by
  have e1 : decide ((i : Int) < 0) = false := by simp
  have e2 : decide ((i : Int) ≥ (s.length : Int)) = false := by simpa using h
  have e3 : (bif w != 0 then bif w != 1 then some (.inr false) else some (.inl ()) else some (.inl ()) : Option (Unit ⊕ Bool)) = some (.inl ()) := by rcases hw with rfl | rfl <;> rfl
  have h5 : decide ((i : Int) > 0) = decide (0 < i) := by rw [decide_eq_decide]; omega
  have ewz : (w == 1) = !(w == 0) := by rcases hw with rfl | rfl <;> rfl
  have n95 : ∀ c : UInt8, ((c.toNat : Int) == 95) = (c.toNat == 95) := fun c => nat_beq _ 95
  have n58 : ∀ c : UInt8, ((c.toNat : Int) == 58) = (c.toNat == 58) := fun c => nat_beq _ 58
  have n45 : ∀ c : UInt8, ((c.toNat : Int) == 45) = (c.toNat == 45) := fun c => nat_beq _ 45
  have n46 : ∀ c : UInt8, ((c.toNat : Int) == 46) = (c.toNat == 46) := fun c => nat_beq _ 46
  have n35 : ∀ c : UInt8, ((c.toNat : Int) == 35) = (c.toNat == 35) := fun c => nat_beq _ 35
  have n92 : ∀ c : UInt8, ((c.toNat : Int) != 92) = !(c.toNat == 92) := fun c => nat_bne _ 92
  unfold polyglotref12_Legal.f
  rw [Int.toNat_natCast]
  simp only [e1, e2, cond_false, e3, Option.bind_some, idx_nat h, cond_true, Int.toNat_natCast, h5, rletter_eq, rdigit_eq, n95, n58, n45, n46, n35, n92]
  unfold legal legalC
  rcases hp with rfl | rfl | rfl | rfl
  · simp only [beq_self_eq_true, cond_true, Option.bind_some]
    rw [isLet_dig _ (decide (0 < i))]
    generalize s.getD i 0 = c
    cases isLet c false <;> cases isDig c <;> cases (c.toNat == 95) <;> cases (c.toNat == 58) <;> cases (w == 0) <;> cases decide (0 < i) <;> rfl
  · simp only [show ((2 : Int) == 1) = false from rfl, show ((2 : Int) == 2) = true from rfl, cond_true, cond_false]
    have h6 : ((i : Int) == 0) = !decide (0 < i) := (nat_beq i 0).trans (by cases i <;> simp)
    rw [h6, ewz]
    generalize s.getD i 0 = c
    have h1 : decide ((c.toNat : Int) ≥ 32) = decide (32 ≤ c.toNat) := by rw [decide_eq_decide]; omega
    have h2 : decide ((c.toNat : Int) ≤ 126) = decide (c.toNat ≤ 126) := by rw [decide_eq_decide]; omega
    rw [h1, h2]
    cases decide (32 ≤ c.toNat) <;> cases decide (c.toNat ≤ 126) <;> cases (c.toNat == 92) <;> cases (c.toNat == 35) <;> cases decide (0 < i) <;> cases (w == 0) <;> rfl
  · simp only [show ((3 : Int) == 1) = false from rfl, show ((3 : Int) == 2) = false from rfl, show ((3 : Int) == 3) = true from rfl, cond_true, cond_false, Option.bind_some]
    rw [isLet_dig _ true]
    have hdot : (bif w == 0 then bif decide (0 < i) then bif decide ((i : Int) < IntKind.i64.wrap ((s.length : Int) - 1)) then bif idx (IntKind.i64.wrap ((i : Int) - 1)) s.length then some (((s.getD (IntKind.i64.wrap ((i : Int) - 1)).toNat 0).toNat : Int) != 46) else none else some false else some false else some false) = some (w == 0 && dotAt s i) := by
      have := point_eq K h hs
      unfold charset_point.f at this
      rw [h5] at this
      rw [this]
      cases w == 0 <;> rfl
    rw [hdot]
    have hno := dot_no (s.getD i 0)
    rw [isLet_dig _ true] at hno
    generalize s.getD i 0 = c at hno ⊢
    generalize dotAt s i = y
    cases h46 : (c.toNat == 46) with
    | true =>
      obtain ⟨q1, q2, q3, q4⟩ := hno h46
      rw [Bool.or_eq_false_iff] at q1
      rw [q1.1, q2, q3, q4]
      rw [Bool.true_and] at q1
      rw [q1.2]
      cases (w == 0) <;> cases y <;> rfl
    | false => cases isLet c false <;> cases isDig c <;> cases (c.toNat == 95) <;> cases (c.toNat == 45) <;> cases (c.toNat == 58) <;> rfl
  · simp only [show ((4 : Int) == 1) = false from rfl, show ((4 : Int) == 2) = false from rfl, show ((4 : Int) == 3) = false from rfl, show ((4 : Int) == 4) = true from rfl, cond_true, cond_false, Option.bind_some]
    rw [isLet_dig _ true]
    generalize s.getD i 0 = c
    cases isLet c false <;> cases isDig c <;> cases (c.toNat == 95) <;> cases (c.toNat == 45) <;> cases (c.toNat == 46) <;> rfl

theorem rbadn_eq {K : Nat} {p w : Int} (hp : p = 1 ∨ p = 2 ∨ p = 3 ∨ p = 4) (hw : w = 0 ∨ w = 1) {s : List UInt8} (hK : s.length + 4 < K) (hs : s.length < 4611686018427387904) :
    ∃ t, polyglotref12_Bad.f K p w s = some t ∧ decide (t < 0) = okChars p w s := by
  unfold polyglotref12_Bad.f
  have h0 := fun g hg hn => loop_from (K := K) (g := g) (n := s.length) (R := Int) (fun i => if legal p w s i then none else some ((i : Nat) : Int)) hg hn s.length 0 (by omega) (by omega)
  simp only [Int.natCast_zero] at h0
  rw [h0 _ (fun i hi => ?_) (by simp)]
  · rw [findSome_find]
    unfold okChars
    rw [← List.range_eq_range']
    cases hf : (List.range s.length).find? fun i => !legal p w s i with
    | none =>
      rw [List.find?_eq_none] at hf
      refine ⟨_, rfl, ?_⟩
      rw [List.all_eq_true.2 fun i hi => by simpa using hf i hi]
      rfl
    | some i =>
      have h1 := List.find?_some hf
      have h2 := List.mem_of_find?_eq_some hf
      refine ⟨_, rfl, ?_⟩
      have : (List.range s.length).all (legal p w s) = false := by
        rw [List.all_eq_false]
        exact ⟨i, h2, by simpa using h1⟩
      rw [this]
      simp
  · have e : decide ((i : Int) < (s.length : Int)) = true := by simpa using hi
    simp only [e, cond_true, rlegal_eq K hp hw hi hs, Option.bind_some]
    rw [step_nat (by omega)]
    cases legal p w s i <;> rfl

theorem len1 (s : List UInt8) : decide ((s.length : Int) ≥ 1) = !(s == []) := by
  cases s with
  | nil => rfl
  | cons a l =>
    have : (a :: l == []) = false := rfl
    rw [this, Bool.not_false, decide_eq_true_eq]
    simp only [List.length_cons]
    omega

theorem ris_eq {K : Nat} {p w : Int} (hp : p = 1 ∨ p = 2 ∨ p = 3 ∨ p = 4) (hw : w = 0 ∨ w = 1) (s : List UInt8) (hK : 64 < K) : polyglotref12_Is.f K p w s = some (okIs p w s) := by
  unfold polyglotref12_Is.f okIs
  rw [len1]
  have e1 : decide (p ≥ 1) = true := by rw [decide_eq_true_eq]; omega
  have e2 : decide (p ≤ 4) = true := by rw [decide_eq_true_eq]; omega
  rw [e1, e2]
  cases s == [] with
  | true => rfl
  | false =>
    by_cases h : s.length ≤ 60
    · obtain ⟨t, h1, h2⟩ := rbadn_eq (K := K) hp hw (s := s) (by omega) (by omega)
      have e : decide ((s.length : Int) ≤ 60) = true := by simpa using (by omega : (s.length : Int) ≤ 60)
      simp only [e, h1, h, Bool.not_false, cond_true, Option.bind_some, h2, decide_true, Bool.true_and]
      rcases hw with rfl | rfl <;> rfl
    · have e : decide ((s.length : Int) ≤ 60) = false := by simpa using (by omega : ¬ (s.length : Int) ≤ 60)
      simp only [e, h, Bool.not_false, cond_true, cond_false, decide_false, Bool.true_and, Bool.false_and]

/-! ### Labels' values -/
def valByte (p : Int) (c : UInt8) : Bool :=
  bif p == 2 then plainByte c && !(c.toNat == 92) else inkByte c && !(bif p == 3 then c.toNat == 59 else (bif p == 4 then c.toNat == 44 || c.toNat == 124 else false))

theorem risProto_eq (K : Nat) (p : Int) : polyglotref12_IsProto.f K p = some (decide (1 ≤ p) && decide (p ≤ 4)) := by
  unfold polyglotref12_IsProto.f
  rw [show decide (p ≥ 1) = decide (1 ≤ p) from rfl]
  cases decide (1 ≤ p) <;> rfl

theorem rval_form (p : Int) (hp : p = 2 ∨ p = 3 ∨ p = 4) (v : List UInt8) : okVal p v = (!(v == []) && decide (v.length ≤ 60) && v.all (valByte p) && utf8 v) := by
  have hall : ∀ (q1 q2 : UInt8 → Bool), (v.all fun c => q1 c && !q2 c) = (v.all q1 && !v.any q2) := by
    intro q1 q2
    induction v with
    | nil => rfl
    | cons a l ih =>
      rw [List.all_cons, List.all_cons, List.any_cons, ih]
      cases q1 a <;> cases q2 a <;> cases l.all q1 <;> cases l.any q2 <;> rfl
  have hc : ∀ x : UInt8, v.contains x = v.any fun c => c == x := by
    intro x
    rw [Bool.eq_iff_iff, List.contains_iff_mem, List.any_eq_true]
    constructor
    · intro h; exact ⟨x, h, beq_self_eq_true x⟩
    · rintro ⟨y, h1, h2⟩
      rw [eq_of_beq h2] at h1
      exact h1
  have hb : ∀ (c : UInt8) (n : UInt8), (c == n) = (c.toNat == n.toNat) := by
    intro c n
    rw [Bool.eq_iff_iff, beq_iff_eq, beq_iff_eq]
    exact UInt8.toNat_inj.symm
  unfold okVal okValue okInks
  rcases hp with rfl | rfl | rfl
  · have : (v.all (valByte 2)) = (v.all plainByte && !v.contains 92) := by
      rw [hc, ← hall]
      congr 1
      funext c
      show (plainByte c && !(c.toNat == 92)) = _
      rw [hb c 92]
      rfl
    rw [this]
    simp only [show ((2 : Int) == 1) = false from rfl, show ((2 : Int) == 2) = true from rfl, cond_true, cond_false]
    cases v == [] <;> cases decide (v.length ≤ 60) <;> cases utf8 v <;> cases v.all plainByte <;> cases v.contains 92 <;> rfl
  · have : (v.all (valByte 3)) = (v.all inkByte && !(v.any fun c => ([59] : List UInt8).contains c)) := by
      rw [← hall]
      congr 1
      funext c
      show (inkByte c && !(c.toNat == 59)) = _
      congr 2
      have := byte_all (p := fun c => (c.toNat == 59) == ([59] : List UInt8).contains c) (by kernel_rfl) c
      simpa using this
    rw [this]
    simp only [show ((3 : Int) == 1) = false from rfl, show ((3 : Int) == 2) = false from rfl, show ((3 : Int) == 3) = true from rfl, cond_true, cond_false]
    cases v == [] <;> cases decide (v.length ≤ 60) <;> cases utf8 v <;> cases v.all inkByte <;> cases (v.any fun c => ([59] : List UInt8).contains c) <;> rfl
  · have : (v.all (valByte 4)) = (v.all inkByte && !(v.any fun c => ([44, 124] : List UInt8).contains c)) := by
      rw [← hall]
      congr 1
      funext c
      show (inkByte c && !(c.toNat == 44 || c.toNat == 124)) = _
      congr 2
      have := byte_all (p := fun c => (c.toNat == 44 || c.toNat == 124) == ([44, 124] : List UInt8).contains c) (by kernel_rfl) c
      simpa using this
    rw [this]
    simp only [show ((4 : Int) == 1) = false from rfl, show ((4 : Int) == 2) = false from rfl, show ((4 : Int) == 3) = false from rfl, show ((4 : Int) == 4) = true from rfl, cond_true, cond_false]
    cases v == [] <;> cases decide (v.length ≤ 60) <;> cases utf8 v <;> cases v.all inkByte <;> cases (v.any fun c => ([44, 124] : List UInt8).contains c) <;> rfl

theorem rclassValue_eq {K : Nat} (p : Int) (v : List UInt8) (hK : 64 < K) : polyglotref12_Value.f K p v = some (okVal p v) := by
  unfold polyglotref12_Value.f
  simp only [rvalue_eq hK, risProto_eq, Option.bind_some]
  by_cases h1 : p = 1
  · subst h1
    show some (okValue v) = _
    unfold okVal
    simp
  · have e1 : (p == 1) = false := by simpa using h1
    rw [e1]
    simp only [cond_false]
    by_cases hp : p = 2 ∨ p = 3 ∨ p = 4
    · have e2 : (decide (1 ≤ p) && decide (p ≤ 4)) = true := by rw [Bool.and_eq_true, decide_eq_true_eq, decide_eq_true_eq]; omega
      have e3 : decide ((v.length : Int) < 1) = (v == []) := by
        have := len1 v
        have e : decide ((v.length : Int) < 1) = !decide ((v.length : Int) ≥ 1) := by rw [← decide_not, decide_eq_decide]; omega
        rw [e, this, Bool.not_not]
      have e4 : decide ((v.length : Int) > 60) = !decide (v.length ≤ 60) := gt_not _ 60
      rw [rval_form p hp v, e2, e3, e4]
      simp only [Bool.not_true, cond_false]
      cases hn : v == [] with
      | true => rfl
      | false =>
        by_cases hl : v.length ≤ 60
        · have dl : decide (v.length ≤ 60) = true := by simpa using hl
          rw [dl]
          simp only [Bool.not_true, Bool.not_false, cond_false, Option.bind_some, Bool.true_and]
          rw [loop_all v (valByte p) false (by omega) (fun i x hx => ?_) (by simp)]
          · obtain ⟨t, t1, t2⟩ := rbad_eq (K := K) (s := v) (by omega) (by omega)
            rw [t1]
            cases v.all (valByte p) with
            | false => rfl
            | true =>
              simp only [if_true, Option.bind_some, t2, Bool.true_and]
          · have hi := lt_at hx
            have e : decide ((i : Int) < (v.length : Int)) = true := by simpa using hi
            simp only [e, idx_nat hi, Int.toNat_natCast, get_at hx, cond_true]
            rw [step_nat (by omega)]
            have a1 : decide ((x.toNat : Int) < 32) = decide (x.toNat < 32) := by rw [decide_eq_decide]; omega
            have a2 : ((x.toNat : Int) == 127) = (x.toNat == 127) := nat_beq _ 127
            have a3 : ((x.toNat : Int) == 92) = (x.toNat == 92) := nat_beq _ 92
            have a4 : decide ((x.toNat : Int) < 33) = !decide (33 ≤ x.toNat) := by rw [← decide_not, decide_eq_decide]; omega
            have a5 : decide ((x.toNat : Int) > 126) = !decide (x.toNat ≤ 126) := gt_not _ 126
            have a6 : ((x.toNat : Int) == 59) = (x.toNat == 59) := nat_beq _ 59
            have a7 : ((x.toNat : Int) == 44) = (x.toNat == 44) := nat_beq _ 44
            have a8 : ((x.toNat : Int) == 124) = (x.toNat == 124) := nat_beq _ 124
            rw [a1, a2, a3, a4, a5, a6, a7, a8]
            unfold valByte plainByte inkByte bne
            rcases hp with rfl | rfl | rfl
            · simp only [show ((2 : Int) == 2) = true from rfl, show ((2 : Int) == 3) = false from rfl, show ((2 : Int) == 4) = false from rfl, cond_true, cond_false]
              cases decide (x.toNat < 32) <;> cases (x.toNat == 127) <;> cases (x.toNat == 92) <;> rfl
            · simp only [show ((3 : Int) == 2) = false from rfl, show ((3 : Int) == 3) = true from rfl, show ((3 : Int) == 4) = false from rfl, cond_true, cond_false]
              cases decide (33 ≤ x.toNat) <;> cases decide (x.toNat ≤ 126) <;> cases (x.toNat == 59) <;> rfl
            · simp only [show ((4 : Int) == 2) = false from rfl, show ((4 : Int) == 3) = false from rfl, show ((4 : Int) == 4) = true from rfl, cond_true, cond_false]
              cases decide (33 ≤ x.toNat) <;> cases decide (x.toNat ≤ 126) <;> cases (x.toNat == 44) <;> cases (x.toNat == 124) <;> rfl
        · have dl : decide (v.length ≤ 60) = false := by simpa using hl
          rw [dl]
          simp
    · have e2 : (decide (1 ≤ p) && decide (p ≤ 4)) = false := by
        rw [Bool.eq_false_iff]
        intro h
        rw [Bool.and_eq_true, decide_eq_true_eq, decide_eq_true_eq] at h
        omega
      have q2 : (p == 2) = false := by simpa using (by omega : ¬ p = 2)
      have q3 : (p == 3) = false := by simpa using (by omega : ¬ p = 3)
      have q4 : (p == 4) = false := by simpa using (by omega : ¬ p = 4)
      rw [e2]
      unfold okVal
      rw [e1, q2, q3, q4]
      simp

end Go.Proofs.YtekeaempemiciaaGreatDoor
