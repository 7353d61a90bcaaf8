/- How the reference compares decimals. -/
import Derived.Test.YtekeaempemiciaaGreatDoorPh
set_option linter.unusedSimpArgs false
set_option linter.unusedVariables false
namespace Go.Proofs.YtekeaempemiciaaGreatDoor
open Go Go.Rf Go.Proofs Go.RowKit
open Go.IntWalk (i64_in i32_in u8_in u64_in)

/-! ### Digits -/
def dval : List Int → Int
  | [] => 0
  | d :: l => d * 10 ^ l.length + dval l
def dig (l : List Int) : Prop := ∀ d ∈ l, 0 ≤ d ∧ d ≤ 9
def lead (l : List Int) : Prop := ∀ d r, l = d :: r → 1 ≤ d

theorem dval_in : ∀ {l : List Int}, dig l → 0 ≤ dval l ∧ dval l < 10 ^ l.length
  | [], _ => by simp [dval]
  | d :: l, h => by
    have h1 := dval_in (l := l) fun x hx => h x (List.mem_cons_of_mem _ hx)
    have h2 := h d (List.mem_cons_self ..)
    have hp : (0 : Int) < 10 ^ l.length := Int.pow_pos (by decide)
    simp only [dval, List.length_cons, Int.pow_succ]
    generalize (10 : Int) ^ l.length = p at h1 hp ⊢
    have h3 : 0 ≤ d * p := Int.mul_nonneg h2.1 (by omega)
    have h4 : d * p ≤ 9 * p := Int.mul_le_mul_of_nonneg_right h2.2 (by omega)
    omega

theorem dval_lead {d : Int} {l : List Int} (h : dig (d :: l)) (hl : 1 ≤ d) : (10 : Int) ^ l.length ≤ dval (d :: l) := by
  have h1 := dval_in (l := l) fun x hx => h x (List.mem_cons_of_mem _ hx)
  have hp : (0 : Int) < 10 ^ l.length := Int.pow_pos (by decide)
  simp only [dval]
  generalize (10 : Int) ^ l.length = p at h1 hp ⊢
  have h4 : 1 * p ≤ d * p := Int.mul_le_mul_of_nonneg_right hl (by omega)
  omega

theorem dval_append (a b : List Int) : dval (a ++ b) = dval a * 10 ^ b.length + dval b := by
  induction a with
  | nil => simp [dval]
  | cons d a ih =>
    simp only [List.cons_append, dval, ih, List.length_append, Int.pow_add]
    rw [Int.add_mul, Int.mul_assoc, Int.add_assoc]
theorem dval_zeros : ∀ n, dval (List.replicate n 0) = 0
  | 0 => rfl
  | n + 1 => by rw [List.replicate_succ, dval, dval_zeros n]; simp

theorem pow_mono {a b : Nat} (h : a ≤ b) : (10 : Int) ^ a ≤ 10 ^ b := by
  obtain ⟨k, rfl⟩ : ∃ k, b = a + k := ⟨b - a, by omega⟩
  rw [Int.pow_add]
  have h1 : (0 : Int) < 10 ^ a := Int.pow_pos (by decide)
  have h2 : (0 : Int) < 10 ^ k := Int.pow_pos (by decide)
  have : (10 : Int) ^ a * 1 ≤ 10 ^ a * 10 ^ k := Int.mul_le_mul_of_nonneg_left (by omega) (by omega)
  omega

theorem len_lt {a b : List Int} (ha : dig a) (hb : dig b) (lb : lead b) (h : a.length < b.length) : dval a < dval b := by
  cases b with
  | nil => simp at h
  | cons d r =>
    have h1 := (dval_in ha).2
    have h2 := dval_lead hb (lb d r rfl)
    simp only [List.length_cons] at h
    have h3 := pow_mono (a := a.length) (b := r.length) (by omega)
    omega

/-- Digits, as many in both: the first that differ tell. -/
theorem lex_eq : ∀ {a b : List Int}, dig a → dig b → a.length = b.length →
    ((a.zip b).findSome? fun x => if x.1 < x.2 then some (-1 : Int) else if x.1 > x.2 then some 1 else none).getD 0 = cmpI (dval a) (dval b)
  | [], [], _, _, _ => rfl
  | [], _ :: _, _, _, h => by simp at h
  | _ :: _, [], _, _, h => by simp at h
  | x :: a, y :: b, ha, hb, h => by
    simp only [List.length_cons, Nat.add_right_cancel_iff] at h
    have da : dig a := fun z hz => ha z (List.mem_cons_of_mem _ hz)
    have db : dig b := fun z hz => hb z (List.mem_cons_of_mem _ hz)
    have ih := lex_eq da db h
    have h1 := dval_in da
    have h2 := dval_in db
    have hp : (0 : Int) < 10 ^ a.length := Int.pow_pos (by decide)
    rw [List.zip_cons_cons, List.findSome?_cons]
    simp only [dval]
    rw [← h] at h2 ⊢
    generalize (10 : Int) ^ a.length = p at h1 h2 hp ⊢
    by_cases hlt : x < y
    · have : (x + 1) * p ≤ y * p := Int.mul_le_mul_of_nonneg_right (by omega) (by omega)
      rw [Int.add_mul] at this
      simp only [hlt, if_true, Option.getD_some]
      unfold cmpI
      rw [if_pos (by omega)]
    · by_cases hgt : x > y
      · have : (y + 1) * p ≤ x * p := Int.mul_le_mul_of_nonneg_right (by omega) (by omega)
        rw [Int.add_mul] at this
        simp only [hlt, hgt, if_true, if_false, Option.getD_some]
        unfold cmpI
        rw [if_neg (by omega), if_pos (by omega)]
      · have : x = y := by omega
        subst this
        simp only [hlt, if_false]
        rw [ih]
        unfold cmpI
        have e1 : x * p + dval a < x * p + dval b ↔ dval a < dval b := by omega
        have e2 : x * p + dval a > x * p + dval b ↔ dval a > dval b := by omega
        simp only [e1, e2]

theorem rcompare_eq {K : Nat} {a b : List Int} (ha : dig a) (hb : dig b) (la : lead a) (lb : lead b) (hK : a.length < K) (hs : a.length < 4611686018427387904) (hs' : b.length < 4611686018427387904) : polyglotref1_compare.f K a b = some (cmpI (dval a) (dval b)) := by
  unfold polyglotref1_compare.f
  by_cases h : a.length = b.length
  · have e : ((a.length : Int) != (b.length : Int)) = false := by rw [nat_bne, h]; simp
    rw [e]
    simp only [cond_false]
    have hz : (a.zip b).length = a.length := by rw [List.length_zip, h]; simp
    rw [loop_row (a.zip b) (fun x => if x.1 < x.2 then some (-1 : Int) else if x.1 > x.2 then some 1 else none) (by omega) (fun i x hx => ?_) ?_]
    · rw [← lex_eq ha hb h]
      cases (a.zip b).findSome? fun x => if x.1 < x.2 then some (-1 : Int) else if x.1 > x.2 then some 1 else none <;> rfl
    · simp [hz]
    · have hi := lt_at hx
      rw [hz] at hi
      have hb' : i < b.length := by omega
      have e1 : decide ((i : Int) < (a.length : Int)) = true := by simpa using hi
      have hx' : x = (a[i], b[i]) := by
        rw [List.getElem?_eq_getElem (by omega), List.getElem_zip] at hx
        simpa using hx.symm
      subst hx'
      have ga : a.getD i 0 = a[i] := by rw [List.getD_eq_getElem?_getD, List.getElem?_eq_getElem hi]; rfl
      have gb : b.getD i 0 = b[i] := by rw [List.getD_eq_getElem?_getD, List.getElem?_eq_getElem hb']; rfl
      simp only [e1, idx_nat hi, idx_nat hb', Int.toNat_natCast, cond_true, ga, gb]
      rw [step_nat (by omega)]
      by_cases h1 : a[i] < b[i]
      · simp [h1]
      · by_cases h2 : a[i] > b[i]
        · simp [h1, h2]
        · simp [h1, h2]
  · have e : ((a.length : Int) != (b.length : Int)) = true := by rw [nat_bne]; simpa using h
    rw [e]
    simp only [cond_true]
    by_cases h1 : a.length < b.length
    · have e1 : decide ((a.length : Int) < (b.length : Int)) = true := by simpa using h1
      have := len_lt ha hb lb h1
      rw [e1]
      unfold cmpI
      rw [if_pos this]
      rfl
    · have e1 : decide ((a.length : Int) < (b.length : Int)) = false := by simpa using h1
      have := len_lt hb ha la (by omega)
      rw [e1]
      unfold cmpI
      rw [if_neg (by omega), if_pos (by omega)]
      rfl

theorem digits_eq {K : Nat} (hK : 40 < K) {n : Int} (hn : 0 ≤ n ∧ n < 18446744073709551616) : ∃ l, polyglotref1_digits.f K n = some l ∧ dig l ∧ lead l ∧ dval l = n ∧ l.length ≤ 20 := by
  unfold polyglotref1_digits.f
  have lim : ∀ k, (10 : Int) ^ k ≤ n → k ≤ 19 := by
    intro k hk
    by_cases h : k ≤ 19
    · exact h
    · have := pow_mono (a := 20) (b := k) (by omega)
      have h20 : (10 : Int) ^ 20 = 100000000000000000000 := by decide
      omega
  refine bind_loop2 (fun s => 0 ≤ s.1 ∧ s.1 < 18446744073709551616 ∧ s.1 * 10 ^ s.2.length + dval s.2 = n ∧ dig s.2 ∧ (s.1 = 0 → lead s.2) ∧ s.2.length ≤ 20) (fun s => 20 - s.2.length) (fun l => dig l ∧ lead l ∧ dval l = n ∧ l.length ≤ 20) ?_
    ⟨hn.1, hn.2, by simp [dval], by intro d hd; simp at hd, fun _ d r h => by simp at h, by simp⟩ (by simp only [List.length_nil]; omega) ?_
  · rintro ⟨m, l⟩ ⟨h1, h2, h3, h4, h5, h6⟩
    simp only [] at h1 h2 h3 h4 h5 h6 ⊢
    by_cases hm : m > 0
    · have e : decide (m > 0) = true := by simpa using hm
      have hd := dval_in h4
      have hp : (0 : Int) < 10 ^ l.length := Int.pow_pos (by decide)
      have hl : l.length ≤ 19 := by
        refine lim l.length ?_
        have : 1 * (10 : Int) ^ l.length ≤ m * 10 ^ l.length := Int.mul_le_mul_of_nonneg_right (by omega) (by omega)
        omega
      have t1 : Int.tmod m 10 = m % 10 := Int.tmod_eq_emod_of_nonneg h1
      have t2 : Int.tdiv m 10 = m / 10 := Int.tdiv_eq_ediv_of_nonneg h1
      have e2 : decide ((([IntKind.u8.wrap (Int.tmod m 10)] : List Int).length + l.length) * 1 ≤ LIM) = true := by
        rw [decide_eq_true_eq]
        unfold LIM
        simp only [List.length_cons, List.length_nil]
        omega
      rw [e, e2, t1, t2, u8_in (m % 10) (by omega), u64_in (m / 10) (by omega)]
      refine ⟨_, rfl, ⟨by simp only []; omega, by simp only []; omega, ?_, ?_, ?_, ?_⟩, ?_⟩
      · show m / 10 * 10 ^ (m % 10 :: l).length + dval (m % 10 :: l) = n
        simp only [List.length_cons, Int.pow_succ, dval]
        generalize (10 : Int) ^ l.length = p at h3 hp ⊢
        have h7 : m / 10 * (p * 10) = m / 10 * 10 * p := by rw [Int.mul_assoc, Int.mul_comm p 10, ]
        have h8 : m / 10 * 10 * p + m % 10 * p = m * p := by rw [← Int.add_mul]; congr 1; omega
        omega
      · intro d hd
        have hd' : d ∈ m % 10 :: l := hd
        rcases List.mem_cons.1 hd' with rfl | hd'
        · omega
        · exact h4 d hd'
      · intro h0 d r hr
        have h0' : m / 10 = 0 := h0
        have hr' : m % 10 :: l = d :: r := hr
        simp only [List.cons.injEq] at hr'
        omega
      · show (m % 10 :: l).length ≤ 20
        simp only [List.length_cons]
        omega
      · show 20 - (m % 10 :: l).length < 20 - l.length
        simp only [List.length_cons]
        omega
    · have e : decide (m > 0) = false := by simpa using hm
      have : m = 0 := by omega
      subst this
      rw [e]
      refine ⟨_, rfl, h4, h5 rfl, ?_, h6⟩
      simpa using h3
  · rintro l hQ
    exact ⟨_, rfl, hQ⟩

theorem amount_eq {K : Nat} (hK : 40 < K) {m : Int} (hm : -9223372036854775808 < m ∧ m ≤ 9223372036854775807) : ∃ l, polyglotref1_amount.f K m = some l ∧ dig l ∧ lead l ∧ dval l = (m.natAbs : Int) ∧ l.length ≤ 20 := by
  unfold polyglotref1_amount.f
  by_cases h : m < 0
  · have e : decide (m < 0) = true := by simpa using h
    rw [e, i64_in (m + 1) (by omega), i64_in (0 - (m + 1)) (by omega), u64_in (0 - (m + 1)) (by omega), u64_in (0 - (m + 1) + 1) (by omega)]
    obtain ⟨l, h1, h2⟩ := digits_eq hK (n := 0 - (m + 1) + 1) (by omega)
    rw [h1]
    refine ⟨l, rfl, h2.1, h2.2.1, ?_, h2.2.2.2⟩
    rw [h2.2.2.1]
    omega
  · have e : decide (m < 0) = false := by simpa using h
    rw [e, u64_in m (by omega)]
    obtain ⟨l, h1, h2⟩ := digits_eq hK (n := m) (by omega)
    rw [h1]
    refine ⟨l, rfl, h2.1, h2.2.1, ?_, h2.2.2.2⟩
    rw [h2.2.2.1]
    omega

theorem tens_eq {K : Nat} {l : List Int} {n : Nat} (h1 : dig l) (h2 : lead l) (h3 : l.length ≤ 20) (hn : n ≤ 18) : ∃ r, polyglotref1_tens.f K l (n : Int) = some r ∧ dig r ∧ lead r ∧ dval r = dval l * 10 ^ n ∧ r.length ≤ 40 := by
  unfold polyglotref1_tens.f
  cases l with
  | nil => exact ⟨[], rfl, h1, h2, by simp [dval], by simp⟩
  | cons d t =>
    have e0 : (((d :: t).length : Int) == 0) = false := by
      rw [beq_eq_false_iff_ne]
      simp only [List.length_cons]
      omega
    have e1 : decide ((d :: t).length * 1 ≤ LIM) = true := by
      rw [decide_eq_true_eq]; unfold LIM; omega
    have e2 : ((((decide (0 ≤ (n : Int))) && (decide ((n : Int) * (1 : Int) ≤ (LIM : Int)))) && (decide ((n : Int) ≤ (LIM : Int)))) && (decide (((d :: t).length + (List.replicate ((n : Int)).toNat (0 : Int) : List Int).length) * 1 ≤ LIM))) = true := by
      simp only [Bool.and_eq_true, decide_eq_true_eq, List.length_replicate, Int.toNat_natCast]
      unfold LIM
      omega
    rw [e0, e1, e2]
    refine ⟨_, rfl, ?_, ?_, ?_, ?_⟩
    · intro x hx
      rw [Int.toNat_natCast] at hx
      rcases List.mem_append.1 hx with hx | hx
      · exact h1 x hx
      · have := (List.mem_replicate.1 hx).2
        omega
    · intro x r hr
      rw [List.cons_append] at hr
      simp only [List.cons.injEq] at hr
      rw [← hr.1]
      exact h2 d t rfl
    · rw [Int.toNat_natCast, dval_append, dval_zeros, List.length_replicate, Int.add_zero]
    · rw [Int.toNat_natCast, List.length_append, List.length_replicate]
      omega

theorem rgood_eq (K : Nat) (d : Int × Int) : polyglotref1_Good.f K d = some (okDec d) := by
  unfold polyglotref1_Good.f okDec
  rw [show decide (d.2 ≥ 0) = decide (0 ≤ d.2) from rfl]
  cases decide (0 ≤ d.2) <;> cases decide (d.2 ≤ 18) <;> cases (d.1 != -9223372036854775808) <;> cases (d.2 == 0) <;> rfl

theorem rCompare_eq {K : Nat} (hK : 40 < K) {a b : Int × Int} (ha : I64 a.1) (hb : I64 b.1) : polyglotref1_Compare.f K a b = some (cmpD a b) := by
  obtain ⟨_, a1, a2, a3, a4⟩ := cnt_ok ha
  obtain ⟨_, b1, b2, b3, b4⟩ := cnt_ok hb
  have ca : ∀ d : Int × Int, ((polyglotref1_Good.f K d).bind fun r => bif !r then some ((0 : Int), (0 : Int)) else some (d.1, d.2)) = some (cnt d) := by
    intro d
    rw [rgood_eq]
    unfold cnt
    cases okDec d <;> rfl
  unfold polyglotref1_Compare.f cmpD
  simp only [ca, Option.bind_some]
  generalize cnt a = x at a1 a2 a3 a4 ⊢
  generalize cnt b = y at b1 b2 b3 b4 ⊢
  obtain ⟨m, s⟩ := x
  obtain ⟨m', s'⟩ := y
  simp only [] at a1 a2 a3 a4 b1 b2 b3 b4 ⊢
  obtain ⟨l, l1, l2, l3, l4, l5⟩ := amount_eq hK (m := m) ⟨a1, a2⟩
  obtain ⟨l', k1, k2, k3, k4, k5⟩ := amount_eq hK (m := m') ⟨b1, b2⟩
  have e1 : IntKind.i64.wrap (18 - s) = ((18 - s.toNat : Nat) : Int) := by rw [i64_in _ (by omega)]; omega
  have e2 : IntKind.i64.wrap (18 - s') = ((18 - s'.toNat : Nat) : Int) := by rw [i64_in _ (by omega)]; omega
  obtain ⟨r, r1, r2, r3, r4, r5⟩ := tens_eq (K := K) (n := 18 - s.toNat) l2 l3 l5 (by omega)
  obtain ⟨r', q1, q2, q3, q4, q5⟩ := tens_eq (K := K) (n := 18 - s'.toNat) k2 k3 k5 (by omega)
  rw [l4] at r4
  rw [k4] at q4
  have w1 := rcompare_eq (K := K) r2 q2 r3 q3 (by omega) (by omega) (by omega)
  have w2 := rcompare_eq (K := K) q2 r2 q3 r3 (by omega) (by omega) (by omega)
  rw [r4, q4] at w1 w2
  simp only [l1, k1, e1, e2, r1, q1, w1, w2, Option.bind_some]
  unfold big
  simp only []
  have hp1 : (0 : Int) < 10 ^ (18 - s.toNat) := Int.pow_pos (by decide)
  have hp2 : (0 : Int) < 10 ^ (18 - s'.toNat) := Int.pow_pos (by decide)
  generalize (10 : Int) ^ (18 - s.toNat) = p at hp1 ⊢
  generalize (10 : Int) ^ (18 - s'.toNat) = q at hp2 ⊢
  by_cases h1 : m < 0
  · have g1 : decide (m < 0) = true := by simpa using h1
    have n1 : (m.natAbs : Int) * p = -(m * p) := by rw [show (m.natAbs : Int) = -m from by omega, Int.neg_mul]
    by_cases h2 : m' < 0
    · have g2 : decide (m' < 0) = true := by simpa using h2
      have n2 : (m'.natAbs : Int) * q = -(m' * q) := by rw [show (m'.natAbs : Int) = -m' from by omega, Int.neg_mul]
      rw [g1, g2, n1, n2]
      simp only [cond_true, Option.bind_some]
      rw [cmpI_neg]
    · have g2 : decide (m' < 0) = false := by simpa using h2
      rw [g1, g2]
      simp only [cond_true, cond_false, Option.bind_some]
      have l1 : m * p < 0 := Int.mul_neg_of_neg_of_pos h1 hp1
      have l2 : 0 ≤ m' * q := Int.mul_nonneg (by omega) (by omega)
      unfold cmpI
      rw [if_pos (by omega)]
  · have g1 : decide (m < 0) = false := by simpa using h1
    have n1 : (m.natAbs : Int) * p = m * p := by rw [show (m.natAbs : Int) = m from by omega]
    have l1 : 0 ≤ m * p := Int.mul_nonneg (by omega) (by omega)
    by_cases h2 : m' < 0
    · have g2 : decide (m' < 0) = true := by simpa using h2
      rw [g1, g2]
      simp only [cond_true, cond_false, Option.bind_some]
      have l2 : m' * q < 0 := Int.mul_neg_of_neg_of_pos h2 hp2
      unfold cmpI
      rw [if_neg (by omega), if_pos (by omega)]
    · have g2 : decide (m' < 0) = false := by simpa using h2
      have n2 : (m'.natAbs : Int) * q = m' * q := by rw [show (m'.natAbs : Int) = m' from by omega]
      rw [g1, g2, n1, n2]
      simp only [cond_false, Option.bind_some]

end Go.Proofs.YtekeaempemiciaaGreatDoor
