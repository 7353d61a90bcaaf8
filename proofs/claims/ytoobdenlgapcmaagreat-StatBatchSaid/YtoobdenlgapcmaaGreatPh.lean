/- How the program compares decimals, part 2. -/
import Derived.Test.YtoobdenlgapcmaaGreatPg
set_option linter.unusedSimpArgs false
set_option linter.unusedVariables false
namespace Go.Proofs.YtoobdenlgapcmaaGreat
open Go Go.Rf Go.Proofs Go.RowKit
open Go.IntWalk (i64_in i32_in u8_in u64_in)

theorem pow_le18 {x : Int} (hx : 0 ≤ x ∧ x < 9223372036854775808) {i : Nat} (h : i ≤ 18) : 0 ≤ x * 10 ^ i ∧ x * 10 ^ i * 10 < 115792089237316195423570985008687907853269984665640564039457584007913129639936 := by
  have h1 : (1 : Int) ≤ 10 ^ i ∧ (10 : Int) ^ i ≤ 1000000000000000000 := by
    have : i = 0 ∨ i = 1 ∨ i = 2 ∨ i = 3 ∨ i = 4 ∨ i = 5 ∨ i = 6 ∨ i = 7 ∨ i = 8 ∨ i = 9 ∨ i = 10 ∨ i = 11 ∨ i = 12 ∨ i = 13 ∨ i = 14 ∨ i = 15 ∨ i = 16 ∨ i = 17 ∨ i = 18 := by omega
    rcases this with rfl | rfl | rfl | rfl | rfl | rfl | rfl | rfl | rfl | rfl | rfl | rfl | rfl | rfl | rfl | rfl | rfl | rfl | rfl <;> decide
  generalize (10 : Int) ^ i = p at h1 ⊢
  have h2 : 0 ≤ x * p := Int.mul_nonneg hx.1 (by omega)
  have h3 : x * p ≤ 9223372036854775808 * 1000000000000000000 := Int.mul_le_mul (by omega) h1.2 (by omega) (by omega)
  refine ⟨h2, ?_⟩
  omega

def w4L (v : W4) : List Int := [v.1, v.2.1, v.2.2.1, v.2.2.2]

theorem power_eq {K : Nat} (hK : 40 < K) {w : W4} {x : Int} {n : Nat} (hn : n ≤ 18) (hx : 0 ≤ x ∧ x < 9223372036854775808) (h : w4In w) (hV : w4V w = x) : ∃ v, sum_wide_power.f K w 10 (n : Int) = some v ∧ w4In v ∧ w4V v = x * 10 ^ n := by
  unfold sum_wide_power.f
  refine bind_loop2 (fun s => ∃ (i : Nat) (v : W4), s.1 = (i : Int) ∧ s.2 = w4L v ∧ w4In v ∧ i ≤ n ∧ w4V v = x * 10 ^ i) (fun s => n - s.1.toNat) (fun r => ∃ v : W4, r = w4L v ∧ w4In v ∧ w4V v = x * 10 ^ n) ?_ ⟨0, w, rfl, rfl, h, Nat.zero_le _, by rw [hV]; simp⟩ (by simp only []; omega) ?_
  · rintro ⟨t, l⟩ ⟨i, v, e1, e2, h1, h2, h3⟩
    have e1' : t = (i : Int) := e1
    have e2' : l = w4L v := e2
    subst e1'
    subst e2'
    simp only []
    by_cases hi : i < n
    · have e : decide ((i : Int) < (n : Int)) = true := by simpa using hi
      have hb := pow_le18 hx (i := i) (by omega)
      have ht : sum_wide_times.f K ((w4L v).getD 0 0, (w4L v).getD 1 0, (w4L v).getD 2 0, (w4L v).getD 3 0) 10 = some (mul4 v) := times_eq (w := v) (by omega) h1
      rw [e, ht]
      refine ⟨_, rfl, ⟨i + 1, mul4 v, ?_, rfl, mul4_in, by omega, ?_⟩, ?_⟩
      · exact step_nat (by omega)
      · rw [mul4_V h1 (by rw [h3]; exact hb.2), h3, Int.pow_succ, Int.mul_assoc]
      · show n - (IntKind.i64.wrap ((i : Int) + 1)).toNat < n - ((i : Int)).toNat
        rw [step_nat (by omega)]
        omega
    · have e : decide ((i : Int) < (n : Int)) = false := by simpa using hi
      have : i = n := by omega
      subst this
      rw [e]
      exact ⟨_, rfl, v, rfl, h1, h3⟩
  · rintro r ⟨v, rfl, h1, h2⟩
    exact ⟨_, rfl, h1, h2⟩

def orI (c d : Int) : Int := if c = 0 then d else c

theorem cmp_words {a b : Int} {p q : Int} (h1 : 0 ≤ p ∧ p < 18446744073709551616) (h2 : 0 ≤ q ∧ q < 18446744073709551616) :
    cmpI (p + 18446744073709551616 * a) (q + 18446744073709551616 * b) = orI (cmpI a b) (cmpI p q) := by
  unfold orI cmpI
  by_cases h3 : a < b
  · rw [if_pos h3, if_pos (by omega)]
    rfl
  · rw [if_neg h3]
    by_cases h4 : a > b
    · rw [if_pos h4, if_neg (by omega), if_pos (by omega)]
      rfl
    · rw [if_neg h4, if_pos rfl]
      have : a = b := by omega
      subst this
      have e1 : p + 18446744073709551616 * a < q + 18446744073709551616 * a ↔ p < q := by omega
      have e2 : p + 18446744073709551616 * a > q + 18446744073709551616 * a ↔ p > q := by omega
      simp only [e1, e2]

/-- One place: less, more, or go on. -/
theorem tri {β : Type} (x y : Int) (a b : β) (c : β) : (bif decide (x < y) then a else bif decide (x > y) then b else c) = if cmpI x y = 0 then c else if cmpI x y = -1 then a else b := by
  unfold cmpI
  by_cases h1 : x < y
  · simp [h1]
  · by_cases h2 : x > y
    · simp [h1, h2]
    · simp [h1, h2]

theorem cmpI_cases (x y : Int) : cmpI x y = 0 ∨ cmpI x y = -1 ∨ cmpI x y = 1 := by
  unfold cmpI
  split
  · exact .inr (.inl rfl)
  · split
    · exact .inr (.inr rfl)
    · exact .inl rfl

theorem wcmp_eq {K : Nat} (hK : 4 < K) {w v : W4} (hw : w4In w) (hv : w4In v) : sum_wide_compare.f K w v = some (cmpI (w4V w) (w4V v)) := by
  obtain ⟨n, rfl⟩ : ∃ n, K = n + 5 := ⟨K - 5, by omega⟩
  obtain ⟨w0, w1, w2, w3⟩ := w
  obtain ⟨v0, v1, v2, v3⟩ := v
  obtain ⟨a0, a1, a2, a3⟩ := hw
  obtain ⟨b0, b1, b2, b3⟩ := hv
  have key : cmpI (w4V (w0, w1, w2, w3)) (w4V (v0, v1, v2, v3)) = orI (orI (orI (cmpI w3 v3) (cmpI w2 v2)) (cmpI w1 v1)) (cmpI w0 v0) := by
    unfold w4V
    simp only []
    rw [cmp_words a0 b0, cmp_words a1 b1, cmp_words a2 b2]
  rw [key]
  unfold sum_wide_compare.f
  have s2 : IntKind.i64.wrap ((3 : Int) - 1) = 2 := by kernel_rfl
  have s1 : IntKind.i64.wrap ((2 : Int) - 1) = 1 := by kernel_rfl
  have s0 : IntKind.i64.wrap ((1 : Int) - 1) = 0 := by kernel_rfl
  have sm : IntKind.i64.wrap ((0 : Int) - 1) = -1 := by kernel_rfl
  have d0 : decide ((0 : Int) ≥ 0) = true := rfl
  have d1 : decide ((1 : Int) ≥ 0) = true := rfl
  have d2 : decide ((2 : Int) ≥ 0) = true := rfl
  have d3 : decide ((3 : Int) ≥ 0) = true := rfl
  have dm : decide ((-1 : Int) ≥ 0) = false := rfl
  have t0 : decide ((0 : Int).toNat < 4) = true := rfl
  have t1 : decide ((1 : Int).toNat < 4) = true := rfl
  have t2 : decide ((2 : Int).toNat < 4) = true := rfl
  have t3 : decide ((3 : Int).toNat < 4) = true := rfl
  have g0 : ∀ x y z u : Int, ([x, y, z, u] : List Int).getD (0 : Int).toNat 0 = x := fun _ _ _ _ => rfl
  have g1 : ∀ x y z u : Int, ([x, y, z, u] : List Int).getD (1 : Int).toNat 0 = y := fun _ _ _ _ => rfl
  have g2 : ∀ x y z u : Int, ([x, y, z, u] : List Int).getD (2 : Int).toNat 0 = z := fun _ _ _ _ => rfl
  have g3 : ∀ x y z u : Int, ([x, y, z, u] : List Int).getD (3 : Int).toNat 0 = u := fun _ _ _ _ => rfl
  simp only [loopN, d0, d1, d2, d3, dm, t0, t1, t2, t3, show idx 0 4 = true from rfl, show idx 1 4 = true from rfl, show idx 2 4 = true from rfl, show idx 3 4 = true from rfl, g0, g1, g2, g3, s0, s1, s2, sm, cond_true, cond_false, tri]
  rcases cmpI_cases w3 v3 with h3 | h3 | h3 <;> simp only [h3, d0, d1, d2, d3, dm, t0, t1, t2, t3, show idx 0 4 = true from rfl, show idx 1 4 = true from rfl, show idx 2 4 = true from rfl, show idx 3 4 = true from rfl, g0, g1, g2, g3, s0, s1, s2, sm, cond_true, cond_false, tri, show ((-1 : Int) = 0) = False from by simp, show ((1 : Int) = 0) = False from by simp, show ((1 : Int) = -1) = False from by simp, show ((0 : Int) = 0) = True from by simp, show ((-1 : Int) = -1) = True from by simp, if_false, if_true, orI, Option.bind_some] <;> try rfl
  rcases cmpI_cases w2 v2 with h2 | h2 | h2 <;> simp only [h2, d0, d1, d2, d3, dm, t0, t1, t2, t3, show idx 0 4 = true from rfl, show idx 1 4 = true from rfl, show idx 2 4 = true from rfl, show idx 3 4 = true from rfl, g0, g1, g2, g3, s0, s1, s2, sm, cond_true, cond_false, tri, show ((-1 : Int) = 0) = False from by simp, show ((1 : Int) = 0) = False from by simp, show ((1 : Int) = -1) = False from by simp, show ((0 : Int) = 0) = True from by simp, show ((-1 : Int) = -1) = True from by simp, if_false, if_true, orI, Option.bind_some] <;> try rfl
  rcases cmpI_cases w1 v1 with h1 | h1 | h1 <;> simp only [h1, d0, d1, d2, d3, dm, t0, t1, t2, t3, show idx 0 4 = true from rfl, show idx 1 4 = true from rfl, show idx 2 4 = true from rfl, show idx 3 4 = true from rfl, g0, g1, g2, g3, s0, s1, s2, sm, cond_true, cond_false, tri, show ((-1 : Int) = 0) = False from by simp, show ((1 : Int) = 0) = False from by simp, show ((1 : Int) = -1) = False from by simp, show ((0 : Int) = 0) = True from by simp, show ((-1 : Int) = -1) = True from by simp, if_false, if_true, orI, Option.bind_some] <;> try rfl
  rcases cmpI_cases w0 v0 with h0 | h0 | h0 <;> simp only [h0, d0, d1, d2, d3, dm, t0, t1, t2, t3, show idx 0 4 = true from rfl, show idx 1 4 = true from rfl, show idx 2 4 = true from rfl, show idx 3 4 = true from rfl, g0, g1, g2, g3, s0, s1, s2, sm, cond_true, cond_false, tri, show ((-1 : Int) = 0) = False from by simp, show ((1 : Int) = 0) = False from by simp, show ((1 : Int) = -1) = False from by simp, show ((0 : Int) = 0) = True from by simp, show ((-1 : Int) = -1) = True from by simp, if_false, if_true, orI, Option.bind_some] <;> try rfl

def I64 (x : Int) : Prop := -9223372036854775808 ≤ x ∧ x ≤ 9223372036854775807

/-- A decimal that counts: 0 for one that may not be. -/
def cnt (d : Int × Int) : Int × Int := if okDec d then d else (0, 0)
/-- A decimal, in parts of 10^18. -/
def big (d : Int × Int) : Int := d.1 * 10 ^ (18 - d.2.toNat)
def cmpD (a b : Int × Int) : Int := cmpI (big (cnt a)) (big (cnt b))

theorem cnt_ok {d : Int × Int} (h : I64 d.1) : okDec (cnt d) = true ∧ -9223372036854775808 < (cnt d).1 ∧ (cnt d).1 ≤ 9223372036854775807 ∧ 0 ≤ (cnt d).2 ∧ (cnt d).2 ≤ 18 := by
  unfold cnt
  cases ho : okDec d with
  | false =>
    simp only [Bool.false_eq_true, if_false]
    exact ⟨rfl, by decide, by decide, by decide, by decide⟩
  | true =>
    have ho' := ho
    unfold okDec at ho'
    simp only [Bool.and_eq_true, decide_eq_true_eq, bne_iff_ne] at ho'
    obtain ⟨⟨⟨h1, h2⟩, h3⟩, _⟩ := ho'
    have := h.1
    have := h.2
    simp only [if_true]
    exact ⟨ho, by omega, h.2, h1, h2⟩

theorem number_eq {K : Nat} (hK : 40 < K) {m s : Int} {n : Nat} (hm : -9223372036854775808 < m ∧ m ≤ 9223372036854775807) (hs : 0 ≤ s ∧ s ≤ n) (hn : n ≤ 18) :
    ∃ v : W4, sum_numberOf.f K (m, s) (n : Int) = some (decide (m < 0), v.1, v.2.1, v.2.2.1, v.2.2.2, (n : Int)) ∧ w4In v ∧ w4V v = (m.natAbs : Int) * 10 ^ (n - s.toNat) := by
  have ha : sum_abs.f K m = some (m.natAbs : Int) := by
    unfold sum_abs.f
    by_cases h : m < 0
    · have e : decide (m < 0) = true := by simpa using h
      rw [e, wrapu64, wrapu64]
      have : (0 - m % 18446744073709551616) % 18446744073709551616 = (m.natAbs : Int) := by omega
      rw [this]
      rfl
    · have e : decide (m < 0) = false := by simpa using h
      rw [e, u64_in m (by omega)]
      have : m = (m.natAbs : Int) := by omega
      exact congrArg some this
  unfold sum_numberOf.f sum_of.f
  rw [ha]
  have e2 : IntKind.i64.wrap ((n : Int) - s) = ((n - s.toNat : Nat) : Int) := by
    rw [i64_in _ (by omega)]
    omega
  obtain ⟨v, h1, h2, h3⟩ := power_eq hK (w := ((m.natAbs : Int), 0, 0, 0)) (x := (m.natAbs : Int)) (n := n - s.toNat) (by omega) (by omega) (by unfold w4In wIn; simp only []; omega) (by unfold w4V; simp)
  simp only [Option.bind_some]
  rw [e2, h1]
  exact ⟨v, rfl, h2, h3⟩

theorem big_eq {m s : Int} {n : Nat} (hs : 0 ≤ s ∧ s ≤ n) (hn : n ≤ 18) : big (m, s) = m * 10 ^ (n - s.toNat) * 10 ^ (18 - n) := by
  unfold big
  rw [Int.mul_assoc, ← Int.pow_add]
  congr 2
  omega

theorem sumCompare_eq {K : Nat} (hK : 40 < K) {a b : Int × Int} (ha : I64 a.1) (hb : I64 b.1) : sum_Compare.f K a b = some (cmpD a b) := by
  obtain ⟨_, a1, a2, a3, a4⟩ := cnt_ok ha
  obtain ⟨_, b1, b2, b3, b4⟩ := cnt_ok hb
  have ca : ∀ d, sum_counted.f K d = some (cnt d) := by
    intro d
    unfold sum_counted.f cnt
    rw [decGood_eq]
    cases okDec d <;> rfl
  unfold sum_Compare.f cmpD
  simp only [ca, Option.bind_some, cond_true]
  generalize cnt a = x at a1 a2 a3 a4 ⊢
  generalize cnt b = y at b1 b2 b3 b4 ⊢
  obtain ⟨m, s⟩ := x
  obtain ⟨m', s'⟩ := y
  simp only [] at a1 a2 a3 a4 b1 b2 b3 b4
  obtain ⟨n, hn, hn1, hn2, hn3⟩ : ∃ n : Nat, (if decide (s' > s) = true then s' else s) = (n : Int) ∧ s ≤ n ∧ s' ≤ n ∧ n ≤ 18 := by
    by_cases h : s' > s
    · exact ⟨s'.toNat, by simp [h]; omega, by omega, by omega, by omega⟩
    · exact ⟨s.toNat, by simp [h]; omega, by omega, by omega, by omega⟩
  simp only [hn]
  obtain ⟨v, e1, e2, e3⟩ := number_eq hK (m := m) (s := s) (n := n) ⟨a1, a2⟩ ⟨a3, hn1⟩ hn3
  obtain ⟨v', f1, f2, f3⟩ := number_eq hK (m := m') (s := s') (n := n) ⟨b1, b2⟩ ⟨b3, hn2⟩ hn3
  rw [e1, f1]
  simp only [Option.bind_some]
  have hp : (0 : Int) < 10 ^ (18 - n) := Int.pow_pos (by decide)
  have hp1 : (0 : Int) < 10 ^ (n - s.toNat) := Int.pow_pos (by decide)
  have hp2 : (0 : Int) < 10 ^ (n - s'.toNat) := Int.pow_pos (by decide)
  rw [big_eq ⟨a3, hn1⟩ hn3, big_eq ⟨b3, hn2⟩ hn3, cmpI_mul hp]
  unfold sum_number_compare.f
  have w1 := wcmp_eq (K := K) (by omega) f2 e2
  have w2 := wcmp_eq (K := K) (by omega) e2 f2
  rw [e3, f3] at w1 w2
  simp only [w1, w2, Option.bind_some]
  generalize (10 : Int) ^ (n - s.toNat) = p at hp1 ⊢
  generalize (10 : Int) ^ (n - s'.toNat) = q at hp2 ⊢
  by_cases h1 : m < 0
  · have g1 : decide (m < 0) = true := by simpa using h1
    have n1 : (m.natAbs : Int) * p = -(m * p) := by rw [show (m.natAbs : Int) = -m from by omega, Int.neg_mul]
    by_cases h2 : m' < 0
    · have g2 : decide (m' < 0) = true := by simpa using h2
      have n2 : (m'.natAbs : Int) * q = -(m' * q) := by rw [show (m'.natAbs : Int) = -m' from by omega, Int.neg_mul]
      rw [g1, g2, n1, n2]
      simp only [cond_true, Option.bind_some]
      rw [cmpI_neg]
    · have g2 : decide (m' < 0) = false := by simpa using h2
      rw [g1, g2]
      simp only [cond_true, cond_false, Option.bind_some]
      have l1 : m * p < 0 := Int.mul_neg_of_neg_of_pos h1 hp1
      have l2 : 0 ≤ m' * q := Int.mul_nonneg (by omega) (by omega)
      unfold cmpI
      rw [if_pos (by omega)]
  · have g1 : decide (m < 0) = false := by simpa using h1
    have n1 : (m.natAbs : Int) * p = m * p := by rw [show (m.natAbs : Int) = m from by omega]
    have l1 : 0 ≤ m * p := Int.mul_nonneg (by omega) (by omega)
    by_cases h2 : m' < 0
    · have g2 : decide (m' < 0) = true := by simpa using h2
      rw [g1, g2]
      simp only [cond_true, cond_false, Option.bind_some]
      have l2 : m' * q < 0 := Int.mul_neg_of_neg_of_pos h2 hp2
      unfold cmpI
      rw [if_neg (by omega), if_pos (by omega)]
    · have g2 : decide (m' < 0) = false := by simpa using h2
      have n2 : (m'.natAbs : Int) * q = m' * q := by rw [show (m'.natAbs : Int) = m' from by omega]
      rw [g1, g2, n1, n2]
      simp only [cond_false, Option.bind_some]

end Go.Proofs.YtoobdenlgapcmaaGreat
