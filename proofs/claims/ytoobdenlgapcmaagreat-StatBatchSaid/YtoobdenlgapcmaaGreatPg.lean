/- How the program compares decimals. -/
import Derived.Test.YtoobdenlgapcmaaGreatPf
set_option linter.unusedSimpArgs false
set_option linter.unusedVariables false
namespace Go.Proofs.YtoobdenlgapcmaaGreat
open Go Go.Rf Go.Proofs Go.RowKit
open Go.IntWalk (i64_in i32_in u8_in u64_in)

def cmpI (x y : Int) : Int := if x < y then -1 else if x > y then 1 else 0

theorem cmpI_mul {x y c : Int} (hc : 0 < c) : cmpI (x * c) (y * c) = cmpI x y := by
  unfold cmpI
  have h1 : x * c < y * c ↔ x < y := Int.mul_lt_mul_right hc
  have h2 : x * c > y * c ↔ x > y := Int.mul_lt_mul_right hc
  simp only [h1, h2]
theorem cmpI_neg (x y : Int) : cmpI (-x) (-y) = cmpI y x := by
  unfold cmpI
  have h1 : -x < -y ↔ y < x := by omega
  have h2 : -x > -y ↔ y > x := by omega
  simp only [h1, h2]

/-! ### Words -/
abbrev W4 := Int × Int × Int × Int
def wIn (x : Int) : Prop := 0 ≤ x ∧ x < 18446744073709551616
def w4In (w : W4) : Prop := wIn w.1 ∧ wIn w.2.1 ∧ wIn w.2.2.1 ∧ wIn w.2.2.2
def w4V (w : W4) : Int := w.1 + 18446744073709551616 * (w.2.1 + 18446744073709551616 * (w.2.2.1 + 18446744073709551616 * w.2.2.2))

theorem and32 {x : Int} (h : wIn x) : bitOp .and .u64 x 4294967295 = x % 4294967296 := by
  obtain ⟨h1, h2⟩ := h
  obtain ⟨n, rfl⟩ : ∃ n : Nat, x = (n : Int) := ⟨x.toNat, by omega⟩
  have h3 : (BitVec.ofInt 64 (n : Int) &&& BitVec.ofInt 64 4294967295).toNat = n % 4294967296 := by
    rw [BitVec.toNat_and]
    have e1 : (BitVec.ofInt 64 (n : Int)).toNat = n := by
      rw [BitVec.ofInt_natCast, BitVec.toNat_ofNat]
      exact Nat.mod_eq_of_lt (by omega)
    have e2 : (BitVec.ofInt 64 4294967295).toNat = 2 ^ 32 - 1 := by kernel_rfl
    rw [e1, e2, Nat.and_two_pow_sub_one_eq_mod]
  show IntKind.u64.wrap ((BitVec.ofInt 64 (n : Int) &&& BitVec.ofInt 64 4294967295).toNat : Int) = _
  rw [h3, u64_in _ (by omega)]
  omega

theorem wrapu64 (x : Int) : IntKind.u64.wrap x = x % 18446744073709551616 := by simp [IntKind.wrap, IntKind.bits, IntKind.signed]
theorem ten32 : bitOp .and .u64 10 4294967295 = 10 := by kernel_rfl
theorem fd32 (x : Int) : Int.fdiv x (2 ^ 32) = x / 4294967296 := Int.fdiv_eq_ediv_of_nonneg _ (by decide)

theorem mul10_eq (K : Nat) {x : Int} (h : wIn x) : ∃ hi lo, bits_Mul64.f K x 10 = some (hi, lo) ∧ lo = x * 10 % 18446744073709551616 ∧ hi = x * 10 / 18446744073709551616 := by
  unfold bits_Mul64.f
  rw [ten32, and32 h]
  simp only [fd32]
  obtain ⟨h1, h2⟩ := h
  obtain ⟨a, ha⟩ : ∃ a, a = x / 4294967296 := ⟨_, rfl⟩
  obtain ⟨b, hb⟩ : ∃ b, b = x % 4294967296 := ⟨_, rfl⟩
  have hx : x = 4294967296 * a + b := by omega
  have hb0 : 0 ≤ b ∧ b < 4294967296 := by omega
  have ha0 : 0 ≤ a ∧ a < 4294967296 := by omega
  rw [← ha, ← hb]
  have z : (10 : Int) / 4294967296 = 0 := by decide
  rw [z, Int.mul_zero, Int.mul_zero, u64_in (0 : Int) (by omega), u64_in (a * 10) (by omega), u64_in (b * 10) (by omega)]
  clear ha hb
  obtain ⟨c, hc⟩ : ∃ c, c = b * 10 / 4294967296 := ⟨_, rfl⟩
  rw [← hc]
  have hc0 : 0 ≤ c ∧ c < 10 := by omega
  rw [u64_in (a * 10 + c) (by omega), and32 (x := a * 10 + c) ⟨by omega, by omega⟩, u64_in ((a * 10 + c) % 4294967296 + 0) (by omega)]
  obtain ⟨d, hd⟩ : ∃ d, d = (a * 10 + c) / 4294967296 := ⟨_, rfl⟩
  rw [← hd]
  have hd0 : 0 ≤ d ∧ d < 10 := by omega
  have e : ((a * 10 + c) % 4294967296 + 0) / 4294967296 = 0 := by omega
  rw [e, u64_in (0 + d) (by omega), u64_in (0 + d + 0) (by omega)]
  refine ⟨_, _, rfl, ?_, ?_⟩
  · exact wrapu64 _
  · obtain ⟨r, hr⟩ : ∃ r, r = b * 10 - 4294967296 * c := ⟨_, rfl⟩
    obtain ⟨q, hq⟩ : ∃ q, q = a * 10 + c - 4294967296 * d := ⟨_, rfl⟩
    have hr0 : 0 ≤ r ∧ r < 4294967296 := by omega
    have hq0 : 0 ≤ q ∧ q < 4294967296 := by omega
    clear hc hd e
    have h3 : x * 10 = 18446744073709551616 * d + (4294967296 * q + r) := by omega
    rw [h3]
    omega

/-- One word, with what is carried. -/
theorem word_eq {hi lo c x : Int} (hx : wIn x) (hc : 0 ≤ c ∧ c ≤ 9) (h1 : lo = x * 10 % 18446744073709551616) (h2 : hi = x * 10 / 18446744073709551616) :
    (((lo.toNat + c.toNat + 0) % 18446744073709551616 : Nat) : Int) = (x * 10 + c) % 18446744073709551616 ∧ IntKind.u64.wrap (hi + (((lo.toNat + c.toNat + 0) / 18446744073709551616 : Nat) : Int)) = (x * 10 + c) / 18446744073709551616 ∧
      0 ≤ (x * 10 + c) / 18446744073709551616 ∧ (x * 10 + c) / 18446744073709551616 ≤ 9 := by
  obtain ⟨h3, h4⟩ := hx
  have hX : x * 10 = lo + 18446744073709551616 * hi := by omega
  have hl : 0 ≤ lo ∧ lo < 18446744073709551616 := by omega
  have hh : 0 ≤ hi ∧ hi ≤ 9 := by omega
  clear h1 h2
  have h5 : ((lo.toNat + c.toNat + 0 : Nat) : Int) = lo + c := by rw [Nat.add_zero, Int.natCast_add, Int.toNat_of_nonneg hl.1, Int.toNat_of_nonneg hc.1]
  have h6 : x * 10 + c = (lo + c) + 18446744073709551616 * hi := by omega
  have h7 : ((18446744073709551616 : Nat) : Int) = 18446744073709551616 := by omega
  have h8 : (x * 10 + c) / 18446744073709551616 = (lo + c) / 18446744073709551616 + hi := by rw [h6, Int.add_mul_ediv_left _ _ (by decide)]
  have h9 : 0 ≤ (lo + c) / 18446744073709551616 ∧ (lo + c) / 18446744073709551616 ≤ 1 := by omega
  refine ⟨?_, ?_, ?_, ?_⟩
  · rw [Int.natCast_emod, h5, h7, h6, Int.add_mul_emod_self_left]
  · rw [Int.natCast_ediv, h5, h7, h8, u64_in _ (by omega)]
    omega
  · rw [h8]; omega
  · have h10 : x * 10 + c < 18446744073709551616 * 10 := by omega
    rw [h8]
    rw [h6] at h10
    omega

def mul4 (w : W4) : W4 :=
  let c1 := w.1 * 10 / 18446744073709551616
  let c2 := (w.2.1 * 10 + c1) / 18446744073709551616
  let c3 := (w.2.2.1 * 10 + c2) / 18446744073709551616
  ((w.1 * 10) % 18446744073709551616, (w.2.1 * 10 + c1) % 18446744073709551616, (w.2.2.1 * 10 + c2) % 18446744073709551616, (w.2.2.2 * 10 + c3) % 18446744073709551616)

theorem times_eq {K : Nat} (hK : 4 < K) {w : W4} (h : w4In w) : sum_wide_times.f K w 10 = some (mul4 w) := by
  obtain ⟨n, rfl⟩ : ∃ n, K = n + 5 := ⟨K - 5, by omega⟩
  obtain ⟨w0, w1, w2, w3⟩ := w
  obtain ⟨h0, h1, h2, h3⟩ := h
  obtain ⟨a0, b0, m0, p0, q0⟩ := mul10_eq (n + 5) h0
  obtain ⟨a1, b1, m1, p1, q1⟩ := mul10_eq (n + 5) h1
  obtain ⟨a2, b2, m2, p2, q2⟩ := mul10_eq (n + 5) h2
  obtain ⟨a3, b3, m3, p3, q3⟩ := mul10_eq (n + 5) h3
  simp only [] at h0 h1 h2 h3 m0 m1 m2 m3 p0 p1 p2 p3 q0 q1 q2 q3
  obtain ⟨x0, y0, c0⟩ := word_eq (c := 0) h0 (by omega) p0 q0
  rw [Int.add_zero, show (0 : Int).toNat = 0 from rfl] at x0 y0
  rw [Int.add_zero] at c0
  obtain ⟨x1, y1, c1⟩ := word_eq h1 c0 p1 q1
  obtain ⟨x2, y2, c2⟩ := word_eq h2 c1 p2 q2
  obtain ⟨x3, y3, c3⟩ := word_eq h3 c2 p3 q3
  unfold sum_wide_times.f
  have s0 : IntKind.i64.wrap ((0 : Int) + 1) = 1 := by decide
  have s1 : IntKind.i64.wrap ((1 : Int) + 1) = 2 := by decide
  have s2 : IntKind.i64.wrap ((2 : Int) + 1) = 3 := by decide
  have s3 : IntKind.i64.wrap ((3 : Int) + 1) = 4 := by decide
  simp only [loopN, show decide ((0 : Int) < 4) = true from rfl, show decide ((1 : Int) < 4) = true from rfl, show decide ((2 : Int) < 4) = true from rfl, show decide ((3 : Int) < 4) = true from rfl, show decide ((4 : Int) < 4) = false from rfl,
    show idx 0 4 = true from rfl, show idx 1 4 = true from rfl, show idx 2 4 = true from rfl, show idx 3 4 = true from rfl, show (0 : Int).toNat = 0 from rfl, show (1 : Int).toNat = 1 from rfl, show (2 : Int).toNat = 2 from rfl, show (3 : Int).toNat = 3 from rfl,
    List.length_cons, List.length_nil, List.getD_cons_zero, List.getD_cons_succ, List.set_cons_zero, List.set_cons_succ, cond_true, cond_false, m0, m1, m2, m3, Option.bind_some, s0, s1, s2, s3, x0, y0, x1, y1, x2, y2, x3, y3,
    show decide (0 < 0 + 1 + 1 + 1 + 1) = true from rfl, show decide (1 < 0 + 1 + 1 + 1 + 1) = true from rfl, show decide (2 < 0 + 1 + 1 + 1 + 1) = true from rfl, show decide (3 < 0 + 1 + 1 + 1 + 1) = true from rfl]
  rfl

theorem mul4_in {w : W4} : w4In (mul4 w) := by
  unfold mul4 w4In wIn
  simp only []
  omega

theorem mul4_V {w : W4} (h : w4In w) (hV : w4V w * 10 < 115792089237316195423570985008687907853269984665640564039457584007913129639936) : w4V (mul4 w) = w4V w * 10 := by
  obtain ⟨w0, w1, w2, w3⟩ := w
  unfold w4In wIn at h
  unfold w4V at hV ⊢
  unfold mul4
  simp only [] at h hV ⊢
  omega

end Go.Proofs.YtoobdenlgapcmaaGreat
