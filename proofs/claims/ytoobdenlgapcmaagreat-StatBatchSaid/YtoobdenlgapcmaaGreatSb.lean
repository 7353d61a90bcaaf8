/- A quotient by one. -/
import Derived.Test.YtoobdenlgapcmaaGreatSa
set_option linter.unusedSimpArgs false
set_option linter.unusedVariables false
namespace Go.Proofs.YtoobdenlgapcmaaGreat
open Go Go.Rf Go.Proofs Go.RowKit
open Go.IntWalk (i64_in i32_in u8_in u64_in)

theorem abs_pos (K : Nat) {m : Int} (h : 0 ≤ m ∧ m ≤ 9223372036854775807) : sum_abs.f K m = some m := by
  unfold sum_abs.f
  have e : decide (m < 0) = false := by simpa using h.1
  rw [e, u64_in m (by omega)]
  rfl

theorem shared_one {K : Nat} (hK : 4 < K) (m : Int) : sum_shared.f K m 1 = some 1 := by
  obtain ⟨n, rfl⟩ : ∃ n, K = n + 2 := ⟨K - 2, by omega⟩
  unfold sum_shared.f
  have e1 : Int.tmod m 1 = 0 := Int.tmod_one m
  have d1 : decide ((1 : Int) > 0) = true := rfl
  have d2 : ((1 : Int) != 0) = true := rfl
  have d3 : decide ((0 : Int) > 0) = false := rfl
  simp only [loopN, d1, d2, d3, e1, cond_true, cond_false, Option.bind_some]

theorem without_one {K : Nat} (hK : 4 < K) : sum_without.f K 1 2 = some (1, 0) ∧ sum_without.f K 1 5 = some (1, 0) := by
  obtain ⟨n, rfl⟩ : ∃ n, K = n + 1 := ⟨K - 1, by omega⟩
  constructor <;> rfl

theorem power_none {K : Nat} (hK : 4 < K) (w : W4) (n : Int) : sum_wide_power.f K w n 0 = some w := by
  obtain ⟨k, rfl⟩ : ∃ n, K = n + 1 := ⟨K - 1, by omega⟩
  rfl

theorem div64_low (K : Nat) {x : Int} (h : wIn x) : bits_Div64.f K 0 x 10 = some (x / 10, x % 10) := by
  have e1 : Int.tdiv x 10 = x / 10 := Int.tdiv_eq_ediv_of_nonneg h.1
  have e2 : Int.tmod x 10 = x % 10 := Int.tmod_eq_emod_of_nonneg h.1
  have h2 := h.2
  have h1 := h.1
  unfold bits_Div64.f
  have d1 : ((10 : Int) == 0) = false := rfl
  have d2 : decide ((10 : Int) ≤ 0) = false := rfl
  have d3 : ((0 : Int) == 0) = true := rfl
  have d4 : ((10 : Int) != 0) = true := rfl
  simp only [d1, d2, d3, d4, cond_true, cond_false, e1, e2]
  rw [u64_in (x / 10) (by omega)]

theorem tenth_low {K : Nat} (hK : 8 < K) {x : Int} (h : wIn x) : sum_wide_tenth.f K (x, 0, 0, 0) = some ((x / 10, 0, 0, 0), x % 10) := by
  obtain ⟨n, rfl⟩ : ∃ n, K = n + 5 := ⟨K - 5, by omega⟩
  have z : bits_Div64.f (n + 5) 0 0 10 = some (0, 0) := div64_low _ ⟨by decide, by decide⟩
  have hx := div64_low (n + 5) h
  unfold sum_wide_tenth.f
  have d0 : decide ((0 : Int) ≥ 0) = true := rfl
  have d1 : decide ((1 : Int) ≥ 0) = true := rfl
  have d2 : decide ((2 : Int) ≥ 0) = true := rfl
  have d3 : decide ((3 : Int) ≥ 0) = true := rfl
  have dm : decide ((-1 : Int) ≥ 0) = false := rfl
  have s3 : IntKind.i64.wrap ((3 : Int) - 1) = 2 := rfl
  have s2 : IntKind.i64.wrap ((2 : Int) - 1) = 1 := rfl
  have s1 : IntKind.i64.wrap ((1 : Int) - 1) = 0 := rfl
  have s0 : IntKind.i64.wrap ((0 : Int) - 1) = -1 := rfl
  have i3 : idx 3 4 = true := rfl
  have i2 : idx 2 4 = true := rfl
  have i1 : idx 1 4 = true := rfl
  have i0 : idx 0 4 = true := rfl
  have l3 : ∀ a b c d : Int, decide ((3 : Int).toNat < ([a, b, c, d] : List Int).length) = true := fun _ _ _ _ => rfl
  have l2 : ∀ a b c d : Int, decide ((2 : Int).toNat < ([a, b, c, d] : List Int).length) = true := fun _ _ _ _ => rfl
  have l1 : ∀ a b c d : Int, decide ((1 : Int).toNat < ([a, b, c, d] : List Int).length) = true := fun _ _ _ _ => rfl
  have l0 : ∀ a b c d : Int, decide ((0 : Int).toNat < ([a, b, c, d] : List Int).length) = true := fun _ _ _ _ => rfl
  have g3 : ∀ a b c d : Int, ([a, b, c, d] : List Int).getD (3 : Int).toNat 0 = d := fun _ _ _ _ => rfl
  have g2 : ∀ a b c d : Int, ([a, b, c, d] : List Int).getD (2 : Int).toNat 0 = c := fun _ _ _ _ => rfl
  have g1 : ∀ a b c d : Int, ([a, b, c, d] : List Int).getD (1 : Int).toNat 0 = b := fun _ _ _ _ => rfl
  have g0 : ∀ a b c d : Int, ([a, b, c, d] : List Int).getD (0 : Int).toNat 0 = a := fun _ _ _ _ => rfl
  have u3 : ∀ a b c d e : Int, ([a, b, c, d] : List Int).set (3 : Int).toNat e = [a, b, c, e] := fun _ _ _ _ _ => rfl
  have u2 : ∀ a b c d e : Int, ([a, b, c, d] : List Int).set (2 : Int).toNat e = [a, b, e, d] := fun _ _ _ _ _ => rfl
  have u1 : ∀ a b c d e : Int, ([a, b, c, d] : List Int).set (1 : Int).toNat e = [a, e, c, d] := fun _ _ _ _ _ => rfl
  have u0 : ∀ a b c d e : Int, ([a, b, c, d] : List Int).set (0 : Int).toNat e = [e, b, c, d] := fun _ _ _ _ _ => rfl
  simp only [loopN, d0, d1, d2, d3, dm, i0, i1, i2, i3, l0, l1, l2, l3, g0, g1, g2, g3, u0, u1, u2, u3, s0, s1, s2, s3, z, hx, cond_true, cond_false, Option.bind_some]
  rfl

theorem numberDec_eq {K : Nat} (hK : 40 < K) {m s : Int} (hm : 0 ≤ m ∧ m ≤ 9223372036854775807) (hd : okDec (m, s) = true) (ng : Bool) : ∃ r, sum_number_dec.f K (ng, m, 0, 0, 0, s) = some (r, true) := by
  have hd' := hd
  unfold okDec at hd'
  simp only [Bool.and_eq_true, decide_eq_true_eq, Bool.or_eq_true, bne_iff_ne, beq_iff_eq] at hd'
  obtain ⟨⟨⟨h1, h2⟩, h3⟩, h4⟩ := hd'
  unfold sum_number_dec.f sum_of.f
  simp only [Option.bind_some]
  by_cases h0 : m = 0
  · subst h0
    exact ⟨_, rfl⟩
  · have e0 : (m == 0) = false := by simpa using h0
    simp only [e0, Bool.false_and, cond_false]
    obtain ⟨n, rfl⟩ : ∃ n, K = n + 1 := ⟨K - 1, by omega⟩
    have hw : wIn m := ⟨hm.1, by omega⟩
    have ht := tenth_low (K := n + 1) (by omega) hw
    have hc := wcmp_eq (K := n + 1) (by omega) (w := (m, 0, 0, 0)) (v := (9223372036854775807, 0, 0, 0)) (by unfold w4In wIn; simp only []; omega) (by unfold w4In wIn; simp only []; omega)
    have hv : cmpI (w4V (m, 0, 0, 0)) (w4V (9223372036854775807, 0, 0, 0)) = cmpI m 9223372036854775807 := by unfold w4V; simp
    have hle : decide (cmpI m 9223372036854775807 > 0) = false := by
      unfold cmpI
      by_cases h : m < 9223372036854775807
      · rw [if_pos h]; rfl
      · rw [if_neg h, if_neg (by omega)]; rfl
    have hs : decide (s > 18) = false := by simpa using h2
    have hloop : ∀ (g : Bool × Int × Int × Int × Int × Int → Option ((Bool × Int × Int × Int × Int × Int) ⊕ (Bool × Int × Int × Int × Int × Int))), g (ng, m, 0, 0, 0, s) = some (.inr (ng, m, 0, 0, 0, s)) → loopN (n + 1) g (ng, m, 0, 0, 0, s) = some (ng, m, 0, 0, 0, s) := fun g hg => by
      simp only [loopN, hg]
    rw [hloop _ (by
      by_cases hp : s > 0
      · have d1 : decide (s > 0) = true := by simpa using hp
        have hr : decide (m % 10 > 0) = true := by
          rcases h4 with h4 | h4
          · omega
          · rw [Int.tmod_eq_emod_of_nonneg hm.1] at h4
            simp only [decide_eq_true_eq]
            omega
        simp only [d1, ht, hr, cond_true, Option.bind_some]
      · have d1 : decide (s > 0) = false := by simpa using hp
        simp only [d1, cond_false])]
    simp only [Option.bind_some, hs, hc, hv, hle, cond_false]
    cases ng <;> exact ⟨_, rfl⟩

theorem over_one {K : Nat} (hK : 40 < K) {m s : Int} (hm : 0 ≤ m ∧ m ≤ 9223372036854775807) (hd : okDec (m, s) = true) : ∃ r, sum_Over.f K (m, s) (1, 0) = some (r, true) := by
  obtain ⟨r, hr⟩ := numberDec_eq hK hm hd (!((decide (m < 0)) == (decide ((1 : Int) < 0))))
  have hd' := hd
  unfold okDec at hd'
  simp only [Bool.and_eq_true, decide_eq_true_eq] at hd'
  obtain ⟨⟨⟨h1, h2⟩, h3⟩, h4⟩ := hd'
  refine ⟨r, ?_⟩
  obtain ⟨w1, w2⟩ := without_one (K := K) (by omega)
  have e1 : IntKind.u64.wrap (Int.tdiv 1 1) = 1 := rfl
  have e2 : IntKind.u64.wrap (Int.tdiv m 1) = m := by rw [Int.tdiv_one, u64_in m (by omega)]
  have e3 : (if decide ((0 : Int) > 0) = true then (0 : Int) else 0) = 0 := rfl
  have e4 : IntKind.i64.wrap ((0 : Int) - 0) = 0 := rfl
  have e5 : IntKind.i64.wrap ((0 : Int) + IntKind.i64.wrap (s - 0)) = s := by rw [i64_in (s - 0) (by omega), i64_in _ (by omega)]; omega
  have e6 : decide (s < 0) = false := by simpa using h1
  unfold sum_Over.f sum_of.f
  simp only [decGood_eq, hd, show okDec ((1 : Int), (0 : Int)) = true from rfl, Option.bind_some, Bool.not_true, cond_false, show ((1 : Int) == 0) = false from rfl, abs_pos K hm, abs_pos K (m := 1) ⟨by decide, by decide⟩, shared_one (K := K) (by omega),
    show ((1 : Int) != 0) = true from rfl, cond_true, e1, e2, w1, w2, show ((1 : Int) != 1) = false from rfl, e3, e4, power_none (K := K) (by omega), e5, e6, show ([m, 0, 0, 0] : List Int).getD 0 0 = m from rfl, show ([m, 0, 0, 0] : List Int).getD 1 0 = 0 from rfl, show ([m, 0, 0, 0] : List Int).getD 2 0 = 0 from rfl, show ([m, 0, 0, 0] : List Int).getD 3 0 = 0 from rfl, hr]

end Go.Proofs.YtoobdenlgapcmaaGreat
