/- A point's event may be. -/
import Derived.Test.YtoobdenlgapcmaaGreatSc
set_option linter.unusedSimpArgs false
set_option linter.unusedVariables false
namespace Go.Proofs.YtoobdenlgapcmaaGreat
open Go Go.Rf Go.Proofs Go.RowKit
open Go.IntWalk (i64_in i32_in u8_in u64_in)

theorem isLabels_eq {K : Nat} (hK : 200 < K) {l : List Lab} (h : Short K l) (h1 : l.all (fun x => okIs 4 1 x.1 && okVal 4 x.2) = true) (h2 : okLabs l = true) : statprint_isLabels.f K l = some true := by
  unfold statprint_isLabels.f
  rw [loop_all l (fun x => okIs 4 1 x.1 && okVal 4 x.2) false (by have := h.1; omega) (fun i x hx => ?_) (by simp)]
  · rw [h1]
    simp only [if_true, Option.bind_some, labelGood_eq h, h2]
  · have hi := lt_at hx
    have hl := h.2.1
    have e : decide ((i : Int) < (l.length : Int)) = true := by simpa using hi
    simp only [e, idx_nat hi, Int.toNat_natCast, get_at hx, cond_true, is_eq (p := 4) (w := 1) (K := K) (by simp) (by simp) x.1 (by omega), classValue_eq (K := K) 4 x.2 (by omega), Option.bind_some, step_nat (show i < 9000000000000000000 by omega)]
    cases okIs 4 1 x.1 <;> cases okVal 4 x.2 <;> rfl

theorem one_good : okDec (1, 0) = true := rfl

theorem evGood_eq {K : Nat} (hK : 200 < K) {f : Fam} {p : Pt} (hs : Short K p.1) (hf : okIs 4 0 f.1 = true) (hp : okPt okBound f.2.1 p = true) (hq : okPoint 4 p = true) (hv : I64 p.2.2.2.2.2.1) : statprint_Good.f K (ev f p) = some true := by
  unfold okPt at hp
  unfold okPoint at hq
  simp only [Bool.and_eq_true] at hp hq
  obtain ⟨⟨⟨⟨⟨p1, p2⟩, p3⟩, p4⟩, p5⟩, p6⟩ := hp
  obtain ⟨q1, q2⟩ := hq
  have q3 : (!p.2.2.2.2.2.2.2.1 && decide (0 ≤ p.2.2.2.2.2.1)) = true := q2
  simp only [Bool.and_eq_true, decide_eq_true_eq] at q3
  unfold okVal0 at p4
  simp only [Bool.and_eq_true] at p4
  have hd : okDec (p.2.2.2.2.2.1, p.2.2.2.2.2.2.1) = true := p4.1
  have hm : 0 ≤ p.2.2.2.2.2.1 ∧ p.2.2.2.2.2.1 ≤ 9223372036854775807 := ⟨q3.2, hv.2⟩
  have hL := isLabels_eq hK hs q1 p2
  have hI : charset_Is.f K 4 0 f.1 = some true := by rw [is_eq (by simp) (by simp) f.1 (by omega), hf]
  obtain ⟨r, hr⟩ := over_one (K := K) (by omega) hm hd
  obtain ⟨r1, hr1⟩ := over_one (K := K) (by omega) (m := 1) (s := 0) ⟨by decide, by decide⟩ rfl
  have hc : sum_Compare.f K (1, 0) (1, 0) = some 0 := by
    rw [sumCompare_eq (by omega) ⟨by decide, by decide⟩ ⟨by decide, by decide⟩]
    rfl
  have hge : decide (p.2.2.2.2.2.1 ≥ 0) = true := by simpa using q3.2
  unfold statprint_Good.f statprint_isRate.f ev
  by_cases h2 : f.2.1 = 2
  · simp only [h2, if_true, hI, hL, hr, hr1, hc, hd, hge, decGood_eq, one_good, Option.bind_some, Bool.not_true, cond_false, cond_true, show ((1 : Int) != 1) = false from rfl, show decide ((1 : Int) > 0) = true from rfl, show decide ((0 : Int) ≤ 0) = true from rfl, show ((1 : Int) == 1) = true from rfl, show (([] : List UInt8) == []) = true from rfl]
  · simp only [h2, if_false, hI, hL, hd, hge, decGood_eq, Option.bind_some, Bool.not_true, cond_false, cond_true, show ((2 : Int) != 1) = true from rfl, show ((2 : Int) != 4) = true from rfl, show ((0 : Int) == 0) = true from rfl, Bool.and_self, show ((2 : Int) == 1) = false from rfl, show ((2 : Int) == 2) = true from rfl, show (([] : List UInt8) == []) = true from rfl]

theorem cmpLabs_self : ∀ l, cmpLabs l l = 0
  | [] => rfl
  | x :: l => by
    have h1 : cmpL x.1 x.1 = 0 := (cmpL_eq _ _).2 rfl
    have h2 : cmpL x.2 x.2 = 0 := (cmpL_eq _ _).2 rfl
    unfold cmpLabs cmpLab
    rw [h1, h2, cmpLabs_self l]
    rfl

theorem same_self {K : Nat} {l : List Lab} (hK : l.length + 4 < K) (hs : l.length < 4611686018427387904) : polyglotref7_SameLabels.f K l l = some true := by
  unfold polyglotref7_SameLabels.f
  rw [rlabs_eq hK hs hs, cmpLabs_self]
  rfl

theorem evB_at {l : List Fam} {i k : Nat} {f : Fam} {p : Pt} (hf : l[i]? = some f) (hp : f.2.2.2.2[k]? = some p) : (evB l)[countP (l.take i) + k]? = some (ev f p) := by
  have hlen := evB_len (l.take i)
  have hi := lt_at hf
  have hk := lt_at hp
  have e1 : evB l = evB (l.take i) ++ (evF f ++ evB (l.drop (i + 1))) := by
    have : l = l.take i ++ (f :: l.drop (i + 1)) := by
      have h1 := List.drop_eq_getElem_cons hi
      have h2 : l[i] = f := by
        rw [List.getElem?_eq_getElem hi] at hf
        exact Option.some.inj hf
      rw [h2] at h1
      rw [← h1, List.take_append_drop]
    conv => lhs; rw [this]
    unfold evB
    rw [List.flatMap_append, List.flatMap_cons]
  rw [e1, List.getElem?_append_right (by omega), List.getElem?_append_left (by rw [evF_len]; omega)]
  have e2 : countP (l.take i) + k - (evB (l.take i)).length = k := by omega
  rw [e2]
  unfold evF
  rw [List.getElem?_map, hp]
  rfl

theorem countP_succ {l : List Fam} {i : Nat} {f : Fam} (hf : l[i]? = some f) : countP (l.take (i + 1)) = countP (l.take i) + f.2.2.2.2.length := by
  rw [List.take_add_one, hf]
  unfold countP
  simp

end Go.Proofs.YtoobdenlgapcmaaGreat
