/- What the reference's functions of points, families and batches answer: the same. -/
import Derived.Test.YtekeaempemiciaaGreatDoorPk
set_option linter.unusedSimpArgs false
set_option linter.unusedVariables false
namespace Go.Proofs.YtekeaempemiciaaGreatDoor
open Go Go.Rf Go.Proofs Go.RowKit
open Go.IntWalk (i64_in i32_in u8_in u64_in)

theorem risTime_eq (K : Nat) (t : Int) : polyglotref1_IsTime.f K t = some (isT t) := by
  unfold polyglotref1_IsTime.f isT
  rw [show decide (t ≥ -1125899906842624) = decide (-1125899906842624 ≤ t) from rfl]
  cases decide (-1125899906842624 ≤ t) <;> rfl

theorem rpoint_eq {K : Nat} (kind : Int) {p : Pt} (hs : Short K p.1) (hp : PtIn p) : polyglotref7_Point.f K kind p = some (okPt okBound kind p) := by
  have h1 := hs.1
  have hz : ∀ t : Int, (t == 0) = true → isT t = true := by
    intro t ht
    rw [eq_of_beq ht]
    rfl
  have hc : decide (cmpD (p.2.2.2.1, p.2.2.2.2.1) (1, 0) > 0) = !decide (cmpD (p.2.2.2.1, p.2.2.2.2.1) (1, 0) ≤ 0) := by rw [← decide_not, decide_eq_decide]; omega
  have hm : decide (p.2.2.2.1 < 0) = !decide (0 ≤ p.2.2.2.1) := by rw [← decide_not, decide_eq_decide]; omega
  have hv : decide (p.2.2.2.2.2.1 < 0) = !decide (0 ≤ p.2.2.2.2.2.1) := by rw [← decide_not, decide_eq_decide]; omega
  unfold polyglotref7_Point.f okPt okBound okVal0 okFree okTime ownOf
  have hT : (p.2.2.2.2.2.2.2.2 == 0 || (p.2.2.2.2.2.2.2.1 && decide (-1125899906842624 ≤ p.2.2.2.2.2.2.2.2) && decide (p.2.2.2.2.2.2.2.2 ≤ 1125899906842624))) = (bif !p.2.2.2.2.2.2.2.1 then p.2.2.2.2.2.2.2.2 == 0 && isT p.2.2.2.2.2.2.2.2 else isT p.2.2.2.2.2.2.2.2) := by
    have hz' := hz p.2.2.2.2.2.2.2.2
    unfold isT at hz' ⊢
    cases h0 : p.2.2.2.2.2.2.2.2 == 0 with
    | true => rw [hz' h0]; cases p.2.2.2.2.2.2.2.1 <;> rfl
    | false => cases p.2.2.2.2.2.2.2.1 <;> simp
  rw [hT]
  simp only [hasRole_eq (K := K) (by omega), rlabels_eq hs, rgood_eq, risTime_eq, rget_eq _ (K := K) (l := p.1) (by omega) hs.2.1, rCompare_eq (K := K) (by omega) (a := (p.2.2.2.1, p.2.2.2.2.1)) (b := (1, 0)) hp ⟨by decide, by decide⟩, Option.bind_some, hc, hm, hv, Bool.and_true]
  generalize okDec (p.2.2.2.1, p.2.2.2.2.1) = x1
  generalize decide (0 ≤ p.2.2.2.1) = x2
  generalize decide (cmpD (p.2.2.2.1, p.2.2.2.2.1) (1, 0) ≤ 0) = x3
  generalize (p.2.2.2.1 == 0 && p.2.2.2.2.1 == 0) = x4
  generalize okDec (p.2.2.2.2.2.1, p.2.2.2.2.2.2.1) = x5
  generalize decide (0 ≤ p.2.2.2.2.2.1) = x6
  generalize isT p.2.2.2.2.2.2.2.2 = x7
  generalize okLabs p.1 = x8
  generalize (rolesOf kind).contains p.2.1 = x9
  unfold bne
  generalize (p.2.2.2.2.2.2.2.2 == 0) = y1
  generalize p.2.2.2.2.2.2.2.1 = y2
  generalize p.2.2.1 = y3
  have hr12 : p.2.1 == 1 → (p.2.1 == 2) = false := by intro h; rw [eq_of_beq h]; rfl
  have hr13 : p.2.1 == 1 → (p.2.1 == 3) = false := by intro h; rw [eq_of_beq h]; rfl
  have hr23 : p.2.1 == 2 → (p.2.1 == 3) = false := by intro h; rw [eq_of_beq h]; rfl
  cases x9
  · rfl
  cases x8
  · rfl
  cases k2 : kind == 2 <;> cases r1 : p.2.1 == 1 <;> cases r2 : p.2.1 == 2 <;> cases r3 : p.2.1 == 3 <;> simp only [r1, r2, r3] at hr12 hr13 hr23 <;> (try simp at hr12) <;> (try simp at hr13) <;> (try simp at hr23) <;>
    (simp only [cond_true, cond_false]
     generalize (getL p.1 [108, 101]).2 = g1
     generalize (getL p.1 [113, 117, 97, 110, 116, 105, 108, 101]).2 = g2
     generalize (getL p.1 []).2 = g0
     clear hT hc hm hv hz h1 hp hs hr12 hr13 hr23
     revert x1 x2 x3 x4 x5 x6 x7 y1 y2 y3 g1 g2 g0
     decide +kernel)

end Go.Proofs.YtekeaempemiciaaGreatDoor
