/- What is too wide; which batches may be. -/
import Derived.Test.YtekeaempemiciaaGreatDoorPm
set_option linter.unusedSimpArgs false
set_option linter.unusedVariables false
namespace Go.Proofs.YtekeaempemiciaaGreatDoor
open Go Go.Rf Go.Proofs Go.RowKit
open Go.IntWalk (i64_in i32_in u8_in u64_in)

theorem rtenant_eq {K : Nat} {s : List UInt8} (hK : s.length < K) (hs : s.length < 4611686018427387904) : polyglotref7_Tenant.f K s = some (okTenant s) := by
  unfold polyglotref7_Tenant.f
  rw [loop_all s tenByte false (by omega) (fun i x hx => ?_) (by simp)]
  · unfold okTenant
    cases s.all tenByte with
    | false => rfl
    | true =>
      have e : decide ((s.length : Int) ≥ 1) = !(s == []) := by
        cases s with
        | nil => rfl
        | cons a l =>
          have : (a :: l == []) = false := rfl
          rw [this, Bool.not_false, decide_eq_true_eq]
          simp only [List.length_cons]
          omega
      have e2 : decide ((s.length : Int) ≤ 16) = decide (s.length ≤ 16) := by rw [decide_eq_decide]; omega
      simp only [if_true, Option.bind_some, Bool.true_and, e, e2]
      cases s == [] <;> rfl
  · have hi := lt_at hx
    have e : decide ((i : Int) < (s.length : Int)) = true := by simpa using hi
    have a1 : decide ((x.toNat : Int) ≥ 97) = decide (97 ≤ x.toNat) := by rw [decide_eq_decide]; omega
    have a2 : decide ((x.toNat : Int) ≤ 122) = decide (x.toNat ≤ 122) := by rw [decide_eq_decide]; omega
    have a3 : decide ((x.toNat : Int) ≥ 48) = decide (48 ≤ x.toNat) := by rw [decide_eq_decide]; omega
    have a4 : decide ((x.toNat : Int) ≤ 57) = decide (x.toNat ≤ 57) := by rw [decide_eq_decide]; omega
    have a5 : ((x.toNat : Int) == 45) = (x.toNat == 45) := nat_beq _ 45
    simp only [e, idx_nat hi, Int.toNat_natCast, get_at hx, cond_true, a1, a2, a3, a4, a5]
    rw [step_nat (by omega)]
    unfold tenByte
    cases decide (97 ≤ x.toNat) <;> cases decide (x.toNat ≤ 122) <;> cases decide (48 ≤ x.toNat) <;> cases decide (x.toNat ≤ 57) <;> cases x.toNat == 45 <;> rfl

theorem rpoints_eq {K : Nat} {l : List Fam} (hK : l.length < K) (hs : l.length < 4611686018427387904) (hc : countP l < 4611686018427387904) : polyglotref7_Points.f K l = some (countP l : Int) := points_eq (b := ([], l)) hK hs hc

structure SmallQ (K : Nat) (b : Bat) : Prop where
  ten : b.1.length < K ∧ b.1.length < 4611686018427387904
  fams : b.2.length < K ∧ b.2.length < 4611686018427387904
  cnt : countP b.2 < 4611686018427387904
  all : ∀ f ∈ b.2, SmallR K f

theorem SmallQ.smallB {K : Nat} {b : Bat} (h : SmallQ K b) : SmallB K okBound riseP b := ⟨h.ten, h.fams, h.cnt, fun f hf => (h.all f hf).smallF⟩

theorem rcheck_eq {K : Nat} {b : Bat} (h : SmallQ K b) : polyglotref7_Check.f K b = some (checkB okBound riseP b) := by
  unfold polyglotref7_Check.f checkB
  rw [rtenant_eq h.ten.1 h.ten.2]
  cases okTenant b.1 with
  | false => rfl
  | true =>
    have hff := h.fams
    simp only [Option.bind_some, Bool.not_true, cond_false, Bool.true_and, rpoints_eq h.fams.1 h.fams.2 h.cnt]
    rw [loop_ix b.2.length (fun i => okFam okBound riseP (b.2.getD i nofam) && (i == 0 || Op.bytesLess (b.2.getD (i - 1) nofam).1 (b.2.getD i nofam).1)) (19 : Int) h.fams.1 (fun i hi => ?_) (by simp)]
    · rw [all_split (a := fun i => okFam okBound riseP (b.2.getD i nofam)) (b := fun i => Op.bytesLess (b.2.getD (i - 1) nofam).1 (b.2.getD i nofam).1), all_get (q := okFam okBound riseP)]
      have e2 : decide ((b.2.length : Int) > 30) = !decide (b.2.length ≤ 30) := by rw [← decide_not, decide_eq_decide]; omega
      have e3 : decide ((countP b.2 : Int) > 120) = !decide (countP b.2 ≤ 120) := by rw [← decide_not, decide_eq_decide]; omega
      unfold riseF
      rw [e2, e3]
      cases (b.2.all (okFam okBound riseP) && (List.range' 1 (b.2.length - 1)).all fun i => Op.bytesLess (b.2.getD (i - 1) nofam).1 (b.2.getD i nofam).1) <;> cases decide (b.2.length ≤ 30) <;> cases decide (countP b.2 ≤ 120) <;> rfl
    · have e : decide ((i : Int) < (b.2.length : Int)) = true := by simpa using hi
      have hm : b.2.getD i nofam ∈ b.2 := by
        rw [List.getD_eq_getElem?_getD, List.getElem?_eq_getElem hi]
        exact List.getElem_mem hi
      have hf := rfamily_eq (h.all _ hm)
      have e3 : ∀ j : Nat, b.2.getD j nofam = b.2.getD j ([], 0, [], [], []) := fun _ => rfl
      rw [e3] at hf
      simp only [e, idx_nat hi, Int.toNat_natCast, cond_true, fam_eta, hf, Option.bind_some, e3]
      rw [step_nat (by omega)]
      cases okFam okBound riseP (b.2.getD i ([], 0, [], [], [])) with
      | false => rfl
      | true =>
        simp only [Bool.not_true, cond_false, Bool.true_and]
        cases i with
        | zero => rfl
        | succ k =>
          have e1 : decide (((k + 1 : Nat) : Int) > 0) = true := by rw [decide_eq_true_eq]; omega
          have e2 : ((k + 1 : Nat) : Int) - 1 = (k : Int) := by omega
          rw [e1, e2, i64_in (k : Int) (by omega), idx_nat (by omega), Int.toNat_natCast]
          simp only [cond_true, Nat.add_sub_cancel, show (k + 1 == 0) = false from rfl, Bool.false_or]
          cases Op.bytesLess (b.2.getD k ([], 0, [], [], [])).1 (b.2.getD (k + 1) ([], 0, [], [], [])).1 <;> rfl

/-! ### What is too wide -/
def labW (x : Lab) : Bool := decide (x.1.length ≤ 100) && decide (x.2.length ≤ 100)
def ptW (p : Pt) : Bool := decide (p.1.length ≤ 12) && p.1.all labW
def famW (f : Fam) : Bool := decide (f.2.2.2.2.length ≤ 130) && decide (f.1.length ≤ 100) && decide (f.2.2.1.length ≤ 100) && decide (f.2.2.2.1.length ≤ 100) && f.2.2.2.2.all ptW

theorem gt_not (n k : Nat) : decide ((n : Int) > (k : Int)) = !decide (n ≤ k) := by rw [← decide_not, decide_eq_decide]; omega

def Narrow (b : Bat) : Prop := b.2.length ≤ 40 ∧ b.1.length ≤ 100 ∧ countP b.2 ≤ 130 ∧ ∀ f ∈ b.2, famW f = true

theorem wide_eq {K : Nat} (hK : 200 < K) {b : Bat} : ∃ w, polyglothelp_Wide.f K b = some w ∧ (w = false → Narrow b) := by
  unfold polyglothelp_Wide.f
  have e40 : decide ((b.2.length : Int) > 40) = !decide (b.2.length ≤ 40) := gt_not _ 40
  have e100 : decide ((b.1.length : Int) > 100) = !decide (b.1.length ≤ 100) := gt_not _ 100
  rw [e40, e100]
  by_cases h1 : b.2.length ≤ 40
  · by_cases h2 : b.1.length ≤ 100
    · have d1 : decide (b.2.length ≤ 40) = true := by simpa using h1
      have d2 : decide (b.1.length ≤ 100) = true := by simpa using h2
      rw [d1, d2]
      simp only [Bool.not_true, cond_false, Option.bind_some]
      refine bind_loop2 (fun x => ∃ n i : Nat, x.1 = (n : Int) ∧ x.2 = (i : Int) ∧ i ≤ b.2.length ∧ n ≤ 130 ∧ n + countP (b.2.drop i) = countP b.2 ∧ ∀ f ∈ b.2.take i, famW f = true) (fun x => b.2.length - x.2.toNat)
        (fun r => match r with | .inl _ => Narrow b | .inr t => t = true) ?_ ⟨0, 0, rfl, rfl, by omega, by omega, by simp, by simp⟩ (by show b.2.length - (0 : Int).toNat < K; omega) ?_
      · rintro ⟨_, _⟩ ⟨n, i, rfl, rfl, i1, i2, i3, i4⟩
        simp only []
        by_cases hi : i < b.2.length
        · have e : decide ((i : Int) < (b.2.length : Int)) = true := by simpa using hi
          have hgf : b.2.getD i ([], 0, [], [], []) = b.2[i] := by rw [List.getD_eq_getElem?_getD, List.getElem?_eq_getElem hi]; rfl
          have hd : b.2.drop i = b.2[i] :: b.2.drop (i + 1) := List.drop_eq_getElem_cons hi
          have hc : countP (b.2.drop i) = b.2[i].2.2.2.2.length + countP (b.2.drop (i + 1)) := by
            rw [hd]
            unfold countP
            rw [List.map_cons, List.sum_cons]
          have htk : b.2.take (i + 1) = b.2.take i ++ [b.2[i]] := by rw [List.take_add_one, List.getElem?_eq_getElem hi]; rfl
          simp only [e, idx_nat hi, Int.toNat_natCast, cond_true, hgf]
          generalize b.2[i] = f at hd hc htk ⊢
          have g2 : decide ((f.2.2.2.2.length : Int) > 130) = !decide (f.2.2.2.2.length ≤ 130) := gt_not _ 130
          have g3 : decide ((f.1.length : Int) > 100) = !decide (f.1.length ≤ 100) := gt_not _ 100
          have g4 : decide ((f.2.2.1.length : Int) > 100) = !decide (f.2.2.1.length ≤ 100) := gt_not _ 100
          have g5 : decide ((f.2.2.2.1.length : Int) > 100) = !decide (f.2.2.2.1.length ≤ 100) := gt_not _ 100
          rw [g2, g3, g4, g5]
          cases b2 : decide (f.2.2.2.2.length ≤ 130) with
          | false =>
            cases decide (IntKind.i64.wrap ((n : Int) + (f.2.2.2.2.length : Int)) > 130) <;> exact ⟨_, rfl, rfl⟩
          | true =>
            have b2' : f.2.2.2.2.length ≤ 130 := by rwa [decide_eq_true_eq] at b2
            have ew : IntKind.i64.wrap ((n : Int) + (f.2.2.2.2.length : Int)) = ((n + f.2.2.2.2.length : Nat) : Int) := by rw [i64_in _ (by omega)]; omega
            have g1 : decide (((n + f.2.2.2.2.length : Nat) : Int) > 130) = !decide (n + f.2.2.2.2.length ≤ 130) := gt_not _ 130
            rw [ew, g1]
            cases b1 : decide (n + f.2.2.2.2.length ≤ 130) with
            | false => exact ⟨_, rfl, rfl⟩
            | true =>
              rw [decide_eq_true_eq] at b1
              cases b3 : decide (f.1.length ≤ 100) with
              | false => exact ⟨_, rfl, rfl⟩
              | true =>
                cases b4 : decide (f.2.2.1.length ≤ 100) with
                | false => exact ⟨_, rfl, rfl⟩
                | true =>
                  cases b5 : decide (f.2.2.2.1.length ≤ 100) with
                  | false => exact ⟨_, rfl, rfl⟩
                  | true =>
                    simp only [Bool.not_true, cond_false, Option.bind_some]
                    rw [loop_all f.2.2.2.2 ptW true (by omega) (fun k p hp => ?_) (by simp)]
                    · have hw : famW f = f.2.2.2.2.all ptW := by
                        unfold famW
                        rw [b3, b4, b5]
                        rw [b2]
                        rfl
                      cases hall : f.2.2.2.2.all ptW with
                      | false => exact ⟨_, rfl, rfl⟩
                      | true =>
                        refine ⟨_, rfl, ⟨n + f.2.2.2.2.length, i + 1, rfl, step_nat (by omega), by omega, b1, by omega, ?_⟩, ?_⟩
                        · rw [htk]
                          intro g hg
                          rcases List.mem_append.1 hg with hg | hg
                          · exact i4 g hg
                          · rw [List.mem_singleton] at hg
                            subst hg
                            rw [hw, hall]
                        · show b.2.length - (IntKind.i64.wrap ((i : Int) + 1)).toNat < b.2.length - ((i : Int)).toNat
                          rw [step_nat (by omega)]
                          omega
                    · have hk := lt_at hp
                      have ek : decide ((k : Int) < (f.2.2.2.2.length : Int)) = true := by simpa using hk
                      simp only [ek, idx_nat hk, Int.toNat_natCast, cond_true, getPt hp]
                      have g6 : decide ((p.1.length : Int) > 12) = !decide (p.1.length ≤ 12) := gt_not _ 12
                      rw [g6]
                      unfold ptW
                      cases b6 : decide (p.1.length ≤ 12) with
                      | false => rfl
                      | true =>
                        rw [decide_eq_true_eq] at b6
                        simp only [Bool.not_true, cond_false, Bool.true_and]
                        rw [loop_all p.1 labW true (by omega) (fun j x hx => ?_) (by simp)]
                        · rw [step_nat (by omega)]
                          cases p.1.all labW <;> rfl
                        · have hj := lt_at hx
                          have ej : decide ((j : Int) < (p.1.length : Int)) = true := by simpa using hj
                          have g7 : decide ((x.1.length : Int) > 100) = !decide (x.1.length ≤ 100) := gt_not _ 100
                          have g8 : decide ((x.2.length : Int) > 100) = !decide (x.2.length ≤ 100) := gt_not _ 100
                          simp only [ej, idx_nat hj, Int.toNat_natCast, cond_true, get_at hx, g7, g8]
                          rw [step_nat (by omega)]
                          unfold labW
                          cases decide (x.1.length ≤ 100) <;> cases decide (x.2.length ≤ 100) <;> rfl
        · have e : decide ((i : Int) < (b.2.length : Int)) = false := by simpa using hi
          have hd : b.2.drop i = [] := List.drop_eq_nil_iff.2 (by omega)
          have ht : b.2.take i = b.2 := List.take_of_length_le (by omega)
          rw [e]
          rw [hd] at i3
          rw [ht] at i4
          refine ⟨_, rfl, ?_⟩
          exact ⟨h1, h2, by have : countP ([] : List Fam) = 0 := rfl; omega, i4⟩
      · rintro (u | t) hQ
        · exact ⟨_, rfl, fun _ => hQ⟩
        · have hQ' : t = true := hQ
          subst hQ'
          exact ⟨_, rfl, fun h => by cases h⟩
    · have d1 : decide (b.2.length ≤ 40) = true := by simpa using h1
      have d2 : decide (b.1.length ≤ 100) = false := by simpa using h2
      rw [d1, d2]
      exact ⟨_, rfl, fun h => by cases h⟩
  · have d1 : decide (b.2.length ≤ 40) = false := by simpa using h1
    rw [d1]
    exact ⟨_, rfl, fun h => by cases h⟩

/-- The numbers of a batch are numbers of 64 bits. -/
def BatIn (b : Bat) : Prop := ∀ f ∈ b.2, ∀ p ∈ f.2.2.2.2, PtIn p

theorem small_of {b : Bat} (h : Narrow b) (hi : BatIn b) : SmallQ 1000 b := by
  obtain ⟨h1, h2, h3, h4⟩ := h
  refine ⟨by omega, by omega, by omega, fun f hf => ?_⟩
  have h5 := h4 f hf
  unfold famW at h5
  simp only [Bool.and_eq_true, decide_eq_true_eq, List.all_eq_true] at h5
  obtain ⟨⟨⟨⟨q1, q2⟩, q3⟩, q4⟩, q5⟩ := h5
  refine ⟨by omega, by omega, by omega, fun p hp => ?_, fun p hp => hi f hf p hp⟩
  have h6 := q5 p hp
  unfold ptW at h6
  simp only [Bool.and_eq_true, decide_eq_true_eq, List.all_eq_true] at h6
  refine ⟨by omega, by omega, fun x hx => ?_⟩
  have h7 := h6.2 x hx
  unfold labW at h7
  simp only [Bool.and_eq_true, decide_eq_true_eq] at h7
  omega

end Go.Proofs.YtekeaempemiciaaGreatDoor
