/- How points are compared, by the program. -/
import Derived.Test.YtoobdenlgapcmaaGreatPh
set_option linter.unusedSimpArgs false
set_option linter.unusedVariables false
namespace Go.Proofs.YtoobdenlgapcmaaGreat
open Go Go.Rf Go.Proofs Go.RowKit
open Go.IntWalk (i64_in i32_in u8_in u64_in)

/-! ### Texts -/
theorem cmpL_cases : ∀ a b : List UInt8, cmpL a b = 0 ∨ cmpL a b = -1 ∨ cmpL a b = 1
  | [], [] => .inl rfl
  | [], _ :: _ => .inr (.inl rfl)
  | _ :: _, [] => .inr (.inr rfl)
  | a :: x, b :: y => by
    unfold cmpL
    split
    · exact cmpL_cases x y
    · split
      · exact .inr (.inl rfl)
      · exact .inr (.inr rfl)

theorem cmpL_eq : ∀ a b : List UInt8, cmpL a b = 0 ↔ a = b
  | [], [] => by simp [cmpL]
  | [], _ :: _ => by simp [cmpL]
  | _ :: _, [] => by simp [cmpL]
  | a :: x, b :: y => by
    unfold cmpL
    by_cases h : a = b
    · rw [if_pos h, cmpL_eq x y]
      simp [h]
    · rw [if_neg h]
      by_cases h2 : a < b
      · simp [h2, h]
      · simp [h2, h]

theorem less_eq : ∀ a b : List UInt8, Op.bytesLess a b = decide (cmpL a b = -1)
  | [], [] => by simp [Op.bytesLess, cmpL]
  | [], _ :: _ => by simp [Op.bytesLess, cmpL]
  | _ :: _, [] => by simp [Op.bytesLess, cmpL]
  | a :: x, b :: y => by
    have ih := less_eq x y
    unfold cmpL
    by_cases h : a = b
    · subst h
      rw [if_pos rfl, ← ih]
      simp [Op.bytesLess]
    · rw [if_neg h]
      by_cases h2 : a < b
      · simp [h2, Op.bytesLess]
      · simp [h2, Op.bytesLess, h]

/-! ### Labels -/
def cmpLab (x y : Lab) : Int := orI (cmpL x.1 y.1) (cmpL x.2 y.2)
def cmpLabs : List Lab → List Lab → Int
  | [], [] => 0
  | [], _ :: _ => -1
  | _ :: _, [] => 1
  | x :: a, y :: b => orI (cmpLab x y) (cmpLabs a b)

theorem or_eq {K : Nat} (l : List Int) (hK : l.length < K) (hs : l.length < 4611686018427387904) : cmp_Or_int.f K l = some (l.foldr orI 0) := by
  unfold cmp_Or_int.f
  rw [loop_row l (fun x => if x != 0 then some x else none) hK (fun i x hx => ?_) (by simp)]
  · have : l.foldr orI 0 = (l.findSome? fun x => if x != 0 then some x else none).getD 0 := by
      clear hK hs
      induction l with
      | nil => rfl
      | cons a l ih =>
        rw [List.foldr_cons, List.findSome?_cons, ih]
        unfold orI
        by_cases h : a = 0
        · simp [h]
        · simp [h]
    rw [this]
    cases l.findSome? fun x => if x != 0 then some x else none <;> rfl
  · have hi := lt_at hx
    have e : decide ((i : Int) < (l.length : Int)) = true := by simpa using hi
    simp only [e, idx_nat hi, Int.toNat_natCast, get_at hx, cond_true]
    rw [step_nat (by omega)]
    by_cases h : x = 0
    · subst h
      rfl
    · have e2 : (x != 0) = true := by simpa using h
      simp [e2]

theorem lab1_eq {K : Nat} (hK : 4 < K) (x y : Lab) : label_Compare_1.f K x y = some (cmpLab x y) := by
  unfold label_Compare_1.f strings_Compare.f bytealg_CompareString.f cmpLab
  simp only [Option.bind_some]
  rw [or_eq _ (by simp only [List.length_cons, List.length_nil]; omega) (by simp only [List.length_cons, List.length_nil]; omega)]
  simp only [List.foldr_cons, List.foldr_nil, Option.bind_some]
  congr 2
  unfold orI
  by_cases h : cmpL x.2 y.2 = 0 <;> simp [h]

theorem labs_eq {K : Nat} {a b : List Lab} (hK : a.length + 4 < K) (hs : a.length < 4611686018427387904) : label_Compare.f K a b = some (cmpLabs a b) := by
  have hr : ∃ t, label_Compare.f K a b = some t ∧ t = cmpLabs a b := by
    unfold label_Compare.f
    refine bind_loop2 (fun s => ∃ i : Nat, s = (i : Int) ∧ i ≤ a.length ∧ i ≤ b.length ∧ cmpLabs (a.drop i) (b.drop i) = cmpLabs a b) (fun s => a.length - s.toNat)
      (fun r => match r with | .inl _ => (if a.length < b.length then (-1 : Int) else 0) = cmpLabs a b | .inr v => v = cmpLabs a b) ?_ ⟨0, rfl, by omega, by omega, rfl⟩ (by show a.length - (0 : Int).toNat < K; omega) ?_
    · rintro _ ⟨i, rfl, h1, h2, h3⟩
      simp only []
      by_cases ha : i < a.length
      · have e : decide ((i : Int) < (a.length : Int)) = true := by simpa using ha
        have hd : a.drop i = a[i] :: a.drop (i + 1) := List.drop_eq_getElem_cons ha
        rw [e, idx_nat ha]
        by_cases hb : i < b.length
        · have e2 : decide ((i : Int) ≥ (b.length : Int)) = false := by simpa using hb
          have hd' : b.drop i = b[i] :: b.drop (i + 1) := List.drop_eq_getElem_cons hb
          have ga : a.getD i nolab = a[i] := by rw [List.getD_eq_getElem?_getD, List.getElem?_eq_getElem ha]; rfl
          have gb : b.getD i nolab = b[i] := by rw [List.getD_eq_getElem?_getD, List.getElem?_eq_getElem hb]; rfl
          unfold nolab at ga gb
          rw [hd, hd', cmpLabs] at h3
          simp only [e2, idx_nat hb, cond_true, cond_false, Int.toNat_natCast, ga, gb, lab1_eq (show 4 < K by omega), Option.bind_some]
          by_cases h0 : cmpLab a[i] b[i] = 0
          · rw [h0]
            refine ⟨_, rfl, ⟨i + 1, step_nat (by omega), by omega, by omega, ?_⟩, ?_⟩
            · rw [← h3, h0]
              rfl
            · show a.length - (IntKind.i64.wrap ((i : Int) + 1)).toNat < a.length - ((i : Int)).toNat
              rw [step_nat (by omega)]
              omega
          · have e3 : (cmpLab a[i] b[i] != 0) = true := by simpa using h0
            rw [e3]
            refine ⟨_, rfl, ?_⟩
            show cmpLab a[i] b[i] = _
            rw [← h3]
            unfold orI
            rw [if_neg h0]
        · have e2 : decide ((i : Int) ≥ (b.length : Int)) = true := by simpa using hb
          have hd' : b.drop i = [] := List.drop_eq_nil_iff.2 (by omega)
          rw [hd, hd', cmpLabs] at h3
          rw [e2]
          exact ⟨_, rfl, h3⟩
      · have e : decide ((i : Int) < (a.length : Int)) = false := by simpa using ha
        have hd : a.drop i = [] := List.drop_eq_nil_iff.2 (by omega)
        rw [e]
        refine ⟨_, rfl, ?_⟩
        show (if a.length < b.length then (-1 : Int) else 0) = cmpLabs a b
        rw [← h3, hd]
        by_cases hb : i < b.length
        · have hd' : b.drop i = b[i] :: b.drop (i + 1) := List.drop_eq_getElem_cons hb
          rw [hd', if_pos (by omega)]
          rfl
        · have hd' : b.drop i = [] := List.drop_eq_nil_iff.2 (by omega)
          rw [hd', if_neg (by omega)]
          rfl
    · rintro (u | v) hQ
      · have hQ' : (if a.length < b.length then (-1 : Int) else 0) = cmpLabs a b := hQ
        rw [← hQ']
        by_cases h : a.length < b.length
        · have e : decide ((a.length : Int) < (b.length : Int)) = true := by simpa using h
          rw [if_pos h]
          simp only [e]
          exact ⟨_, rfl, rfl⟩
        · have e : decide ((a.length : Int) < (b.length : Int)) = false := by simpa using h
          rw [if_neg h]
          simp only [e]
          exact ⟨_, rfl, rfl⟩
      · exact ⟨_, rfl, hQ⟩
  obtain ⟨t, h1, h2⟩ := hr
  rw [h1, h2]

/-! ### Points -/
def flagI (b : Bool) : Int := if b then 1 else 0
def cmpP (p q : Pt) : Int := orI (cmpLabs p.1 q.1) (orI (cmpI (flagI p.2.2.2.2.2.2.2.1) (flagI q.2.2.2.2.2.2.2.1)) (orI (cmpI p.2.2.2.2.2.2.2.2 q.2.2.2.2.2.2.2.2) (orI (cmpI p.2.1 q.2.1) (orI (cmpI (flagI p.2.2.1) (flagI q.2.2.1)) (cmpD (p.2.2.2.1, p.2.2.2.2.1) (q.2.2.2.1, q.2.2.2.2.1))))))

theorem bools_eq (K : Nat) (a b : Bool) : point_bools.f K a b = some (cmpI (flagI a) (flagI b)) := by cases a <;> cases b <;> rfl
theorem cmp64_eq (K : Nat) (x y : Int) : cmp_Compare_int64.f K x y = some (cmpI x y) := by
  unfold cmp_Compare_int64.f cmp_isNaN_int64.f cmpI
  have e : ∀ z : Int, (z != z) = false := fun z => by simp
  simp only [e, Option.bind_some, cond_false]
  by_cases h1 : x < y
  · simp [h1]
  · by_cases h2 : x > y
    · simp [h1, h2]
    · simp [h1, h2]
theorem cmpint_eq (K : Nat) (x y : Int) : cmp_Compare_int.f K x y = some (cmpI x y) := by
  unfold cmp_Compare_int.f cmp_isNaN_int.f cmpI
  have e : ∀ z : Int, (z != z) = false := fun z => by simp
  simp only [e, Option.bind_some, cond_false]
  by_cases h1 : x < y
  · simp [h1]
  · by_cases h2 : x > y
    · simp [h1, h2]
    · simp [h1, h2]

theorem orI_zero (c : Int) : orI c 0 = c := by
  unfold orI
  by_cases h : c = 0 <;> simp [h]

/-- A point's numbers are numbers of 64 bits. -/
def PtIn (p : Pt) : Prop := I64 p.2.2.2.1

theorem pointCmp_eq {K : Nat} {p q : Pt} (hK : p.1.length + 40 < K) (hs : p.1.length < 4611686018427387904) (hp : PtIn p) (hq : PtIn q) : point_Compare.f K p q = some (cmpP p q) := by
  unfold point_Compare.f cmpP
  simp only [labs_eq (K := K) (a := p.1) (b := q.1) (by omega) hs, bools_eq, cmp64_eq, cmpint_eq, Option.bind_some, sumCompare_eq (K := K) (show 40 < K by omega) (a := (p.2.2.2.1, p.2.2.2.2.1)) (b := (q.2.2.2.1, q.2.2.2.2.1)) hp hq]
  rw [or_eq _ (by simp only [List.length_cons, List.length_nil]; omega) (by simp only [List.length_cons, List.length_nil]; omega)]
  simp only [List.foldr_cons, List.foldr_nil, Option.bind_some, orI_zero]

def nopt : Pt := ([], 0, false, 0, 0, 0, 0, false, 0)
def riseP (l : List Pt) : Bool := (List.range' 1 (l.length - 1)).all fun i => decide (cmpP (l.getD (i - 1) nopt) (l.getD i nopt) < 0)

theorem riseP_eq {K : Nat} {l : List Pt} (hK : l.length < K) (hs : l.length < 4611686018427387904) (hl : ∀ p ∈ l, (p.1.length + 40 < K ∧ p.1.length < 4611686018427387904) ∧ PtIn p) : family_rises.f K l = some (riseP l) := by
  unfold family_rises.f
  rw [loop_pairs l.length (fun i => decide (cmpP (l.getD (i - 1) nopt) (l.getD i nopt) < 0)) false hK (fun k hi => ?_) (fun m hm => ?_)]
  · unfold riseP
    cases (List.range' 1 (l.length - 1)).all fun i => decide (cmpP (l.getD (i - 1) nopt) (l.getD i nopt) < 0) <;> rfl
  · have e : decide (((k + 1 : Nat) : Int) < (l.length : Int)) = true := by simpa using (by omega : ((k + 1 : Nat) : Int) < (l.length : Int))
    have e2 : ((k + 1 : Nat) : Int) - 1 = (k : Int) := by omega
    have g1 : l.getD k nopt ∈ l := by
      rw [List.getD_eq_getElem?_getD, List.getElem?_eq_getElem (by omega : k < l.length)]
      exact List.getElem_mem _
    have g2 : l.getD (k + 1) nopt ∈ l := by
      rw [List.getD_eq_getElem?_getD, List.getElem?_eq_getElem hi]
      exact List.getElem_mem _
    have h1 := hl _ g1
    have h2 := hl _ g2
    have hc := pointCmp_eq h1.1.1 h1.1.2 h1.2 h2.2
    unfold nopt at hc
    simp only [e, e2, i64_in (k : Int) (by omega), idx_nat (show k < l.length from by omega), idx_nat hi, Int.toNat_natCast, step_nat (show k + 1 < 9000000000000000000 from by omega), cond_true, Nat.add_sub_cancel, pt_eta, hc, Option.bind_some]
    unfold nopt
    generalize cmpP (l.getD k ([], 0, false, 0, 0, 0, 0, false, 0)) (l.getD (k + 1) ([], 0, false, 0, 0, 0, 0, false, 0)) = c
    by_cases h : c < 0
    · have e3 : decide (c ≥ 0) = false := by simpa using h
      simp [e3, h]
    · have e3 : decide (c ≥ 0) = true := by simpa using h
      simp [e3, h]
  · have e : decide (m < (l.length : Int)) = false := by simpa using hm
    simp only [e, cond_false]

/-- Is the bound as it may be? -/
def okBound (p : Pt) : Bool :=
  bif p.2.1 == 1 && !p.2.2.1 then okDec (p.2.2.2.1, p.2.2.2.2.1)
  else bif p.2.1 == 2 then !p.2.2.1 && okDec (p.2.2.2.1, p.2.2.2.2.1) && decide (0 ≤ p.2.2.2.1) && decide (cmpD (p.2.2.2.1, p.2.2.2.2.1) (1, 0) ≤ 0)
  else (p.2.2.2.1 == 0 && p.2.2.2.2.1 == 0) && (p.2.1 == 1 || !p.2.2.1)

theorem isBound_eq {K : Nat} (hK : 40 < K) {p : Pt} (hp : PtIn p) : point_isBound.f K p = some (okBound p) := by
  unfold point_isBound.f okBound
  simp only [decGood_eq, Option.bind_some, sumCompare_eq hK (a := (p.2.2.2.1, p.2.2.2.2.1)) (b := (1, 0)) hp ⟨by decide, by decide⟩, Bool.and_true]
  rw [show decide (p.2.2.2.1 ≥ 0) = decide (0 ≤ p.2.2.2.1) from rfl]
  generalize okDec (p.2.2.2.1, p.2.2.2.2.1) = x1
  generalize decide (0 ≤ p.2.2.2.1) = x2
  generalize decide (cmpD (p.2.2.2.1, p.2.2.2.2.1) (1, 0) ≤ 0) = x3
  generalize (p.2.2.2.1 == 0 && p.2.2.2.2.1 == 0) = x4
  cases p.2.1 == 1 <;> cases p.2.1 == 2 <;> cases p.2.2.1 <;> cases x1 <;> cases x2 <;> cases x4 <;> rfl

end Go.Proofs.YtoobdenlgapcmaaGreat
