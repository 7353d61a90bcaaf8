/- What the reference's functions of families and batches answer on classes: the same. -/
import Derived.Test.YtekeaempemiciaaGreatDoorPq
set_option linter.unusedSimpArgs false
set_option linter.unusedVariables false
namespace Go.Proofs.YtekeaempemiciaaGreatDoor
open Go Go.Rf Go.Proofs Go.RowKit
open Go.IntWalk (i64_in i32_in u8_in u64_in)

theorem rlabelsC_eq {K : Nat} {p : Int} (hp : p = 1 ∨ p = 2 ∨ p = 3 ∨ p = 4) {l : List Lab} (hK : l.length + 64 < K) (hs : l.length < 4611686018427387904) : polyglotref12_labels.f K p l true = some (l.all fun x => okIs p 1 x.1 && okVal p x.2) := by
  unfold polyglotref12_labels.f
  rw [loop_all l (fun x => okIs p 1 x.1 && okVal p x.2) false (by omega) (fun i x hx => ?_) (by simp)]
  · cases l.all fun x => okIs p 1 x.1 && okVal p x.2 <;> rfl
  · have hi := lt_at hx
    have e : decide ((i : Int) < (l.length : Int)) = true := by simpa using hi
    simp only [e, idx_nat hi, Int.toNat_natCast, get_at hx, cond_true, ris_eq hp (.inr rfl) x.1 (show 64 < K by omega), rclassValue_eq p x.2 (show 64 < K by omega), Option.bind_some]
    rw [step_nat (by omega)]
    cases okIs p 1 x.1 <;> cases okVal p x.2 <;> rfl

def unitByte (c : UInt8) : Bool := isLet c true || c.toNat == 95 || c.toNat == 58

theorem unit_form (name unit : List UInt8) : okUnit name unit = (unit.all unitByte && (unit == [] || (decide (unit.length + 1 ≤ name.length) && ((name.getD (name.length - unit.length - 1) 0).toNat == 95 && name.drop (name.length - unit.length) == unit)))) := by
  unfold okUnit
  have h1 : ((List.range unit.length).all fun i => legal 1 0 (95 :: unit) (i + 1)) = unit.all unitByte := by
    rw [← all_get (d := 0) (q := unitByte)]
    congr 1
    funext i
    unfold legal legalC unitByte
    simp only [show ((1 : Int) == 1) = true from rfl, cond_true, List.getD_cons_succ, show decide (0 < i + 1) = true from by simp, show ((0 : Int) == 0) = true from rfl, Bool.and_true]
  rw [h1]
  congr 2
  by_cases hl : unit.length + 1 ≤ name.length
  · have d : decide (unit.length + 1 ≤ name.length) = true := by simpa using hl
    rw [d, Bool.true_and, Bool.true_and]
    have hi : name.length - (unit.length + 1) < name.length := by omega
    rw [List.drop_eq_getElem_cons hi]
    have e1 : name.length - (unit.length + 1) + 1 = name.length - unit.length := by omega
    have e2 : name.length - unit.length - 1 = name.length - (unit.length + 1) := by omega
    rw [e1, e2]
    have hg : name.getD (name.length - (unit.length + 1)) 0 = name[name.length - (unit.length + 1)] := by rw [List.getD_eq_getElem?_getD, List.getElem?_eq_getElem hi]; rfl
    rw [hg]
    show (name[name.length - (unit.length + 1)] == 95 && name.drop (name.length - unit.length) == unit) = _
    congr 1
    rw [Bool.eq_iff_iff, beq_iff_eq, beq_iff_eq]
    exact UInt8.toNat_inj.symm
  · have d : decide (unit.length + 1 ≤ name.length) = false := by simpa using hl
    rw [d, Bool.false_and, Bool.false_and]

theorem runit_eq {K : Nat} {h : List UInt8 × Int × List UInt8 × List UInt8} (hK : h.2.2.1.length + 4 < K) (hs : h.2.2.1.length < 100000) (hn : h.1.length < 4611686018427387904) : polyglotref12_unit.f K h = some (okUnit h.1 h.2.2.1) := by
  rw [unit_form]
  unfold polyglotref12_unit.f
  rw [loop_all h.2.2.1 unitByte false (by omega) (fun i x hx => ?_) (by simp)]
  · cases h.2.2.1.all unitByte with
    | false => rfl
    | true =>
      simp only [if_true, Option.bind_some, Bool.true_and]
      cases h.2.2.1 == [] with
      | true => rfl
      | false =>
        simp only [cond_false, Bool.false_or]
        have ew : IntKind.i64.wrap ((h.1.length : Int) - (h.2.2.1.length : Int)) = (h.1.length : Int) - (h.2.2.1.length : Int) := i64_in _ (by omega)
        rw [ew]
        by_cases hl : h.2.2.1.length + 1 ≤ h.1.length
        · have d : decide (h.2.2.1.length + 1 ≤ h.1.length) = true := by simpa using hl
          have e1 : decide ((h.1.length : Int) - (h.2.2.1.length : Int) ≥ 1) = true := by rw [decide_eq_true_eq]; omega
          have e2 : (h.1.length : Int) - (h.2.2.1.length : Int) = ((h.1.length - h.2.2.1.length : Nat) : Int) := by omega
          have e3 : IntKind.i64.wrap (((h.1.length - h.2.2.1.length : Nat) : Int) - 1) = ((h.1.length - h.2.2.1.length - 1 : Nat) : Int) := by rw [i64_in _ (by omega)]; omega
          rw [d, e1, e2, e3, idx_nat (by omega), Int.toNat_natCast, Int.toNat_natCast]
          have e4 : (decide (0 ≤ ((h.1.length - h.2.2.1.length : Nat) : Int)) && decide (((h.1.length - h.2.2.1.length : Nat) : Int) ≤ (h.1.length : Int))) = true := by
            rw [Bool.and_eq_true, decide_eq_true_eq, decide_eq_true_eq]
            omega
          rw [e4, List.take_length]
          have e5 : (((h.1.getD (h.1.length - h.2.2.1.length - 1) 0).toNat : Int) == 95) = ((h.1.getD (h.1.length - h.2.2.1.length - 1) 0).toNat == 95) := nat_beq _ 95
          rw [e5]
          simp only [cond_true, Bool.true_and]
          cases (h.1.getD (h.1.length - h.2.2.1.length - 1) 0).toNat == 95 <;> rfl
        · have d : decide (h.2.2.1.length + 1 ≤ h.1.length) = false := by simpa using hl
          have e1 : decide ((h.1.length : Int) - (h.2.2.1.length : Int) ≥ 1) = false := by rw [decide_eq_false_iff_not]; omega
          rw [d, e1]
          rfl
  · have hi := lt_at hx
    have e : decide ((i : Int) < (h.2.2.1.length : Int)) = true := by simpa using hi
    have a1 : ((x.toNat : Int) != 95) = !(x.toNat == 95) := nat_bne _ 95
    have a2 : ((x.toNat : Int) != 58) = !(x.toNat == 58) := nat_bne _ 58
    simp only [e, idx_nat hi, Int.toNat_natCast, get_at hx, cond_true, rletter_eq, rdigit_eq, Option.bind_some, a1, a2]
    rw [step_nat (by omega)]
    unfold unitByte
    rw [isLet_dig x true]
    cases isLet x false <;> cases isDig x <;> cases (x.toNat == 95) <;> cases (x.toNat == 58) <;> rfl

theorem rkindsC_eq (K : Nat) (p : Int) : polyglotref12_Kinds.f K p = some (okKinds p) := by
  unfold polyglotref12_Kinds.f okKinds
  cases p == 1 <;> cases p == 2 <;> cases p == 3 <;> cases p == 4 <;> rfl

theorem contains_snoc (l : List Int) (x y : Int) : (l ++ [y]).contains x = (l.contains x || y == x) := by
  rw [Bool.eq_iff_iff, Bool.or_eq_true, List.contains_iff_mem, List.contains_iff_mem, List.mem_append, List.mem_singleton, beq_iff_eq]
  constructor
  · rintro (h | h)
    · exact .inl h
    · exact .inr h.symm
  · rintro (h | h)
    · exact .inl h
    · exact .inr h.symm

/-- Points whose times may be. -/
theorem rfamilyC_eq {K : Nat} {p : Int} (hp : p = 1 ∨ p = 2 ∨ p = 3 ∨ p = 4) {f : Fam} (h : SmallC K f) (hK : 200 < K) (hT : ∀ q ∈ f.2.2.2.2, isT q.2.2.2.2.2.2.2.2 = true) : polyglotref12_family.f K p f = some (okF p f) := by
  have h1 := h.pts
  have h2 := kinds_len p
  have hr : ∃ t, polyglotref12_family.f K p f = some t ∧ t = okF p f := by
    unfold polyglotref12_family.f
    rw [rkindsC_eq]
    simp only [Option.bind_some]
    refine bind_loop2 (fun s => ∃ i : Nat, s.2 = (i : Int) ∧ i ≤ (okKinds p).length ∧ s.1 = ((okKinds p).take i).contains f.2.1) (fun s => (okKinds p).length - s.2.toNat) (fun r => r = (okKinds p).contains f.2.1) ?_ ⟨0, rfl, by omega, rfl⟩ (by show (okKinds p).length - (0 : Int).toNat < K; omega) ?_
    · rintro ⟨_, _⟩ ⟨i, rfl, i1, rfl⟩
      simp only []
      by_cases hi : i < (okKinds p).length
      · have e : decide ((i : Int) < ((okKinds p).length : Int)) = true := by simpa using hi
        have hg : (okKinds p).getD i 0 = (okKinds p)[i] := by rw [List.getD_eq_getElem?_getD, List.getElem?_eq_getElem hi]; rfl
        have htk : (okKinds p).take (i + 1) = (okKinds p).take i ++ [(okKinds p)[i]] := by rw [List.take_add_one, List.getElem?_eq_getElem hi]; rfl
        have hm : (okKinds p).length - (IntKind.i64.wrap ((i : Int) + 1)).toNat < (okKinds p).length - ((i : Int)).toNat := by
          rw [step_nat (by omega)]
          omega
        simp only [e, idx_nat hi, cond_true, Int.toNat_natCast, hg]
        cases hc : ((okKinds p).take i).contains f.2.1 with
        | true => exact ⟨_, rfl, ⟨i + 1, step_nat (by omega), by omega, by rw [htk, contains_snoc, hc]; rfl⟩, hm⟩
        | false => exact ⟨_, rfl, ⟨i + 1, step_nat (by omega), by omega, by rw [htk, contains_snoc, hc]; rfl⟩, hm⟩
      · have e : decide ((i : Int) < ((okKinds p).length : Int)) = false := by simpa using hi
        have ht : (okKinds p).take i = okKinds p := List.take_of_length_le (by omega)
        rw [e, ht]
        exact ⟨_, rfl, rfl⟩
    · rintro r hr
      have hr' : r = (okKinds p).contains f.2.1 := hr
      subst hr'
      have hu : polyglotref12_unit.f K (f.1, f.2.1, f.2.2.1, f.2.2.2.1) = some (okUnit f.1 f.2.2.1) := runit_eq (h := (f.1, f.2.1, f.2.2.1, f.2.2.2.1)) h.unit.1 h.unit.2 h.name
      have e0 : ((f.2.2.2.2.length : Int) == 0) = (f.2.2.2.2.length == 0) := nat_beq _ 0
      simp only [ris_eq hp (.inl rfl) f.1 (show 64 < K by omega), hu, e0, Option.bind_some]
      unfold okF
      cases (okKinds p).contains f.2.1 with
      | false => exact ⟨_, rfl, rfl⟩
      | true =>
        cases okIs p 0 f.1 with
        | false => exact ⟨_, rfl, rfl⟩
        | true =>
          simp only [Bool.not_true, cond_false, Option.bind_some, Bool.true_and]
          have e1 : ((bif p == 1 then bif !okUnit f.1 f.2.2.1 then some true else bif p != 1 then (bif !(f.2.2.1 == []) then some true else bif !(f.2.2.2.1 == []) then some true else some (f.2.2.2.2.length == 0)) else some false
              else bif p != 1 then (bif !(f.2.2.1 == []) then some true else bif !(f.2.2.2.1 == []) then some true else some (f.2.2.2.2.length == 0)) else some false) : Option Bool) = some (!(bif p == 1 then okUnit f.1 f.2.2.1 else f.2.2.1 == [] && f.2.2.2.1 == [] && !(f.2.2.2.2.length == 0))) := by
            unfold bne
            cases p == 1 <;> cases okUnit f.1 f.2.2.1 <;> cases f.2.2.1 == [] <;> cases f.2.2.2.1 == [] <;> cases f.2.2.2.2.length == 0 <;> rfl
          rw [e1]
          cases (bif p == 1 then okUnit f.1 f.2.2.1 else f.2.2.1 == [] && f.2.2.2.1 == [] && !(f.2.2.2.2.length == 0)) with
          | false => exact ⟨_, rfl, rfl⟩
          | true =>
            simp only [Bool.not_true, cond_false, Option.bind_some, Bool.true_and]
            rw [loop_all f.2.2.2.2 (okPoint p) false (by omega) (fun i q hq => ?_) (by simp)]
            · cases f.2.2.2.2.all (okPoint p) <;> exact ⟨_, rfl, rfl⟩
            · have hi := lt_at hq
              have e : decide ((i : Int) < (f.2.2.2.2.length : Int)) = true := by simpa using hi
              have hm := h.labs q (List.mem_of_getElem? hq)
              have ht := hT q (List.mem_of_getElem? hq)
              simp only [e, idx_nat hi, Int.toNat_natCast, cond_true, getPt hq, rlabelsC_eq hp hm.1 hm.2, Option.bind_some]
              rw [step_nat (by omega)]
              unfold okPoint
              rw [ht, Bool.true_and]
              have hv : decide (q.2.2.2.2.2.1 < 0) = !decide (0 ≤ q.2.2.2.2.2.1) := by rw [← decide_not, decide_eq_decide]; omega
              rw [hv]
              unfold bne
              generalize (q.1.all fun x => okIs p 1 x.1 && okVal p x.2) = z1
              generalize q.2.2.2.2.2.2.2.1 = z2
              generalize (Int.tmod q.2.2.2.2.2.2.2.2 1000 == 0) = z3
              generalize decide (0 ≤ q.2.2.2.2.2.1) = z4
              rcases hp with rfl | rfl | rfl | rfl <;> simp only [show ((1 : Int) == 3) = false from rfl, show ((1 : Int) == 4) = false from rfl, show ((2 : Int) == 3) = false from rfl, show ((2 : Int) == 4) = false from rfl, show ((3 : Int) == 3) = true from rfl, show ((3 : Int) == 4) = false from rfl, show ((4 : Int) == 3) = false from rfl, show ((4 : Int) == 4) = true from rfl, cond_true, cond_false] <;>
                cases z1 <;> cases z2 <;> cases z3 <;> cases z4 <;> rfl
  obtain ⟨t, t1, t2⟩ := hr
  rw [t1, t2]

theorem time_of {kind : Int} {q : Pt} (h : okPt okBound kind q = true) : isT q.2.2.2.2.2.2.2.2 = true := by
  unfold okPt at h
  simp only [Bool.and_eq_true] at h
  have h1 := h.1.2
  unfold okTime at h1
  unfold isT
  simp only [Bool.or_eq_true, Bool.and_eq_true, decide_eq_true_eq, beq_iff_eq] at h1 ⊢
  rcases h1 with h1 | h1
  · rw [h1]
    omega
  · exact ⟨h1.1.2, h1.2⟩

theorem rwhy_eq {K : Nat} (hK : 200 < K) (p : Int) {b : Bat} (h : SmallQ K b) : polyglotref12_Why.f K p b = some (whyB okBound riseP p b) := by
  unfold polyglotref12_Why.f whyB
  simp only [rcheck_eq h, risProto_eq, Option.bind_some]
  unfold bne
  cases hc : checkB okBound riseP b == 0 with
  | false =>
    rw [Bool.and_false]
    rfl
  | true =>
    rw [Bool.and_true]
    simp only [Bool.not_true, cond_false, Option.bind_some]
    cases hpr : decide (1 ≤ p) && decide (p ≤ 4) with
    | false => rfl
    | true =>
      rw [Bool.and_eq_true, decide_eq_true_eq, decide_eq_true_eq] at hpr
      have hp : p = 1 ∨ p = 2 ∨ p = 3 ∨ p = 4 := by omega
      have hall : ∀ f ∈ b.2, ∀ q ∈ f.2.2.2.2, isT q.2.2.2.2.2.2.2.2 = true := by
        have hc' : checkB okBound riseP b = 0 := eq_of_beq hc
        unfold checkB at hc'
        have h1 : (okTenant b.1 && b.2.all (okFam okBound riseP) && riseF b.2) = true := by
          cases hh : (okTenant b.1 && b.2.all (okFam okBound riseP) && riseF b.2) with
          | true => rfl
          | false => rw [hh] at hc'; cases hc'
        simp only [Bool.and_eq_true, List.all_eq_true] at h1
        intro f hf q hq
        have h2 := h1.1.2 f hf
        unfold okFam at h2
        simp only [Bool.and_eq_true, List.all_eq_true] at h2
        exact time_of (h2.1.2 q hq)
      simp only [Bool.not_true, cond_false, if_true]
      rw [loop_row b.2 (fun f => if okF p f then none else some (f.1, false)) h.fams.1 (fun i f hf => ?_) (by simp)]
      · have : (b.2.findSome? fun f => if okF p f then none else some (f.1, false)) = (b.2.find? fun f => !okF p f).map fun f => (f.1, false) := by
          generalize b.2 = l
          induction l with
          | nil => rfl
          | cons a l ih =>
            rw [List.findSome?_cons, List.find?_cons]
            cases okF p a with
            | true => simpa using ih
            | false => rfl
        rw [this]
        unfold whyF
        cases b.2.find? fun f => !okF p f <;> rfl
      · have hi := lt_at hf
        have hff := h.fams
        have e : decide ((i : Int) < (b.2.length : Int)) = true := by simpa using hi
        have hm := List.mem_of_getElem? hf
        simp only [e, idx_nat hi, Int.toNat_natCast, cond_true, get_at hf, fam_eta, rfamilyC_eq hp (h.all f hm).smallC hK (hall f hm), Option.bind_some]
        rw [step_nat (by omega)]
        cases okF p f <;> rfl

end Go.Proofs.YtekeaempemiciaaGreatDoor
