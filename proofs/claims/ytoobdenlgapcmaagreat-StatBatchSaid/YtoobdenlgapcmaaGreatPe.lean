/- What the functions of families, batches and classes answer, in plain Lean; of points' bounds and of their order by two tests that are handed in. -/
import Derived.Test.YtoobdenlgapcmaaGreatPd
set_option linter.unusedSimpArgs false
set_option linter.unusedVariables false
namespace Go.Proofs.YtoobdenlgapcmaaGreat
open Go Go.Rf Go.Proofs Go.RowKit
open Go.IntWalk (i64_in i32_in u8_in u64_in)

def okPt (bd : Pt → Bool) (kind : Int) (p : Pt) : Bool := (rolesOf kind).contains p.2.1 && okLabs p.1 && bd p && okVal0 kind p && okTime p && okFree p

theorem roles_len (kind : Int) : (rolesOf kind).length ≤ 3 := by
  unfold rolesOf
  cases (kind == 0 || kind == 1 || kind == 2) <;> cases kind == 3 <;> cases kind == 4 <;> simp

theorem pointGood_eq {K : Nat} {bd : Pt → Bool} (kind : Int) {p : Pt} (hs : Short K p.1) (hb : point_isBound.f K p = some (bd p)) : point_Good.f K kind p = some (okPt bd kind p) := by
  have h3 := roles_len kind
  have hs' := hs.1
  unfold point_Good.f okPt
  simp only [roles_eq, Option.bind_some, contains_eq p.2.1 (K := K) (l := rolesOf kind) (by omega) (by omega), labelGood_eq hs, hb, isValue_eq, isTime_eq, isFree_eq p (K := K) (by omega) hs.2.1]
  cases (rolesOf kind).contains p.2.1 <;> cases okLabs p.1 <;> cases bd p <;> cases okVal0 kind p <;> cases okTime p <;> rfl

def isKind (k : Int) : Bool := decide (0 ≤ k) && decide (k < 5)
theorem typed_eq (K : Nat) (k : Int) : ∃ t, family_Typed.f K k = some t ∧ (t == ([] : List UInt8)) = !isKind k := by
  unfold family_Typed.f family_kinds.f isKind
  simp only [Option.bind_some]
  by_cases h1 : k < 0
  · have e : decide (k < 0) = true := by simpa using h1
    have e2 : decide (0 ≤ k) = false := by simpa using h1
    rw [e, e2]
    exact ⟨_, rfl, rfl⟩
  · have e : decide (k < 0) = false := by simpa using h1
    have e2 : decide (0 ≤ k) = true := by simpa using h1
    rw [e, e2]
    by_cases h2 : k < 5
    · have h : k = 0 ∨ k = 1 ∨ k = 2 ∨ k = 3 ∨ k = 4 := by omega
      rcases h with rfl | rfl | rfl | rfl | rfl <;> exact ⟨_, rfl, rfl⟩
    · have e3 : decide (k ≥ 5) = true := by simpa using h2
      have e4 : decide (k < 5) = false := by simpa using h2
      rw [e3, e4]
      exact ⟨_, rfl, rfl⟩

/-- Is any element not so? -/
theorem any_not {α : Type} {K : Nat} {g : Int → Option (Int ⊕ (Unit ⊕ Int))} (l : List α) (q : α → Bool) (hK : l.length < K) (hg : ∀ (i : Nat) x, l[i]? = some x → g (i : Int) = some (if q x then .inl ((i + 1 : Nat) : Int) else .inr (.inr (i : Int))))
    (hn : g (l.length : Int) = some (.inr (.inl ()))) : ∃ t, loopN K g 0 = some t ∧ (match t with | .inl _ => l.all q = true | .inr i => 0 ≤ i ∧ l.all q = false) := by
  have h1 := loop_from (K := K) (g := g) (n := l.length) (fun i => if (l[i]?.map q).getD true then none else some ((i : Nat) : Int)) (fun i hi => by
    rw [hg i l[i] (List.getElem?_eq_getElem hi), List.getElem?_eq_getElem hi]
    simp only [Option.map_some, Option.getD_some]
    by_cases hq : q l[i] = true <;> simp [hq]) hn l.length 0 (by omega) hK
  rw [findSome_find] at h1
  refine ⟨_, h1, ?_⟩
  cases hf : (List.range' 0 l.length).find? fun i => !(l[i]?.map q).getD true with
  | none =>
    simp only [Option.map_none]
    rw [List.all_eq_true]
    intro x hx
    obtain ⟨i, hi, rfl⟩ := List.getElem_of_mem hx
    rw [List.find?_eq_none] at hf
    have := hf i (by rw [← List.range_eq_range']; exact List.mem_range.2 hi)
    rw [List.getElem?_eq_getElem hi] at this
    simpa using this
  | some i =>
    have h1 := List.find?_some hf
    have h2 := List.mem_of_find?_eq_some hf
    rw [← List.range_eq_range', List.mem_range] at h2
    rw [List.getElem?_eq_getElem h2] at h1
    simp only [Option.map_some]
    refine ⟨by omega, ?_⟩
    rw [List.all_eq_false]
    exact ⟨l[i], List.getElem_mem h2, by simpa using h1⟩

theorem any_bind {α T : Type} {K : Nat} {g : Int → Option (Int ⊕ (Unit ⊕ Int))} {k : Unit ⊕ Int → Option T} {z : T} (l : List α) (q : α → Bool) (hK : l.length < K) (hg : ∀ (i : Nat) x, l[i]? = some x → g (i : Int) = some (if q x then .inl ((i + 1 : Nat) : Int) else .inr (.inr (i : Int))))
    (hn : g (l.length : Int) = some (.inr (.inl ()))) (hy : l.all q = true → k (.inl ()) = some z) (hx : ∀ i : Int, 0 ≤ i → l.all q = false → k (.inr i) = some z) : (loopN K g 0).bind k = some z := by
  obtain ⟨t, h1, h2⟩ := any_not l q hK hg hn
  rw [h1]
  cases t with
  | inl u => exact hy h2
  | inr i => exact hx i h2.1 h2.2

theorem pt_eta (p : Pt) : (p.1, p.2.1, p.2.2.1, p.2.2.2.1, p.2.2.2.2.1, p.2.2.2.2.2.1, p.2.2.2.2.2.2.1, p.2.2.2.2.2.2.2.1, p.2.2.2.2.2.2.2.2) = p := rfl
theorem fam_eta (f : Fam) : (f.1, f.2.1, f.2.2.1, f.2.2.2.1, f.2.2.2.2) = f := rfl
theorem getPt {l : List Pt} {i : Nat} {p : Pt} (h : l[i]? = some p) (d : Pt) : l.getD i d = p := get_at h d

/-- A family whose points are tested by bd, whose points' order by rs. -/
def okFam (bd : Pt → Bool) (rs : List Pt → Bool) (f : Fam) : Bool := okName f.1 && isKind f.2.1 && okValue f.2.2.1 && okValue f.2.2.2.1 && f.2.2.2.2.all (okPt bd f.2.1) && rs f.2.2.2.2

structure SmallF (K : Nat) (bd : Pt → Bool) (rs : List Pt → Bool) (f : Fam) : Prop where
  name : f.1.length + 64 < K ∧ f.1.length < 4611686018427387904
  pts : f.2.2.2.2.length + 200 < K ∧ f.2.2.2.2.length < 4611686018427387904
  labs : ∀ p ∈ f.2.2.2.2, Short K p.1
  unit : f.2.2.1.length + 64 < K
  bd : ∀ p ∈ f.2.2.2.2, point_isBound.f K p = some (bd p)
  rs : family_rises.f K f.2.2.2.2 = some (rs f.2.2.2.2)

theorem familyGood_eq {K : Nat} {bd : Pt → Bool} {rs : List Pt → Bool} {f : Fam} (h : SmallF K bd rs f) : family_Good.f K f = some (okFam bd rs f) := by
  obtain ⟨t, t1, t2⟩ := typed_eq K f.2.1
  have hp := h.pts
  unfold family_Good.f okFam
  simp only [labelName_eq h.name.1 h.name.2, t1, labelValue_eq (K := K) (by omega), Option.bind_some, t2, h.rs]
  cases okName f.1 with
  | false => rfl
  | true =>
    cases isKind f.2.1 with
    | false => rfl
    | true =>
      cases okValue f.2.2.1 with
      | false => rfl
      | true =>
        cases okValue f.2.2.2.1 with
        | false => rfl
        | true =>
          simp only [Bool.not_true, cond_false, Option.bind_some, Bool.true_and]
          refine any_bind f.2.2.2.2 (okPt bd f.2.1) (by omega) (fun i p hp' => ?_) (by simp) (fun h => ?_) (fun i hi h => ?_)
          · have hi := lt_at hp'
            have e : decide ((i : Int) < (f.2.2.2.2.length : Int)) = true := by simpa using hi
            have hm := List.mem_of_getElem? hp'
            simp only [e, idx_nat hi, Int.toNat_natCast, cond_true, getPt hp', pt_eta, pointGood_eq (bd := bd) f.2.1 (h.labs p hm) (h.bd p hm), Option.bind_some]
            rw [step_nat (by omega)]
            cases okPt bd f.2.1 p <;> rfl
          · rw [h]
            rfl
          · rw [h]
            have e : decide (i ≥ 0) = true := by simpa using hi
            simp only [e, Bool.not_true, cond_false, Bool.false_and]

/-! ### Batches -/
def tenByte (c : UInt8) : Bool := (decide (97 ≤ c.toNat) && decide (c.toNat ≤ 122)) || (decide (48 ≤ c.toNat) && decide (c.toNat ≤ 57)) || c.toNat == 45
def okTenant (s : List UInt8) : Bool := s.all tenByte && (!(s == []) && decide (s.length ≤ 16))

theorem ten_byte (c : UInt8) : (bif decide ((c.toNat : Int) < 97) then
      bif decide ((c.toNat : Int) < 48) then some ((c.toNat : Int) != 45)
      else bif decide ((c.toNat : Int) > 57) then some ((c.toNat : Int) != 45) else some false
    else bif decide ((c.toNat : Int) > 122) then
      bif decide ((c.toNat : Int) < 48) then some ((c.toNat : Int) != 45)
      else bif decide ((c.toNat : Int) > 57) then some ((c.toNat : Int) != 45) else some false
    else some false) = some (!tenByte c) := by
  have := byte_all (p := fun c => (bif decide ((c.toNat : Int) < 97) then
      bif decide ((c.toNat : Int) < 48) then some ((c.toNat : Int) != 45)
      else bif decide ((c.toNat : Int) > 57) then some ((c.toNat : Int) != 45) else some false
    else bif decide ((c.toNat : Int) > 122) then
      bif decide ((c.toNat : Int) < 48) then some ((c.toNat : Int) != 45)
      else bif decide ((c.toNat : Int) > 57) then some ((c.toNat : Int) != 45) else some false
    else some false) == some (!tenByte c)) (by kernel_rfl) c
  simpa using this

theorem tenant_eq {K : Nat} {s : List UInt8} (hK : s.length < K) (hs : s.length < 4611686018427387904) : batch_Tenant.f K s = some (okTenant s) := by
  unfold batch_Tenant.f
  rw [loop_all s tenByte false (by omega) (fun i x hx => ?_) (by simp)]
  · unfold okTenant
    cases s.all tenByte with
    | false => rfl
    | true =>
      simp only [if_true, Option.bind_some, Bool.true_and]
      cases s == [] with
      | true => rfl
      | false =>
        simp only [Bool.not_false, cond_true, Bool.true_and, Option.some.injEq]
        rw [decide_eq_decide]
        omega
  · have hi := lt_at hx
    have e : decide ((i : Int) < (s.length : Int)) = true := by simpa using hi
    simp only [e, idx_nat hi, Int.toNat_natCast, get_at hx, cond_true]
    rw [step_nat (by omega), ten_byte]
    cases tenByte x <;> rfl

def nofam : Fam := ([], 0, [], [], [])
def riseF (l : List Fam) : Bool := (List.range' 1 (l.length - 1)).all fun i => Op.bytesLess (l.getD (i - 1) nofam).1 (l.getD i nofam).1

theorem riseF_eq {K : Nat} {l : List Fam} (hK : l.length < K) (hs : l.length < 4611686018427387904) : batch_rises.f K l = some (riseF l) := by
  unfold batch_rises.f
  rw [loop_pairs l.length (fun i => Op.bytesLess (l.getD (i - 1) nofam).1 (l.getD i nofam).1) false hK (fun k hi => ?_) (fun m hm => ?_)]
  · unfold riseF
    cases (List.range' 1 (l.length - 1)).all fun i => Op.bytesLess (l.getD (i - 1) nofam).1 (l.getD i nofam).1 <;> rfl
  · have e : decide (((k + 1 : Nat) : Int) < (l.length : Int)) = true := by simpa using (by omega : ((k + 1 : Nat) : Int) < (l.length : Int))
    have e2 : ((k + 1 : Nat) : Int) - 1 = (k : Int) := by omega
    simp only [e, e2, i64_in (k : Int) (by omega), idx_nat (show k < l.length from by omega), idx_nat hi, Int.toNat_natCast, step_nat (show k + 1 < 9000000000000000000 from by omega), cond_true, Nat.add_sub_cancel]
    unfold nofam
    cases Op.bytesLess (l.getD k ([], 0, [], [], [])).1 (l.getD (k + 1) ([], 0, [], [], [])).1 <;> rfl
  · have e : decide (m < (l.length : Int)) = false := by simpa using hm
    simp only [e, cond_false]

/-- How many points. -/
def countP (l : List Fam) : Nat := (l.map fun f => f.2.2.2.2.length).sum

theorem points_eq {K : Nat} {b : Bat} (hK : b.2.length < K) (hs : b.2.length < 4611686018427387904) (hc : countP b.2 < 4611686018427387904) : batch_Points.f K b = some (countP b.2 : Int) := by
  have hr : ∃ t, batch_Points.f K b = some t ∧ t = (countP b.2 : Int) := by
    unfold batch_Points.f
    refine bind_loop2 (fun x => ∃ i c : Nat, x.1 = (c : Int) ∧ x.2 = (i : Int) ∧ i ≤ b.2.length ∧ c + countP (b.2.drop i) = countP b.2) (fun x => b.2.length - x.2.toNat) (fun r => r = (countP b.2 : Int)) ?_ ⟨0, 0, rfl, rfl, by omega, by simp⟩ (by simp only []; omega) ?_
    · rintro ⟨_, _⟩ ⟨i, c, rfl, rfl, h1, h2⟩
      simp only []
      by_cases hi : i < b.2.length
      · have e : decide ((i : Int) < (b.2.length : Int)) = true := by simpa using hi
        have hd : b.2.drop i = b.2[i] :: b.2.drop (i + 1) := List.drop_eq_getElem_cons hi
        rw [hd] at h2
        unfold countP at h2
        rw [List.map_cons, List.sum_cons] at h2
        have hg : b.2[i]? = some b.2[i] := List.getElem?_eq_getElem hi
        simp only [e, idx_nat hi, cond_true, Int.toNat_natCast, get_at hg]
        refine ⟨_, rfl, ⟨i + 1, c + b.2[i].2.2.2.2.length, ?_, ?_, by omega, ?_⟩, ?_⟩
        · show IntKind.i64.wrap ((c : Int) + (b.2[i].2.2.2.2.length : Int)) = _
          have : c + b.2[i].2.2.2.2.length ≤ countP b.2 := by unfold countP; omega
          rw [i64_in _ (by omega)]
          omega
        · exact step_nat (by omega)
        · unfold countP
          omega
        · show b.2.length - (IntKind.i64.wrap ((i : Int) + 1)).toNat < b.2.length - ((i : Int)).toNat
          rw [step_nat (by omega)]
          omega
      · have e : decide ((i : Int) < (b.2.length : Int)) = false := by simpa using hi
        have hd : b.2.drop i = [] := List.drop_eq_nil_iff.2 (by omega)
        rw [hd] at h2
        rw [e]
        refine ⟨_, rfl, ?_⟩
        show (c : Int) = _
        rw [← h2]
        simp [countP]
    · rintro r hQ
      exact ⟨_, rfl, hQ⟩
  obtain ⟨t, h1, h2⟩ := hr
  rw [h1, h2]

structure SmallB (K : Nat) (bd : Pt → Bool) (rs : List Pt → Bool) (b : Bat) : Prop where
  ten : b.1.length < K ∧ b.1.length < 4611686018427387904
  fams : b.2.length < K ∧ b.2.length < 4611686018427387904
  cnt : countP b.2 < 4611686018427387904
  all : ∀ f ∈ b.2, SmallF K bd rs f

/-- 0, 14, 19. -/
def checkB (bd : Pt → Bool) (rs : List Pt → Bool) (b : Bat) : Int :=
  if okTenant b.1 && b.2.all (okFam bd rs) && riseF b.2 then (if decide (b.2.length ≤ 30) && decide (countP b.2 ≤ 120) then 0 else 14) else 19

theorem check_eq {K : Nat} {bd : Pt → Bool} {rs : List Pt → Bool} {b : Bat} (h : SmallB K bd rs b) : batch_Check.f K b = some (checkB bd rs b) := by
  unfold batch_Check.f checkB
  have e1 : (batch_Tenant.f K b.1).bind (fun r303 =>
      bif !r303 then some true
      else ((loopN K (fun (s_ : Int) =>
        match s_ with
        | t308 =>
          bif decide (t308 < (b.2.length : Int)) then
            bif idx t308 b.2.length then
              (batch_Check_1.f K (b.2.getD t308.toNat nofam)).bind fun r309 =>
              bif r309 then
                some (.inr (.inr t308))
              else some (.inl (IntKind.i64.wrap (t308 + 1)))
            else none
          else some (.inr (.inl ()))) 0 : Option (Unit ⊕ Int))).bind fun e_ =>
      match e_ with
      | .inl _ =>
        (batch_rises.f K b.2).bind fun r310 =>
        some (!r310)
      | .inr t311 =>
        bif decide (t311 ≥ 0) then some true
        else
        (batch_rises.f K b.2).bind fun r312 =>
        some (!r312)) = some (!(okTenant b.1 && b.2.all (okFam bd rs) && riseF b.2)) := by
    rw [tenant_eq h.ten.1 h.ten.2]
    cases okTenant b.1 with
    | false => rfl
    | true =>
      simp only [Option.bind_some, Bool.not_true, cond_false, Bool.true_and, riseF_eq h.fams.1 h.fams.2]
      refine any_bind b.2 (okFam bd rs) h.fams.1 (fun i f hf => ?_) (by simp) (fun hh => ?_) (fun i hi hh => ?_)
      · have hi := lt_at hf
        have e : decide ((i : Int) < (b.2.length : Int)) = true := by simpa using hi
        have hm := List.mem_of_getElem? hf
        have hff := h.fams
        simp only [e, idx_nat hi, Int.toNat_natCast, cond_true, get_at hf, batch_Check_1.f, familyGood_eq (h.all f hm), Option.bind_some]
        rw [step_nat (by omega)]
        cases okFam bd rs f <;> rfl
      · rw [hh]
        rfl
      · rw [hh]
        have e : decide (i ≥ 0) = true := by simpa using hi
        simp only [e, cond_true, Bool.false_and, Bool.not_false]
  refine (congrArg (fun x => Option.bind x _) e1).trans ?_
  simp only [Option.bind_some, points_eq h.fams.1 h.fams.2 h.cnt]
  have e2 : decide ((b.2.length : Int) > 30) = !decide (b.2.length ≤ 30) := by rw [← decide_not, decide_eq_decide]; omega
  have e3 : decide ((countP b.2 : Int) > 120) = !decide (countP b.2 ≤ 120) := by rw [← decide_not, decide_eq_decide]; omega
  rw [e2, e3]
  cases (okTenant b.1 && b.2.all (okFam bd rs) && riseF b.2) <;> cases decide (b.2.length ≤ 30) <;> cases decide (countP b.2 ≤ 120) <;> rfl

end Go.Proofs.YtoobdenlgapcmaaGreat
