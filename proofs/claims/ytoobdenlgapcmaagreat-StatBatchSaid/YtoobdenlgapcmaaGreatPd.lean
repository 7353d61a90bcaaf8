/- What the functions of points answer, in plain Lean. -/
import Derived.Test.YtoobdenlgapcmaaGreatPc
set_option linter.unusedSimpArgs false
set_option linter.unusedVariables false
namespace Go.Proofs.YtoobdenlgapcmaaGreat
open Go Go.Rf Go.Proofs Go.RowKit
open Go.IntWalk (i64_in i32_in u8_in u64_in)

abbrev Lab := List UInt8 × List UInt8
abbrev Pt := List Lab × Int × Bool × Int × Int × Int × Int × Bool × Int
abbrev Fam := List UInt8 × Int × List UInt8 × List UInt8 × List Pt
abbrev Bat := List UInt8 × List Fam

def nolab : Lab := ([], [])

/-! ### Rows of labels -/
def okLab (l : List Lab) (i : Nat) : Bool := okName (l.getD i nolab).1 && okValue (l.getD i nolab).2 && (i == 0 || Op.bytesLess (l.getD (i - 1) nolab).1 (l.getD i nolab).1)
def okLabs (l : List Lab) : Bool := (List.range l.length).all (okLab l) && decide (l.length ≤ 8)

/-- Names and rows that are short. -/
def Short (K : Nat) (l : List Lab) : Prop := l.length + 200 < K ∧ l.length < 4611686018427387904 ∧ ∀ x ∈ l, x.1.length + 64 < K ∧ x.1.length < 4611686018427387904

theorem labelGood_eq {K : Nat} {l : List Lab} (h : Short K l) : label_Good.f K l = some (okLabs l) := by
  obtain ⟨h1, h2, h3⟩ := h
  unfold label_Good.f
  rw [loop_ix l.length (okLab l) false (by omega) (fun i hi => ?_) (by simp)]
  · unfold okLabs
    cases (List.range l.length).all (okLab l) with
    | false => rfl
    | true =>
      simp only [if_true, Option.bind_some, Bool.true_and, Option.some.injEq]
      rw [decide_eq_decide]
      omega
  · have e : decide ((i : Int) < (l.length : Int)) = true := by simpa using hi
    have hg : l.getD i nolab = l[i] := by rw [List.getD_eq_getElem?_getD, List.getElem?_eq_getElem hi]; rfl
    have hm := h3 l[i] (List.getElem_mem hi)
    have n1 : label_Name.f K (l.getD i nolab).1 = some (okName (l.getD i nolab).1) := by rw [hg]; exact labelName_eq hm.1 hm.2
    have n2 : label_Value.f K (l.getD i nolab).2 = some (okValue (l.getD i nolab).2) := labelValue_eq (by omega) _
    unfold nolab at n1 n2
    simp only [e, idx_nat hi, Int.toNat_natCast, cond_true, n1, n2, Option.bind_some]
    rw [step_nat (by omega)]
    unfold okLab nolab
    cases okName (l.getD i ([], [])).1 with
    | false => rfl
    | true =>
      cases okValue (l.getD i ([], [])).2 with
      | false => rfl
      | true =>
        simp only [Bool.not_true, cond_false, Bool.true_and]
        cases i with
        | zero => rfl
        | succ k =>
          have e1 : decide (((k + 1 : Nat) : Int) > 0) = true := by rw [decide_eq_true_eq]; omega
          have e2 : ((k + 1 : Nat) : Int) - 1 = (k : Int) := by omega
          rw [e1, e2, i64_in (k : Int) (by omega), idx_nat (by omega), Int.toNat_natCast]
          simp only [cond_true, Option.bind_some, Nat.add_sub_cancel, show (k + 1 == 0) = false from rfl, Bool.false_or]
          cases Op.bytesLess (l.getD k ([], [])).1 (l.getD (k + 1) ([], [])).1 <;> rfl

/-! ### Parts of a point -/
def okDec (d : Int × Int) : Bool := decide (0 ≤ d.2) && decide (d.2 ≤ 18) && (d.1 != -9223372036854775808) && (d.2 == 0 || Int.tmod d.1 10 != 0)
theorem decGood_eq (K : Nat) (d : Int × Int) : dec_Good.f K d = some (okDec d) := by
  unfold dec_Good.f okDec
  rw [show decide (d.2 ≥ 0) = decide (0 ≤ d.2) from rfl]
  cases decide (0 ≤ d.2) <;> cases decide (d.2 ≤ 18) <;> cases (d.1 != -9223372036854775808) <;> cases (d.2 == 0) <;> rfl

def rolesOf (kind : Int) : List Int := bif kind == 0 || kind == 1 || kind == 2 then [0] else bif kind == 3 then [1, 3, 4] else bif kind == 4 then [2, 3, 4] else []
theorem roles_eq (K : Nat) (kind : Int) : point_Roles.f K kind = some (rolesOf kind) := by
  unfold point_Roles.f rolesOf
  cases kind == 0 <;> cases kind == 1 <;> cases kind == 2 <;> cases kind == 3 <;> cases kind == 4 <;> rfl

theorem contains_eq {K : Nat} {l : List Int} (x : Int) (hK : l.length < K) (hl : l.length < 4611686018427387904) : slices_Contains_int_int.f K l x = some (l.contains x) := by
  unfold slices_Contains_int_int.f slices_Index_int_int.f
  have h0 := fun g hg hn => loop_from (K := K) (g := g) (n := l.length) (R := Int) (fun i => if !(x == l.getD i 0) then none else some ((i : Nat) : Int)) hg hn l.length 0 (by omega) hK
  simp only [Int.natCast_zero] at h0
  rw [h0 _ (fun i hi => ?_) (by simp)]
  · rw [findSome_find, ← List.range_eq_range']
    cases hf : (List.range l.length).find? fun i => !(!(x == l.getD i 0)) with
    | none =>
      have : l.contains x = false := by
        rw [Bool.eq_false_iff]
        intro hc
        rw [List.contains_iff_mem] at hc
        obtain ⟨i, hi, rfl⟩ := List.getElem_of_mem hc
        rw [List.find?_eq_none] at hf
        have := hf i (List.mem_range.2 hi)
        rw [List.getD_eq_getElem?_getD, List.getElem?_eq_getElem hi] at this
        simp at this
      rw [this]
      rfl
    | some i =>
      have h1 := List.find?_some hf
      have h2 := List.mem_range.1 (List.mem_of_find?_eq_some hf)
      have : l.contains x = true := by
        rw [List.contains_iff_mem]
        rw [List.getD_eq_getElem?_getD, List.getElem?_eq_getElem h2] at h1
        simp only [Option.getD_some, Bool.not_not, beq_iff_eq] at h1
        rw [h1]
        exact List.getElem_mem h2
      rw [this]
      simp
  · have e : decide ((i : Int) < (l.length : Int)) = true := by simpa using hi
    simp only [e, idx_nat hi, Int.toNat_natCast, cond_true]
    rw [step_nat (by omega)]
    cases x == l.getD i 0 <;> rfl

def okVal0 (kind : Int) (p : Pt) : Bool := okDec (p.2.2.2.2.2.1, p.2.2.2.2.2.2.1) && (decide (0 ≤ p.2.2.2.2.2.1) || !(kind == 2 || p.2.1 == 1 || p.2.1 == 3))
theorem isValue_eq (K : Nat) (kind : Int) (p : Pt) : point_isValue.f K kind p = some (okVal0 kind p) := by
  unfold point_isValue.f okVal0
  simp only [decGood_eq, Option.bind_some]
  rw [show decide (p.2.2.2.2.2.1 ≥ 0) = decide (0 ≤ p.2.2.2.2.2.1) from rfl]
  cases okDec (p.2.2.2.2.2.1, p.2.2.2.2.2.2.1) <;> cases decide (0 ≤ p.2.2.2.2.2.1) <;> cases kind == 2 <;> cases p.2.1 == 1 <;> cases p.2.1 == 3 <;> rfl

def okTime (p : Pt) : Bool := p.2.2.2.2.2.2.2.2 == 0 || (p.2.2.2.2.2.2.2.1 && decide (-1125899906842624 ≤ p.2.2.2.2.2.2.2.2) && decide (p.2.2.2.2.2.2.2.2 ≤ 1125899906842624))
theorem isTime_eq (K : Nat) (p : Pt) : point_isTime.f K p = some (okTime p) := by
  unfold point_isTime.f okTime
  rw [show decide (p.2.2.2.2.2.2.2.2 ≥ -1125899906842624) = decide (-1125899906842624 ≤ p.2.2.2.2.2.2.2.2) from rfl]
  cases p.2.2.2.2.2.2.2.2 == 0 <;> cases p.2.2.2.2.2.2.2.1 <;> cases decide (-1125899906842624 ≤ p.2.2.2.2.2.2.2.2) <;> rfl

def getL (l : List Lab) (name : List UInt8) : List UInt8 × Bool := match l.find? (fun x => x.1 == name) with | some x => (x.2, true) | none => ([], false)

theorem find_map {α R : Type} {q : α → Bool} {f : α → R} : ∀ l : List α, l.findSome? (fun x => if q x then some (f x) else none) = (l.find? q).map f
  | [] => rfl
  | a :: l => by
    rw [List.findSome?_cons, List.find?_cons]
    cases q a with
    | true => rfl
    | false => exact find_map l

theorem labelGet_eq {K : Nat} {l : List Lab} (name : List UInt8) (hK : l.length < K) (hl : l.length < 4611686018427387904) : label_Get.f K l name = some (getL l name) := by
  unfold label_Get.f
  rw [loop_row l (fun x => if x.1 == name then some (x.2, true) else none) hK (fun i x hx => ?_) (by simp)]
  · rw [find_map]
    unfold getL
    cases l.find? fun x => x.1 == name <;> rfl
  · have hi := lt_at hx
    have e : decide ((i : Int) < (l.length : Int)) = true := by simpa using hi
    simp only [e, idx_nat hi, Int.toNat_natCast, get_at hx, cond_true]
    rw [step_nat (by omega)]
    cases x.1 == name <;> rfl

def ownOf (role : Int) : List UInt8 := bif role == 1 then [108, 101] else bif role == 2 then [113, 117, 97, 110, 116, 105, 108, 101] else []
def okFree (p : Pt) : Bool := ownOf p.2.1 == [] || !(getL p.1 (ownOf p.2.1)).2
theorem isFree_eq {K : Nat} (p : Pt) (hK : p.1.length < K) (hl : p.1.length < 4611686018427387904) : point_isFree.f K p = some (okFree p) := by
  unfold point_isFree.f okFree
  have e : (bif p.2.1 == 1 then some ([108, 101] : List UInt8) else bif p.2.1 == 2 then some [113, 117, 97, 110, 116, 105, 108, 101] else some []) = some (ownOf p.2.1) := by
    unfold ownOf
    cases p.2.1 == 1 <;> cases p.2.1 == 2 <;> rfl
  rw [e]
  simp only [Option.bind_some, labelGet_eq _ hK hl]
  cases ownOf p.2.1 == [] <;> rfl

end Go.Proofs.YtoobdenlgapcmaaGreat
