/- The events of a batch; which events may be. -/
import Derived.Test.YtoobdenlgapcmaaGreatSb
set_option linter.unusedSimpArgs false
set_option linter.unusedVariables false
namespace Go.Proofs.YtoobdenlgapcmaaGreat
open Go Go.Rf Go.Proofs Go.RowKit
open Go.IntWalk (i64_in i32_in u8_in u64_in)

abbrev Ev := List UInt8 × List Lab × Int × Int × Int × Int × Int × List UInt8
/-- A point's event. -/
def ev (f : Fam) (p : Pt) : Ev := (f.1, p.1, if f.2.1 = 2 then 1 else 2, p.2.2.2.2.2.1, p.2.2.2.2.2.2.1, if f.2.1 = 2 then 1 else 0, 0, [])
def evF (f : Fam) : List Ev := f.2.2.2.2.map (ev f)
def evB (l : List Fam) : List Ev := l.flatMap evF

theorem flat_one {α β : Type} (g : α → β) : ∀ l : List α, l.flatMap (fun x => [g x]) = l.map g
  | [] => rfl
  | x :: l => by rw [List.flatMap_cons, flat_one g l]; rfl

theorem evF_len (f : Fam) : (evF f).length = f.2.2.2.2.length := List.length_map ..
theorem evB_len : ∀ l : List Fam, (evB l).length = countP l
  | [] => rfl
  | f :: l => by
    have := evB_len l
    unfold evB countP at this ⊢
    rw [List.flatMap_cons, List.length_append, evF_len, this, List.map_cons, List.sum_cons]

theorem countP_take (l : List Fam) (i : Nat) : countP (l.take i) ≤ countP l := by
  conv => rhs; rw [← List.take_append_drop i l]
  unfold countP
  rw [List.map_append, List.sum_append]
  omega

theorem ownPoint_eq (K : Nat) {p : Pt} (h : p.1.length ≤ 1000) : own_Point.f K p = some p := by
  unfold own_Point.f
  have l1 : decide (p.1.length * 32 ≤ LIM) = true := lim (by omega)
  have l2 : decide (p.1.length ≤ 9223372036854775807) = true := decide_eq_true (by omega)
  rw [l1, l2]
  rfl

theorem events_eq {K : Nat} (hK : 200 < K) {b : Bat} (hn : Narrow b) (hi : SmallB K okBound riseP b) (hc : ∀ f ∈ b.2, SmallC K f) :
    statprint_Events.f K b = some (if (whyB okBound riseP 4 b).2 then (evB b.2, true) else ([], false)) := by
  unfold statprint_Events.f
  rw [isB_eq 4 hi hc]
  simp only [Option.bind_some]
  cases (whyB okBound riseP 4 b).2 with
  | false => rfl
  | true =>
    simp only [Bool.not_true, cond_false, if_true]
    obtain ⟨n1, n2, n3, n4⟩ := hn
    rw [loop_flat (fun s t => (s, t)) b.2 evF (fun s => s) ([] : List Ev) (fun i f hf => ?_) (fun s _ => by simp) (by omega)]
    · simp only [Option.bind_some, List.nil_append]; rfl
    · have hi' := lt_at hf
      have hfm := n4 f (List.mem_of_getElem? hf)
      unfold famW at hfm
      simp only [Bool.and_eq_true, decide_eq_true_eq, List.all_eq_true] at hfm
      obtain ⟨⟨⟨⟨q1, q2⟩, q3⟩, q4⟩, q5⟩ := hfm
      have e : decide ((i : Int) < (b.2.length : Int)) = true := by simpa using hi'
      have hlen : ((b.2.take i).flatMap evF).length ≤ 130 := by
        have h1 := evB_len (b.2.take i)
        have h2 := countP_take b.2 i
        unfold evB at h1
        omega
      simp only [List.nil_append]
      generalize (b.2.take i).flatMap evF = s at hlen ⊢
      simp only [e, idx_nat hi', Int.toNat_natCast, get_at hf, cond_true, step_nat (show i < 9000000000000000000 by omega)]
      rw [loop_flat (fun s t => (s, t)) f.2.2.2.2 (fun p => [ev f p]) (fun s => s) s (fun k p hp => ?_) (fun s _ => by simp) (by omega)]
      · simp only [Option.bind_some]
        rw [flat_one]
        rfl
      · have hk := lt_at hp
        have e2 : decide ((k : Int) < (f.2.2.2.2.length : Int)) = true := by simpa using hk
        have hpw := q5 p (List.mem_of_getElem? hp)
        unfold ptW at hpw
        simp only [Bool.and_eq_true, decide_eq_true_eq] at hpw
        have hl2 : (s ++ (f.2.2.2.2.take k).flatMap (fun p => [ev f p])).length ≤ 260 := by
          rw [List.length_append]
          rw [flat_one, List.length_map, List.length_take]
          omega
        generalize s ++ (f.2.2.2.2.take k).flatMap (fun p => [ev f p]) = s' at hl2 ⊢
        have l1 : ∀ x : Ev, decide ((s'.length + ([x] : List Ev).length) * 96 ≤ LIM) = true := fun x => lim (by simp only [List.length_cons, List.length_nil]; omega)
        simp only [e2, idx_nat hk, Int.toNat_natCast, get_at hp, cond_true, step_nat (show k < 9000000000000000000 by omega), pt_eta, ownPoint_eq K (p := p) (by omega), Option.bind_some]
        unfold ev
        by_cases h2 : f.2.1 = 2
        · have e3 : (f.2.1 == 2) = true := by simpa using h2
          simp only [h2, if_true, show ((2 : Int) == 2) = true from rfl, cond_true, l1]
        · have e3 : (f.2.1 == 2) = false := by simpa using h2
          simp only [e3, cond_false, l1, h2, if_false, cond_true]

end Go.Proofs.YtoobdenlgapcmaaGreat
