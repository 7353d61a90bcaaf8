/- The line format, printed: the program and the reference. -/
import Derived.Test.YtekeaempemiciaaGreatDoorLe
import Derived.Test.YtekeaempemiciaaGreatDoorRfF
set_option linter.unusedSimpArgs false
set_option linter.unusedVariables false
namespace Go.Proofs.YtekeaempemiciaaGreatDoor
open Go Go.Rf Go.Proofs Go.RowKit
open Go.IntWalk (i64_in i32_in u8_in u64_in)

/-- The numbers of a batch's values are numbers of 64 bits. -/
def BatVal (b : Bat) : Prop := ∀ f ∈ b.2, ∀ p ∈ f.2.2.2.2, I64 p.2.2.2.2.2.1
theorem bat_val {b : Bat} (h : WfT tBat b) : BatVal b := by
  intro f hf p hp
  have h1 := h.2.2 f hf
  have h2 := h1.2.2.2.2.2 p hp
  have h3 : (Lit.int .i64 p.2.2.2.2.2.1).wf = true := h2.2.2.2.2.2.1
  simp only [Lit.wf, Bool.and_eq_true, decide_eq_true_eq] at h3
  exact h3

/-- A batch that is looked at. -/
structure Fit (b : Bat) : Prop where
  nar : Narrow b
  ins : BatIn b
  val : BatVal b

def hd (f : Fam) : Hd := (f.1, f.2.1, f.2.2.1, f.2.2.2.1)

theorem check_pt {b : Bat} (h : checkB okBound riseP b = 0) {f : Fam} (hf : f ∈ b.2) {p : Pt} (hp : p ∈ f.2.2.2.2) : okPt okBound f.2.1 p = true := by
  unfold checkB at h
  have h1 : (okTenant b.1 && b.2.all (okFam okBound riseP) && riseF b.2) = true := by
    cases hh : (okTenant b.1 && b.2.all (okFam okBound riseP) && riseF b.2) with
    | true => rfl
    | false => rw [hh] at h; cases h
  simp only [Bool.and_eq_true, List.all_eq_true] at h1
  have h2 := h1.1.2 f hf
  unfold okFam at h2
  simp only [Bool.and_eq_true, List.all_eq_true] at h2
  exact h2.1.2 p hp

theorem pt_dec {kind : Int} {p : Pt} (h : okPt okBound kind p = true) : okDec (p.2.2.2.2.2.1, p.2.2.2.2.2.2.1) = true := by
  unfold okPt okVal0 at h
  simp only [Bool.and_eq_true] at h
  exact h.1.1.2.1

theorem why_check {pr : Int} {b : Bat} (h : (whyB okBound riseP pr b).2 = true) : checkB okBound riseP b = 0 := by
  unfold whyB at h
  split at h
  · rename_i h1
    simp only [Bool.and_eq_true] at h1
    exact eq_of_beq h1.2
  · cases h

theorem nar_pt {b : Bat} (h : Narrow b) {f : Fam} (hf : f ∈ b.2) {p : Pt} (hp : p ∈ f.2.2.2.2) : f.1.length ≤ 100 ∧ p.1.length ≤ 12 ∧ ∀ x ∈ p.1, x.1.length ≤ 100 ∧ x.2.length ≤ 100 := by
  have h5 := h.2.2.2 f hf
  unfold famW at h5
  simp only [Bool.and_eq_true, decide_eq_true_eq, List.all_eq_true] at h5
  have h6 := h5.2 p hp
  unfold ptW at h6
  simp only [Bool.and_eq_true, decide_eq_true_eq, List.all_eq_true] at h6
  refine ⟨h5.1.1.1.2, h6.1, fun x hx => ?_⟩
  have h7 := h6.2 x hx
  unfold labW at h7
  simpa only [Bool.and_eq_true, decide_eq_true_eq] using h7

theorem okL_of {b : Bat} (hb : Fit b) (hc : checkB okBound riseP b = 0) {f : Fam} (hf : f ∈ b.2) {p : Pt} (hp : p ∈ f.2.2.2.2) : OkL (hd f) p := by
  obtain ⟨h1, h2, h3⟩ := nar_pt hb.nar hf hp
  exact ⟨h1, h2, h3, pt_dec (check_pt hc hf hp), hb.val f hf p hp⟩

/-! ### A batch's text -/
def famL (u : Int) (f : Fam) : List (List UInt8 × Bool) := f.2.2.2.2.map fun p => lineS (hd f) p u
def flatT (l : List (List UInt8 × Bool)) : List UInt8 := l.flatMap fun x => x.1 ++ [10]
def okT (l : List (List UInt8 × Bool)) : Bool := l.all (·.2)
def bound (t : List UInt8) : List UInt8 × Int := if t.length > 4000 then ([], 14) else (t, 0)
def lineText (b : Bat) (u : Int) : List UInt8 × Int :=
  if (whyB okBound riseP 2 b).2 then (if okT (b.2.flatMap (famL u)) then bound (flatT (b.2.flatMap (famL u))) else ([], 15)) else ([], 15)

theorem flatT_app (a b : List (List UInt8 × Bool)) : flatT (a ++ b) = flatT a ++ flatT b := by unfold flatT; rw [List.flatMap_append]
theorem okT_app (a b : List (List UInt8 × Bool)) : okT (a ++ b) = (okT a && okT b) := by unfold okT; rw [List.all_append]
theorem take_snoc {α : Type} {l : List α} {i : Nat} {x : α} (h : l[i]? = some x) : l.take (i + 1) = l.take i ++ [x] := by rw [List.take_add_one, h]; rfl

theorem famL_len {b : Bat} (hb : Fit b) (hc : checkB okBound riseP b = 0) (u : Int) {f : Fam} (hf : f ∈ b.2) (i : Nat) : (flatT ((f.2.2.2.2.take i).map fun p => lineS (hd f) p u)).length ≤ f.2.2.2.2.length * 5201 := by
  unfold flatT
  rw [List.flatMap_map]
  have h1 := flat_le (fun p => (lineS (hd f) p u).1 ++ [10]) 5201 (f.2.2.2.2.take i) fun p hp => by
    have h0 := lineS_len (okL_of hb hc hf (List.mem_of_mem_take hp)) u
    rw [List.length_append, List.length_singleton]
    omega
  have h2 : (f.2.2.2.2.take i).length ≤ f.2.2.2.2.length := by rw [List.length_take]; omega
  exact Nat.le_trans h1 (Nat.mul_le_mul_right 5201 h2)

theorem fams_len {b : Bat} (hb : Fit b) (hc : checkB okBound riseP b = 0) (u : Int) (i : Nat) : (flatT ((b.2.take i).flatMap (famL u))).length ≤ countP (b.2.take i) * 5201 := by
  have : ∀ l : List Fam, (∀ f ∈ l, f ∈ b.2) → (flatT (l.flatMap (famL u))).length ≤ countP l * 5201 := by
    intro l
    induction l with
    | nil => intro _; simp [flatT]
    | cons f l ih =>
      intro h
      have h1 := ih fun g hg => h g (List.mem_cons_of_mem _ hg)
      have h2 := famL_len hb hc u (h f (List.mem_cons_self ..)) f.2.2.2.2.length
      rw [List.take_length] at h2
      rw [List.flatMap_cons, flatT_app, List.length_append]
      unfold countP at h1 ⊢
      rw [List.map_cons, List.sum_cons, Nat.add_mul]
      have h3 : (flatT (famL u f)).length ≤ f.2.2.2.2.length * 5201 := h2
      omega
  exact this _ fun f hf => List.mem_of_mem_take hf

theorem count_take (l : List Fam) (i : Nat) : countP (l.take i) ≤ countP l := by
  have : countP l = countP (l.take i) + countP (l.drop i) := by
    unfold countP
    rw [← List.sum_append, ← List.map_append, List.take_append_drop]
  omega

theorem len_bound {b : Bat} (hb : Fit b) (hc : checkB okBound riseP b = 0) (u : Int) (i : Nat) : (flatT ((b.2.take i).flatMap (famL u))).length ≤ 676130 := by
  have h1 := fams_len hb hc u i
  have h2 := count_take b.2 i
  have h3 := hb.nar.2.2.1
  have := Nat.mul_le_mul_right 5201 (Nat.le_trans h2 h3)
  omega

theorem fam_pts {b : Bat} (hb : Fit b) {f : Fam} (hf : f ∈ b.2) : f.2.2.2.2.length ≤ 130 := by
  have h5 := hb.nar.2.2.2 f hf
  unfold famW at h5
  simp only [Bool.and_eq_true, decide_eq_true_eq] at h5
  exact h5.1.1.1.1

/-- What was put so far. -/
def Held (t : List UInt8) (s : List Int × Bool) : Prop := (s.1.length : Int) ≤ 4000 ∧ s.2 = decide (4000 < t.length) ∧ (s.2 = false → s.1 = ints t)

theorem put_held {K : Nat} (hK : 10 < K) {t line : List UInt8} {s : List Int × Bool} (h : Held t s) (hl : line.length ≤ 100000) :
    ∃ r s', out_Out_Put.g K [line, [10]] s.1 4000 s.2 = some (r, s'.1, 4000, s'.2) ∧ Held (t ++ (line ++ [10])) s' := by
  obtain ⟨h1, h2, h3⟩ := h
  have ht : total [line, [10]] = line.length + 1 := by simp [total]
  rw [put_eq s.2 (by simp; omega) (by simp) h1 (by omega) (by rw [ht]; omega), ht]
  by_cases hc : s.2 = true ∨ 4000 - (s.1.length : Int) < ((line.length + 1 : Nat) : Int)
  · rw [if_pos hc]
    refine ⟨false, (s.1, true), ?_, h1, ?_, fun h => by cases h⟩
    · simp
    · symm
      rw [decide_eq_true_eq]
      rcases hc with hc | hc
      · rw [hc] at h2
        have := of_decide_eq_true h2.symm
        rw [List.length_append]
        omega
      · by_cases hs : s.2 = true
        · rw [hs] at h2
          have := of_decide_eq_true h2.symm
          rw [List.length_append]
          omega
        · have := h3 (by simpa using hs)
          rw [this, ints_len] at hc
          simp only [List.length_append, List.length_singleton]
          omega
  · rw [if_neg hc]
    have hs : s.2 = false := by
      cases h : s.2 with
      | false => rfl
      | true => exact absurd (.inl h) hc
    have e := h3 hs
    have hc2 : ¬ 4000 - (s.1.length : Int) < ((line.length + 1 : Nat) : Int) := fun x => hc (.inr x)
    rw [e, ints_len] at hc2
    refine ⟨_, (s.1 ++ ints [line, [10]].flatten, false), rfl, ?_, ?_, fun _ => ?_⟩
    · simp only [List.length_append, ints_len, e]
      simp
      omega
    · symm
      rw [decide_eq_false_iff_not]
      simp only [List.length_append, List.length_singleton]
      omega
    · rw [e, ← ints_app]
      simp

/-- What the loops leave: what was put, or the class's error. -/
def Left (t : List UInt8) (ok : Bool) (r : (List Int × Int × Bool) ⊕ (List UInt8 × Int × List Int × Int × Bool)) : Prop := match r with
  | .inl x => ∃ s : List Int × Bool, x = (s.1, 4000, s.2) ∧ Held t s ∧ ok = true
  | .inr x => (x.1, x.2.1) = (([] : List UInt8), (15 : Int)) ∧ ok = false

theorem printP_eq {b : Bat} (hb : Fit b) (u : Int) : lineprint_Print.f 1000 b u = some (lineText b u) := by
  have hq := small_of hb.nar hb.ins
  have hsmallC : ∀ f ∈ b.2, SmallC 1000 f := fun f hf => (hq.all f hf).smallC
  refine of_ex_eq ?_
  unfold lineprint_Print.f lineText
  have ee : ((if (bif false then decide (20000 > (if (bif true then decide (0 > 4000) else decide (0 < 4000)) = true then 0 else 4000)) else decide (20000 < (if (bif true then decide (0 > 4000) else decide (0 < 4000)) = true then 0 else 4000))) = true then 20000 else (if (bif true then decide (0 > 4000) else decide (0 < 4000)) = true then 0 else 4000)) : Int) = 4000 := by decide
  rw [isB_eq 2 hq.smallB hsmallC, ee]
  simp only [Option.bind_some]
  cases hw : (whyB okBound riseP 2 b).2 with
  | false => exact ⟨_, rfl, rfl⟩
  | true =>
    have hc := why_check hw
    simp only [Bool.not_true, cond_false, if_true]
    refine ex_bind (Q := Left (flatT (b.2.flatMap (famL u))) (okT (b.2.flatMap (famL u)))) (loop_rel (K := 1000) (fun (s : List Int × Bool) t => (t, s.1, 4000, s.2)) b.2
      (fun i s => Held (flatT ((b.2.take i).flatMap (famL u))) s ∧ okT ((b.2.take i).flatMap (famL u)) = true) _
      (fun i f s hf hI => ?_) (fun s hI => ?_) (by have := hb.nar.1; omega) (s0 := ([], false)) ⟨⟨by simp, rfl, fun _ => rfl⟩, rfl⟩) (fun r hr => ?_)
    · -- a family
      have hi := lt_at hf
      have hm := List.mem_of_getElem? hf
      have hpts := fam_pts hb hm
      have e0 : decide ((i : Int) < (b.2.length : Int)) = true := by simpa using hi
      have hnf := hb.nar.1
      simp only [e0, idx_nat hi, Int.toNat_natCast, get_at hf, cond_true]
      obtain ⟨hH, hO⟩ := hI
      have hlen := len_bound hb hc u i
      generalize hTO : (b.2.take i).flatMap (famL u) = TL at hO hH hlen
      generalize hT : flatT TL = T at hH hlen
      refine ex_bind (Q := Left (T ++ flatT (famL u f)) (okT (famL u f))) (loop_rel (K := 1000) (fun (s : List Int × Bool) t => (t, s.1, 4000, s.2)) f.2.2.2.2
        (fun k s => Held (T ++ flatT ((f.2.2.2.2.take k).map fun p => lineS (hd f) p u)) s ∧ okT ((f.2.2.2.2.take k).map fun p => lineS (hd f) p u) = true) _
        (fun k p s' hp hI => ?_) (fun s' hI => ?_) (by omega) (s0 := s) ⟨by simpa [flatT] using hH, rfl⟩) (fun r hr => ?_)
      · -- a point
        have hk := lt_at hp
        have hmp := List.mem_of_getElem? hp
        have o := okL_of hb hc hm hmp
        have hll := lineS_len o u
        have e1 : decide ((k : Int) < (f.2.2.2.2.length : Int)) = true := by simpa using hk
        obtain ⟨hH', hO'⟩ := hI
        simp only [e1, idx_nat hk, Int.toNat_natCast, get_at hp, cond_true]
        have hline : lineprint_line.f 1000 (f.1, f.2.1, f.2.2.1, f.2.2.2.1) (p.1, p.2.1, p.2.2.1, p.2.2.2.1, p.2.2.2.2.1, p.2.2.2.2.2.1, p.2.2.2.2.2.2.1, p.2.2.2.2.2.2.2.1, p.2.2.2.2.2.2.2.2) u = some (lineS (hd f) p u) := lineP_eq (by omega) o u
        rw [hline]
        simp only [Option.bind_some]
        cases hok : (lineS (hd f) p u).2 with
        | false =>
          refine ⟨.inr (.inr (([] : List UInt8), 15, s'.1, 4000, s'.2)), rfl, rfl, ?_⟩
          unfold okT famL
          rw [List.all_eq_false]
          exact ⟨_, List.mem_map.2 ⟨p, hmp, rfl⟩, by simp [hok]⟩
        | true =>
          obtain ⟨r, s2, h1, h2⟩ := put_held (K := 1000) (by omega) hH' (line := (lineS (hd f) p u).1) (by omega)
          refine ⟨.inl (((k + 1 : Nat) : Int), s2.1, 4000, s2.2), ?_, s2, rfl, ?_, ?_⟩
          · simp only [Bool.not_true, cond_false, h1, Option.bind_some, step_nat (show k < 9000000000000000000 by omega)]
          · rw [take_snoc hp, List.map_append, flatT_app, ← List.append_assoc]
            have : flatT (List.map (fun p => lineS (hd f) p u) [p]) = (lineS (hd f) p u).1 ++ [10] := by simp [flatT]
            rw [this]
            exact h2
          · rw [take_snoc hp, List.map_append, okT_app, hO']
            simp [okT, hok]
      · obtain ⟨h1, h2⟩ := hI
        rw [List.take_length] at h1 h2
        have e1 : decide ((f.2.2.2.2.length : Int) < (f.2.2.2.2.length : Int)) = false := by simp
        simp only [e1, cond_false]
        exact ⟨_, rfl, s', rfl, h1, h2⟩
      · match r, hr with
        | .inl _, ⟨s', rfl, h1, h2⟩ =>
          refine ⟨.inl (((i + 1 : Nat) : Int), s'.1, 4000, s'.2), ?_, s', rfl, ?_, ?_⟩
          · simp only [step_nat (show i < 9000000000000000000 by omega)]
          · rw [take_snoc hf, List.flatMap_append, flatT_app, List.flatMap_singleton, hTO, hT]
            exact h1
          · rw [take_snoc hf, List.flatMap_append, okT_app, List.flatMap_singleton, hTO, hO, h2]
            rfl
        | .inr x, ⟨h1, h2⟩ =>
          obtain ⟨x1, x2, x3⟩ := x
          refine ⟨_, rfl, h1, ?_⟩
          conv => lhs; rw [← List.take_append_drop i b.2, List.flatMap_append, okT_app, List.drop_eq_getElem_cons hi, List.flatMap_cons, okT_app]
          have : b.2[i] = f := by
            have := List.getElem?_eq_getElem hi
            rw [hf] at this
            exact (Option.some.inj this).symm
          rw [this, h2, Bool.false_and, Bool.and_false]
    · obtain ⟨h1, h2⟩ := hI
      rw [List.take_length] at h1 h2
      have e1 : decide ((b.2.length : Int) < (b.2.length : Int)) = false := by simp
      simp only [e1, cond_false]
      exact ⟨_, rfl, s, rfl, h1, h2⟩
    · match r, hr with
      | .inl _, ⟨s, rfl, h1, h2⟩ =>
        simp only []
        obtain ⟨g1, g2, g3⟩ := h1
        rw [h2]
        simp only [if_true]
        unfold bound
        by_cases hl : 4000 < (flatT (b.2.flatMap (famL u))).length
        · rw [decide_eq_true hl] at g2
          rw [g2, if_pos hl]
          exact ⟨_, rfl, rfl⟩
        · rw [decide_eq_false hl] at g2
          rw [g2, if_neg hl, g3 g2, bytes_ints]
          exact ⟨_, rfl, rfl⟩
      | .inr x, ⟨h1, h2⟩ =>
        obtain ⟨x1, x2, x3⟩ := x
        simp only [Prod.mk.injEq] at h1
        rw [h2]
        exact ⟨_, rfl, by rw [h1.1, h1.2]; rfl⟩

end Go.Proofs.YtekeaempemiciaaGreatDoor
