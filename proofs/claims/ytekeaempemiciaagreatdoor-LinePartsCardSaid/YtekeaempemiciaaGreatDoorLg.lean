/- The line format, printed by the reference; whom it fits. -/
import Derived.Test.YtekeaempemiciaaGreatDoorLf
set_option linter.unusedSimpArgs false
set_option linter.unusedVariables false
namespace Go.Proofs.YtekeaempemiciaaGreatDoor
open Go Go.Rf Go.Proofs Go.RowKit
open Go.IntWalk (i64_in i32_in u8_in u64_in)

def LeftR (t : List UInt8) (ok : Bool) (r : (List UInt8) ⊕ (List UInt8 × Int)) : Prop := match r with
  | .inl x => x = t ∧ ok = true
  | .inr x => x = (([] : List UInt8), (15 : Int)) ∧ ok = false

theorem quoteN {v : List UInt8} (hv : v.length ≤ 100) : polyglotref20_Quote.f 1000 v [44, 32] = some (quote [44, 32] v) := quoteR_eq (by omega) (by omega) (by decide) (by decide)
theorem quoteK {v : List UInt8} (hv : v.length ≤ 100) : polyglotref20_Quote.f 1000 v [44, 32, 61] = some (quote [44, 32, 61] v) := quoteR_eq (by omega) (by omega) (by decide) (by decide)

theorem printR2_eq {b : Bat} (hb : Fit b) (u : Int) : polyglotref20_Print.f 1000 b u = some (lineText b u) := by
  have hq := small_of hb.nar hb.ins
  refine of_ex_eq ?_
  unfold polyglotref20_Print.f lineText
  have hcl : polyglotref12_Class.f 1000 2 b = some (whyB okBound riseP 2 b).2 := by
    unfold polyglotref12_Class.f
    rw [rwhy_eq (by omega) 2 hq]
    rfl
  rw [hcl]
  simp only [Option.bind_some]
  cases hw : (whyB okBound riseP 2 b).2 with
  | false => exact ⟨_, rfl, rfl⟩
  | true =>
    have hc := why_check hw
    simp only [Bool.not_true, cond_false, if_true]
    refine ex_bind (Q := LeftR (flatT (b.2.flatMap (famL u))) (okT (b.2.flatMap (famL u)))) (loop_rel (K := 1000) (fun (s : List UInt8) t => (s, t)) b.2
      (fun i s => s = flatT ((b.2.take i).flatMap (famL u)) ∧ okT ((b.2.take i).flatMap (famL u)) = true) _
      (fun i f s hf hI => ?_) (fun s hI => ?_) (by have := hb.nar.1; omega) (s0 := []) ⟨rfl, rfl⟩) (fun r hr => ?_)
    · -- a family
      have hi := lt_at hf
      have hm := List.mem_of_getElem? hf
      have hpts := fam_pts hb hm
      have e0 : decide ((i : Int) < (b.2.length : Int)) = true := by simpa using hi
      have hnf := hb.nar.1
      simp only [e0, idx_nat hi, Int.toNat_natCast, get_at hf, cond_true]
      obtain ⟨hH, hO⟩ := hI
      have hlen := len_bound hb hc u i
      generalize hTO : (b.2.take i).flatMap (famL u) = TL at hO hH hlen
      rw [← hH] at hlen
      have hnm : ∀ p ∈ f.2.2.2.2, f.1.length ≤ 100 := fun p hp => (nar_pt hb.nar hm hp).1
      refine ex_bind (Q := LeftR (s ++ flatT (famL u f)) (okT (famL u f))) (loop_rel (K := 1000) (fun (s : List UInt8) t => (s, t)) f.2.2.2.2
        (fun k o => o = s ++ flatT ((f.2.2.2.2.take k).map fun p => lineS (hd f) p u) ∧ okT ((f.2.2.2.2.take k).map fun p => lineS (hd f) p u) = true) _
        (fun k p o hp hI => ?_) (fun o hI => ?_) (by omega) (s0 := s) ⟨by simp [flatT], rfl⟩) (fun r hr => ?_)
      · -- a point
        have hk := lt_at hp
        have hmp := List.mem_of_getElem? hp
        have ok := okL_of hb hc hm hmp
        have e1 : decide ((k : Int) < (f.2.2.2.2.length : Int)) = true := by simpa using hk
        obtain ⟨hH', hO'⟩ := hI
        have holen : o.length ≤ 1400000 := by
          have h1 := famL_len hb hc u hm k
          have h2 := Nat.mul_le_mul_right 5201 hpts
          rw [hH', List.length_append]
          omega
        have hq0 := quote_len [44, 32] f.1
        have hn0 := hnm p hmp
        have hlb := ok.labs
        have lq : decide (o.length + (quote [44, 32] f.1).length ≤ LIM) = true := lim (by omega)
        simp only [e1, idx_nat hk, Int.toNat_natCast, get_at hp, cond_true, quoteN hn0, Option.bind_some, lq]
        rw [loop_flat (fun (s : List UInt8) t => (s, t)) p.1 labT (fun s => s) (o ++ quote [44, 32] f.1) (fun n x hx => ?_) (fun s _ => by simp) (by omega)]
        · have h2 := labs_len ok p.1.length
          rw [List.take_length] at h2
          have h3 := fieldK_len f.2.1
          have h4 := decText_len ok.dec ok.i64
          have l1 : decide (([32] : List UInt8).length + (fieldK f.2.1).length ≤ LIM) = true := lim (by simp only [List.length_cons, List.length_nil]; omega)
          have l2 : decide ((([32] : List UInt8) ++ fieldK f.2.1).length + ([61] : List UInt8).length ≤ LIM) = true := lim (by simp only [List.length_append, List.length_cons, List.length_nil]; omega)
          have l3 : decide (((([32] : List UInt8) ++ fieldK f.2.1) ++ ([61] : List UInt8)).length + (decText (p.2.2.2.2.2.1, p.2.2.2.2.2.2.1)).length ≤ LIM) = true := lim (by simp only [List.length_append, List.length_cons, List.length_nil]; omega)
          have l4 : decide (((o ++ quote [44, 32] f.1) ++ p.1.flatMap labT).length + (((([32] : List UInt8) ++ fieldK f.2.1) ++ ([61] : List UInt8)) ++ decText (p.2.2.2.2.2.1, p.2.2.2.2.2.2.1)).length ≤ LIM) = true := lim (by simp only [List.length_append, List.length_cons, List.length_nil]; omega)
          simp only [Option.bind_some, fieldR_eq, l1, l2, l3, l4, cond_true, printR_eq (show 100 < 1000 by omega) ok.dec ok.i64]
          have eB : ((o ++ quote [44, 32] f.1) ++ p.1.flatMap labT) ++ (((([32] : List UInt8) ++ fieldK f.2.1) ++ ([61] : List UInt8)) ++ decText (p.2.2.2.2.2.1, p.2.2.2.2.2.2.1)) = o ++ lineB (hd f) p := by
            unfold lineB hd
            simp only [List.append_assoc]
          rw [eB]
          have hB := lineB_len ok
          have hS := lineS_len ok u
          have step : ∀ x : List UInt8, lineS (hd f) p u = (x, true) → o ++ (x ++ [10]) = s ++ flatT ((f.2.2.2.2.take (k + 1)).map fun p => lineS (hd f) p u) ∧ okT ((f.2.2.2.2.take (k + 1)).map fun p => lineS (hd f) p u) = true := by
            intro x hx
            rw [take_snoc hp, List.map_append, flatT_app, okT_app, hO', hH']
            simp [flatT, okT, hx]
          cases ht : p.2.2.2.2.2.2.2.1 with
          | false =>
            have e2 : lineS (hd f) p u = (lineB (hd f) p, true) := by unfold lineS; rw [ht]; rfl
            have l5 : decide ((o ++ lineB (hd f) p).length + ([10] : List UInt8).length ≤ LIM) = true := lim (by simp only [List.length_append, List.length_cons, List.length_nil]; omega)
            simp only [cond_false, l5, cond_true, step_nat (show k < 9000000000000000000 by omega)]
            exact ⟨_, rfl, _, by rw [List.append_assoc], step _ e2⟩
          | true =>
            obtain ⟨d1, d2⟩ := int_dec (ofU_in (ms := p.2.2.2.2.2.2.2.2) (u := u))
            have h5 := decText_len d1 d2
            have e2 : lineS (hd f) p u = ((lineB (hd f) p ++ [32]) ++ decText ((ofU p.2.2.2.2.2.2.2.2 u).1, 0), (ofU p.2.2.2.2.2.2.2.2 u).2) := by unfold lineS; rw [ht]; rfl
            simp only [cond_true, ofR_eq, Option.bind_some]
            cases hok : (ofU p.2.2.2.2.2.2.2.2 u).2 with
            | false =>
              refine ⟨.inr (.inr (([] : List UInt8), 15)), rfl, rfl, ?_⟩
              unfold okT famL
              rw [List.all_eq_false]
              exact ⟨_, List.mem_map.2 ⟨p, hmp, rfl⟩, by rw [e2]; simp [hok]⟩
            | true =>
              rw [hok] at e2
              have l5 : decide (([32] : List UInt8).length + (decText ((ofU p.2.2.2.2.2.2.2.2 u).1, 0)).length ≤ LIM) = true := lim (by simp only [List.length_cons, List.length_nil]; omega)
              have l6 : decide ((o ++ lineB (hd f) p).length + (([32] : List UInt8) ++ decText ((ofU p.2.2.2.2.2.2.2.2 u).1, 0)).length ≤ LIM) = true := lim (by simp only [List.length_append, List.length_cons, List.length_nil]; omega)
              have l7 : decide (((o ++ lineB (hd f) p) ++ (([32] : List UInt8) ++ decText ((ofU p.2.2.2.2.2.2.2.2 u).1, 0))).length + ([10] : List UInt8).length ≤ LIM) = true := lim (by simp only [List.length_append, List.length_cons, List.length_nil]; omega)
              simp only [Bool.not_true, cond_false, text_eq (show 100 < 1000 by omega) (ofU_in (ms := p.2.2.2.2.2.2.2.2) (u := u)), Option.bind_some, l5, l6, l7, cond_true, step_nat (show k < 9000000000000000000 by omega)]
              exact ⟨_, rfl, _, by simp only [List.append_assoc], step _ e2⟩
        · -- a label
          have hn := lt_at hx
          have hxx := ok.lab x (List.mem_of_getElem? hx)
          have h2 := labs_len ok n
          have q1 := quote_len [44, 32, 61] x.1
          have q2 := quote_len [44, 32, 61] x.2
          have e2 : decide ((n : Int) < (p.1.length : Int)) = true := by simpa using hn
          have l1 : decide (([44] : List UInt8).length + (quote [44, 32, 61] x.1).length ≤ LIM) = true := lim (by simp only [List.length_cons, List.length_nil]; omega)
          have l2 : decide ((([44] : List UInt8) ++ quote [44, 32, 61] x.1).length + ([61] : List UInt8).length ≤ LIM) = true := lim (by simp only [List.length_append, List.length_cons, List.length_nil]; omega)
          have l3 : decide (((([44] : List UInt8) ++ quote [44, 32, 61] x.1) ++ ([61] : List UInt8)).length + (quote [44, 32, 61] x.2).length ≤ LIM) = true := lim (by simp only [List.length_append, List.length_cons, List.length_nil]; omega)
          have l4 : decide (((o ++ quote [44, 32] f.1) ++ (p.1.take n).flatMap labT).length + (((([44] : List UInt8) ++ quote [44, 32, 61] x.1) ++ ([61] : List UInt8)) ++ quote [44, 32, 61] x.2).length ≤ LIM) = true := lim (by simp only [List.length_append, List.length_cons, List.length_nil]; omega)
          simp only [e2, idx_nat hn, Int.toNat_natCast, get_at hx, cond_true, quoteK hxx.1, quoteK hxx.2, Option.bind_some, l1, l2, l3, l4, step_nat (show n < 9000000000000000000 by omega)]
          rfl
      · obtain ⟨h1, h2⟩ := hI
        rw [List.take_length] at h1 h2
        have e1 : decide ((f.2.2.2.2.length : Int) < (f.2.2.2.2.length : Int)) = false := by simp
        simp only [e1, cond_false]
        exact ⟨_, rfl, h1, h2⟩
      · match r, hr with
        | .inl _, ⟨rfl, h2⟩ =>
          refine ⟨.inl (s ++ flatT (famL u f), ((i + 1 : Nat) : Int)), ?_, _, rfl, ?_, ?_⟩
          · simp only [step_nat (show i < 9000000000000000000 by omega)]
          · rw [take_snoc hf, List.flatMap_append, flatT_app, List.flatMap_singleton, hTO, hH]
          · rw [take_snoc hf, List.flatMap_append, okT_app, List.flatMap_singleton, hTO, hO, h2]
            rfl
        | .inr _, ⟨rfl, h2⟩ =>
          refine ⟨_, rfl, rfl, ?_⟩
          conv => lhs; rw [← List.take_append_drop i b.2, List.flatMap_append, okT_app, List.drop_eq_getElem_cons hi, List.flatMap_cons, okT_app]
          have : b.2[i] = f := by
            have := List.getElem?_eq_getElem hi
            rw [hf] at this
            exact (Option.some.inj this).symm
          rw [this, h2, Bool.false_and, Bool.and_false]
    · obtain ⟨h1, h2⟩ := hI
      rw [List.take_length] at h1 h2
      have e1 : decide ((b.2.length : Int) < (b.2.length : Int)) = false := by simp
      simp only [e1, cond_false]
      exact ⟨_, rfl, h1, h2⟩
    · match r, hr with
      | .inl _, ⟨rfl, h2⟩ =>
        rw [h2]
        simp only [if_true]
        unfold bound
        by_cases hl : 4000 < (flatT (b.2.flatMap (famL u))).length
        · rw [if_pos hl, decide_eq_true (show ((flatT (b.2.flatMap (famL u))).length : Int) > 4000 by omega)]
          exact ⟨_, rfl, rfl⟩
        · rw [if_neg hl, decide_eq_false (show ¬ ((flatT (b.2.flatMap (famL u))).length : Int) > 4000 by omega)]
          exact ⟨_, rfl, rfl⟩
      | .inr _, ⟨rfl, h2⟩ =>
        rw [h2]
        exact ⟨_, rfl, rfl⟩

/-! ### Which batches fit, reckoned -/
def inB (b : Bat) : Bool := b.2.all fun f => f.2.2.2.2.all fun p => decide (-9223372036854775808 ≤ p.2.2.2.1) && decide (p.2.2.2.1 ≤ 9223372036854775807) && decide (-9223372036854775808 ≤ p.2.2.2.2.2.1) && decide (p.2.2.2.2.2.1 ≤ 9223372036854775807)
def fitB (b : Bat) : Bool := decide (b.2.length ≤ 40) && decide (b.1.length ≤ 100) && decide (countP b.2 ≤ 130) && b.2.all famW && inB b
theorem fit_of {b : Bat} (h : fitB b = true) : Fit b := by
  unfold fitB at h
  simp only [Bool.and_eq_true, decide_eq_true_eq, List.all_eq_true] at h
  obtain ⟨⟨⟨⟨h1, h2⟩, h3⟩, h4⟩, h5⟩ := h
  unfold inB at h5
  simp only [Bool.and_eq_true, decide_eq_true_eq, List.all_eq_true] at h5
  exact ⟨⟨h1, h2, h3, h4⟩, fun f hf p hp => ⟨(h5 f hf p hp).1.1.1, (h5 f hf p hp).1.1.2⟩, fun f hf p hp => ⟨(h5 f hf p hp).1.2, (h5 f hf p hp).2⟩⟩

end Go.Proofs.YtekeaempemiciaaGreatDoor
