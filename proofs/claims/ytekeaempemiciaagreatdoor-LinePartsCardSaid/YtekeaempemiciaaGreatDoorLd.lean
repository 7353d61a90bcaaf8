/- Whole numbers as texts; times in units. -/
import Derived.Test.YtekeaempemiciaaGreatDoorLc
set_option linter.unusedSimpArgs false
set_option linter.unusedVariables false
namespace Go.Proofs.YtekeaempemiciaaGreatDoor
open Go Go.Rf Go.Proofs Go.RowKit
open Go.IntWalk (i64_in i32_in u8_in u64_in)

theorem tx_zero (a : List Int) : tx a 0 = a.map ch := by
  unfold tx
  rw [if_pos rfl, Nat.sub_zero, List.take_length, List.append_nil]

theorem decDigits_eq (u : Nat) : Lib.decDigits u = (padd 0 (dgs u)).map ch := by
  induction u using Nat.strongRecOn with
  | _ u ih =>
    rw [Lib.decDigits]
    by_cases h : u < 10
    · rw [dif_pos h]
      by_cases h0 : u = 0
      · subst h0
        rw [dgs_zero]
        rfl
      · rw [dgs_pos h0, show u / 10 = 0 by omega, dgs_zero, show u % 10 = u by omega]
        show [UInt8.ofNat (48 + u)] = [ch (u : Int)]
        unfold ch
        rw [show (48 + (u : Int)).toNat = 48 + u by omega]
    · rw [dif_neg h, ih (u / 10) (by omega), dgs_pos (show u ≠ 0 by omega)]
      have p1 : padd 0 (dgs (u / 10)) = dgs (u / 10) := by
        rw [dgs_pos (show u / 10 ≠ 0 by omega)]
        unfold padd
        rw [List.length_append, List.length_singleton, show 0 + 1 - ((dgs (u / 10 / 10)).length + 1) = 0 by omega]
        rfl
      have p2 : padd 0 (dgs (u / 10) ++ [((u % 10 : Nat) : Int)]) = dgs (u / 10) ++ [((u % 10 : Nat) : Int)] := by
        unfold padd
        rw [List.length_append, List.length_singleton, show 0 + 1 - ((dgs (u / 10)).length + 1) = 0 by omega]
        rfl
      rw [p1, p2, List.map_append]
      have : [UInt8.ofNat (48 + u % 10)] = List.map ch [((u % 10 : Nat) : Int)] := by
        show [UInt8.ofNat (48 + u % 10)] = [ch ((u % 10 : Nat) : Int)]
        unfold ch
        rw [show (48 + ((u % 10 : Nat) : Int)).toNat = 48 + u % 10 by omega]
      rw [this]

theorem itoa_eq (n : Int) : Lib.itoa n = decText (n, 0) := by
  unfold Lib.itoa decText
  rw [show ((n, (0 : Int)).2).toNat = 0 from rfl, tx_zero]
  by_cases h : n < 0
  · rw [if_pos h, if_pos h, decDigits_eq]
    rfl
  · rw [if_neg h, if_neg h, decDigits_eq, show n.toNat = n.natAbs by omega]
    rfl

theorem fmt_eq (K : Nat) {n : Int} (h : I64 n) : strconv_FormatInt.f K n 10 = some (decText (n, 0)) := by
  unfold strconv_FormatInt.f fmtInt
  rw [decide_eq_true (show (10 : Int) = 10 from rfl), decide_eq_true h.1, decide_eq_true h.2, itoa_eq]
  rfl

/-! ### The reference's whole numbers -/
theorem trim_eq {K : Nat} {a : List Int} (hK : a.length < K) : polyglotref1_trim.f K a = some (a.dropWhile (· == 0)) := by
  unfold polyglotref1_trim.f
  rw [loopN_eq (r := a.dropWhile (· == 0)) (fun s => s.dropWhile (· == 0) = a.dropWhile (· == 0)) (fun s => s.length) (fun s hs => ?_) rfl hK]
  · rfl
  · cases s with
    | nil => exact .inr (by rw [← hs]; rfl)
    | cons d l =>
      have e1 : decide (((d :: l).length : Int) > 0) = true := by rw [decide_eq_true_eq, List.length_cons]; omega
      have e2 : idx 0 (d :: l).length = true := idx_nat (i := 0) (by simp)
      have e3 : decide (1 ≤ ((d :: l).length : Int)) = true := by rw [decide_eq_true_eq, List.length_cons]; omega
      simp only [e1, e2, e3, cond_true, List.take_length]
      rw [List.dropWhile_cons] at hs
      have e4 : (d :: l).getD 0 (0 : Int) = d := rfl
      rw [e4]
      cases hd : d == 0 with
      | true =>
        rw [hd, if_pos rfl] at hs
        exact .inl ⟨l, rfl, hs, by simp⟩
      | false =>
        rw [hd, if_neg (by simp)] at hs
        exact .inr (by rw [← hs]; rfl)

theorem lead_trim {a : List Int} (hd : dig a) (h : lead a) : a.dropWhile (· == 0) = a := by
  cases a with
  | nil => rfl
  | cons d l =>
    have := h d l rfl
    rw [List.dropWhile_cons, if_neg (by simp; omega)]

theorem dval_snoc (a : List Int) (d : Int) : dval (a ++ [d]) = dval a * 10 + d := by
  rw [dval_append]
  simp [dval]

theorem within_eq {K : Nat} (hK : 40 < K) {a : List Int} (hd : dig a) (hl : lead a) (hlK : a.length < K) (hs : a.length < 4611686018427387904) :
    polyglotref1_within.f K a = some (if dval a > 9223372036854775807 then (0, false) else (dval a, true)) := by
  unfold polyglotref1_within.f
  obtain ⟨m, h1, h2, h3, h4, h5⟩ := digits_eq hK (n := 9223372036854775807) (by omega)
  rw [h1]
  simp only [Option.bind_some]
  rw [rcompare_eq hd h2 hl h3 hlK hs (by omega), h4]
  simp only [Option.bind_some]
  by_cases hv : dval a > 9223372036854775807
  · have e : cmpI (dval a) 9223372036854775807 = 1 := by unfold cmpI; rw [if_neg (by omega), if_pos hv]
    rw [e, if_pos hv]
    rfl
  · have e : decide (cmpI (dval a) 9223372036854775807 > 0) = false := by
      unfold cmpI
      by_cases h : dval a < 9223372036854775807
      · rw [if_pos h]; rfl
      · rw [if_neg h, if_neg hv]; rfl
    rw [e, cond_false, if_neg hv]
    rw [loop_list (fun (s : Int) i => (s, i)) a (fun i s => s = dval (a.take i)) (fun s d => (.inl (s * 10 + d) : Int ⊕ Int)) (fun s => s) (fun i x s hx hs => ?_) (fun s hs => by simp) hlK (by simp [dval])]
    · have : ∀ (l : List Int) (s : Int), foldE (fun s d => (.inl (s * 10 + d) : Int ⊕ Int)) (fun s => s) l s = s * 10 ^ l.length + dval l := by
        intro l
        induction l with
        | nil => intro s; simp [foldE, dval]
        | cons d l ih =>
          intro s
          show foldE (fun s d => (.inl (s * 10 + d) : Int ⊕ Int)) (fun s => s) l (s * 10 + d) = _
          rw [ih]
          simp only [List.length_cons, Int.pow_succ, dval]
          rw [Int.add_mul, Int.mul_assoc, Int.mul_comm (10 : Int), Int.add_assoc]
      rw [this]
      simp
    · subst hs
      have hi := lt_at hx
      have ht : a.take (i + 1) = a.take i ++ [x] := by rw [List.take_add_one, hx]; rfl
      have hdx := hd x (List.mem_of_getElem? hx)
      have h6 := dval_in (l := a.take i) fun y hy => hd y (List.mem_of_mem_take hy)
      have h7 : dval (a.take (i + 1)) = dval (a.take i) * 10 + x := by rw [ht, dval_snoc]
      have h8 : dval (a.take (i + 1)) ≤ dval a := by
        have e0 : dval a = dval (a.take (i + 1)) * 10 ^ (a.drop (i + 1)).length + dval (a.drop (i + 1)) := by rw [← dval_append, List.take_append_drop]
        have p1 : (0 : Int) < 10 ^ (a.drop (i + 1)).length := Int.pow_pos (by decide)
        have p2 := (dval_in (l := a.drop (i + 1)) fun y hy => hd y (List.mem_of_mem_drop hy)).1
        have p3 : dval (a.take (i + 1)) * 1 ≤ dval (a.take (i + 1)) * 10 ^ (a.drop (i + 1)).length := Int.mul_le_mul_of_nonneg_left (by omega) (by omega)
        omega
      refine ⟨?_, fun s' hs' => ?_⟩
      · have e1 : decide ((i : Int) < (a.length : Int)) = true := by simpa using hi
        simp only [e1, idx_nat hi, Int.toNat_natCast, get_at hx, cond_true, step_nat (show i < 9000000000000000000 by omega)]
        rw [i64_in (dval (a.take i) * 10) (by omega), i64_in x (by omega), i64_in _ (by omega)]
      · injection hs' with hs'
        rw [← hs', h7]

theorem normInt_eq {K : Nat} (hK : 100 < K) {n : Int} (hn : -9223372036854775808 < n ∧ n ≤ 9223372036854775807) : polyglotref1_Norm.f K n 0 = some ((n, 0), true) := by
  obtain ⟨h1, h2⟩ := amount_dgs (K := K) (by omega) hn
  obtain ⟨g1, g2, g3⟩ := dgs_spec n.natAbs
  unfold polyglotref1_Norm.f polyglotref1_decimal.f
  rw [h1]
  simp only [Option.bind_some]
  rw [trim_eq (by omega), lead_trim g1 g2]
  simp only [Option.bind_some]
  by_cases h0 : n = 0
  · subst h0
    rw [show dgs (0 : Int).natAbs = [] from dgs_zero]
    rfl
  · have e0 : (((dgs n.natAbs).length : Int) == 0) = false := by
      rw [beq_eq_false_iff_ne]
      intro h
      have : dgs n.natAbs = [] := List.eq_nil_of_length_eq_zero (by omega)
      rw [this] at g3
      simp only [dval] at g3
      omega
    rw [e0, cond_false]
    rw [loopN_eq (r := (dgs n.natAbs, (0 : Int))) (fun s => s = (dgs n.natAbs, (0 : Int))) (fun _ => 0) (fun s hs => by subst hs; exact .inr rfl) rfl (by omega)]
    simp only [Option.bind_some]
    rw [within_eq (by omega) g1 g2 (by omega) (by omega), g3, if_neg (by omega)]
    simp only [Option.bind_some, Bool.not_true, cond_false]
    by_cases hneg : n < 0
    · rw [decide_eq_true hneg, i64_in _ (by omega), show 0 - (n.natAbs : Int) = n by omega]
      rfl
    · rw [decide_eq_false hneg, show (n.natAbs : Int) = n by omega]
      rfl

theorem text_eq {K : Nat} (hK : 100 < K) {n : Int} (hn : -9223372036854775808 < n ∧ n ≤ 9223372036854775807) : polyglotref20_Text.f K n = some (decText (n, 0)) := by
  unfold polyglotref20_Text.f
  rw [normInt_eq hK hn]
  simp only [Option.bind_some]
  have ho : okDec (n, 0) = true := by
    unfold okDec
    have : (n != -9223372036854775808) = true := by rw [bne_iff_ne]; omega
    simp only [this]
    rfl
  rw [printR_eq hK ho ⟨by show _ ≤ n; omega, hn.2⟩]
  rfl

/-! ### Times in units -/
def ofU (ms u : Int) : Int × Bool :=
  if isT ms then
    if u = 0 then (if Int.tmod ms 1000 = 0 then (Int.tdiv ms 1000, true) else (0, false))
    else if u = 1 then (ms, true)
    else if u = 2 then (ms * 1000, true)
    else if u = 3 then (if -9223372036854 ≤ ms ∧ ms ≤ 9223372036854 then (ms * 1000000, true) else (0, false))
    else (0, false)
  else (0, false)

theorem isT_in {t : Int} (h : isT t = true) : -1125899906842624 ≤ t ∧ t ≤ 1125899906842624 := by
  unfold isT at h
  simpa only [Bool.and_eq_true, decide_eq_true_eq] using h

theorem ofU_in {ms u : Int} : -9223372036854775808 < (ofU ms u).1 ∧ (ofU ms u).1 ≤ 9223372036854775807 := by
  unfold ofU
  split
  · rename_i h
    have := isT_in h
    split
    · split
      · simp only []
        rcases Int.le_total 0 ms with h0 | h0
        · rw [Int.tdiv_eq_ediv_of_nonneg h0]; omega
        · have : Int.tdiv ms 1000 = -(Int.tdiv (-ms) 1000) := by rw [Int.neg_tdiv, Int.neg_neg]
          rw [this, Int.tdiv_eq_ediv_of_nonneg (by omega)]; omega
      · simp only []; omega
    · split
      · simp only []; omega
      · split
        · simp only []; omega
        · split
          · split
            · simp only []; omega
            · simp only []; omega
          · simp only []; omega
  · simp only []; omega

theorem ofR_eq (K : Nat) (ms u : Int) : polyglotref1_Of.f K ms u = some (ofU ms u) := by
  unfold polyglotref1_Of.f ofU
  rw [risTime_eq]
  simp only [Option.bind_some]
  cases hT : isT ms with
  | false => rfl
  | true =>
    have := isT_in hT
    simp only [Bool.not_true, cond_false, if_true]
    by_cases h0 : u = 0
    · subst h0
      simp only [show ((0 : Int) == 0) = true from rfl, cond_true, if_true]
      by_cases hm : Int.tmod ms 1000 = 0
      · rw [if_pos hm, hm]
        have : IntKind.i64.wrap (Int.tdiv ms 1000) = Int.tdiv ms 1000 := by
          refine i64_in _ ?_
          rcases Int.le_total 0 ms with h0 | h0
          · rw [Int.tdiv_eq_ediv_of_nonneg h0]; omega
          · have : Int.tdiv ms 1000 = -(Int.tdiv (-ms) 1000) := by rw [Int.neg_tdiv, Int.neg_neg]
            rw [this, Int.tdiv_eq_ediv_of_nonneg (by omega)]; omega
        rw [this]
        rfl
      · have : (Int.tmod ms 1000 != 0) = true := by rw [bne_iff_ne]; exact hm
        rw [if_neg hm, this]
        rfl
    · have b0 : (u == 0) = false := by rw [beq_eq_false_iff_ne]; exact h0
      rw [b0, if_neg h0, cond_false]
      by_cases h1 : u = 1
      · subst h1; rfl
      · have b1 : (u == 1) = false := by rw [beq_eq_false_iff_ne]; exact h1
        rw [b1, if_neg h1, cond_false]
        by_cases h2 : u = 2
        · subst h2
          rw [i64_in _ (by omega)]
          rfl
        · have b2 : (u == 2) = false := by rw [beq_eq_false_iff_ne]; exact h2
          rw [b2, if_neg h2, cond_false]
          by_cases h3 : u = 3
          · subst h3
            simp only [show ((3 : Int) == 3) = true from rfl, cond_true, if_true]
            by_cases c1 : ms < -9223372036854
            · rw [decide_eq_true c1, if_neg (by omega)]; rfl
            · rw [decide_eq_false c1, cond_false]
              by_cases c2 : ms > 9223372036854
              · rw [decide_eq_true c2, if_neg (by omega)]; rfl
              · rw [decide_eq_false c2, if_pos (by omega), i64_in _ (by omega)]; rfl
          · have b3 : (u == 3) = false := by rw [beq_eq_false_iff_ne]; exact h3
            rw [b3, if_neg h3]
            rfl

theorem isTimeP_eq (K : Nat) (ms : Int) : stamp_isTime.f K ms = some (isT ms) := by
  unfold stamp_isTime.f isT
  by_cases h : -1125899906842624 ≤ ms
  · rw [decide_eq_true (show ms ≥ -1125899906842624 from h)]; rfl
  · rw [decide_eq_false (show ¬ ms ≥ -1125899906842624 from h)]; rfl

theorem of_eq (K : Nat) (ms u : Int) : stamp_Of.f K ms u = some (ofU ms u) := by
  by_cases hr : 0 ≤ u ∧ u < 4
  · have hu : u = 0 ∨ u = 1 ∨ u = 2 ∨ u = 3 := by omega
    have unit : ∀ v : Int × Int, stamp_unitOf.f K u = some (v, true) → stamp_Of.f K ms u = (((
      bif !(isT ms) then some true
      else
      bif v.1 != 0 then
        some ((Int.tmod ms v.1) != 0)
      else none) : Option Bool)).bind fun t87 =>
  bif t87 then some (0, false)
  else
  bif v.1 != 0 then
    bif v.2 != 0 then
      bif decide ((IntKind.i64.wrap (Int.tdiv ms v.1)) > (IntKind.i64.wrap (Int.tdiv 9223372036854775807 v.2))) then some (0, false)
      else
      bif v.2 != 0 then
        bif decide ((IntKind.i64.wrap (Int.tdiv ms v.1)) < (IntKind.i64.wrap (Int.tdiv (-9223372036854775808) v.2))) then
          some (0, false)
        else some (IntKind.i64.wrap ((IntKind.i64.wrap (Int.tdiv ms v.1)) * v.2), true)
      else none
    else none
  else none := by
      intro v hv
      unfold stamp_Of.f
      rw [hv]
      simp only [Option.bind_some, Bool.not_true, cond_false, isTimeP_eq]
    unfold ofU
    cases hT : isT ms with
    | false =>
      rcases hu with rfl | rfl | rfl | rfl <;> rw [unit _ rfl, hT] <;> rfl
    | true =>
      have := isT_in hT
      rcases hu with rfl | rfl | rfl | rfl
      · rw [unit (1000, 1) rfl, hT]
        simp only [Bool.not_true, cond_false, if_true, show ((1000 : Int) != 0) = true from rfl, show ((1 : Int) != 0) = true from rfl, cond_true, Option.bind_some]
        by_cases hm : Int.tmod ms 1000 = 0
        · have hb : -1125899906842624 ≤ Int.tdiv ms 1000 ∧ Int.tdiv ms 1000 ≤ 1125899906842624 := by
            rcases Int.le_total 0 ms with h0 | h0
            · rw [Int.tdiv_eq_ediv_of_nonneg h0]; omega
            · have : Int.tdiv ms 1000 = -(Int.tdiv (-ms) 1000) := by rw [Int.neg_tdiv, Int.neg_neg]
              rw [this, Int.tdiv_eq_ediv_of_nonneg (by omega)]; omega
          rw [if_pos hm, hm]
          generalize Int.tdiv ms 1000 = q at hb ⊢
          have w1 : IntKind.i64.wrap (Int.tdiv 9223372036854775807 1) = 9223372036854775807 := by decide
          have w2 : IntKind.i64.wrap (Int.tdiv (-9223372036854775808) 1) = -9223372036854775808 := by decide
          rw [i64_in q (by omega), w1, w2, decide_eq_false (show ¬ q > 9223372036854775807 by omega), decide_eq_false (show ¬ q < -9223372036854775808 by omega), Int.mul_one, i64_in q (by omega)]
          rfl
        · have : (Int.tmod ms 1000 != 0) = true := by rw [bne_iff_ne]; exact hm
          rw [if_neg hm, this]
          rfl
      · rw [unit (1, 1) rfl, hT]
        have w1 : IntKind.i64.wrap (Int.tdiv 9223372036854775807 1) = 9223372036854775807 := by decide
        have w2 : IntKind.i64.wrap (Int.tdiv (-9223372036854775808) 1) = -9223372036854775808 := by decide
        simp only [Int.tdiv_one, Int.tmod_one]
        rw [i64_in ms (by omega), i64_in 9223372036854775807 (by omega), i64_in (-9223372036854775808) (by omega), decide_eq_false (show ¬ ms > 9223372036854775807 by omega), decide_eq_false (show ¬ ms < -9223372036854775808 by omega), Int.mul_one, i64_in ms (by omega)]
        rfl
      · rw [unit (1, 1000) rfl, hT]
        have w1 : IntKind.i64.wrap (Int.tdiv 9223372036854775807 1000) = 9223372036854775 := by decide
        have w2 : IntKind.i64.wrap (Int.tdiv (-9223372036854775808) 1000) = -9223372036854775 := by decide
        simp only [Int.tdiv_one, Int.tmod_one, w1, w2]
        rw [i64_in ms (by omega), decide_eq_false (show ¬ ms > 9223372036854775 by omega), decide_eq_false (show ¬ ms < -9223372036854775 by omega), i64_in (ms * 1000) (by omega)]
        rfl
      · rw [unit (1, 1000000) rfl, hT]
        have w1 : IntKind.i64.wrap (Int.tdiv 9223372036854775807 1000000) = 9223372036854 := by decide
        have w2 : IntKind.i64.wrap (Int.tdiv (-9223372036854775808) 1000000) = -9223372036854 := by decide
        simp only [Int.tdiv_one, Int.tmod_one, w1, w2]
        rw [i64_in ms (by omega)]
        by_cases c1 : ms < -9223372036854
        · rw [decide_eq_true c1, decide_eq_false (show ¬ ms > 9223372036854 by omega), if_neg (show ¬ (-9223372036854 ≤ ms ∧ ms ≤ 9223372036854) by omega)]; rfl
        · rw [decide_eq_false c1]
          by_cases c2 : ms > 9223372036854
          · rw [decide_eq_true c2, if_neg (show ¬ (-9223372036854 ≤ ms ∧ ms ≤ 9223372036854) by omega)]; rfl
          · rw [decide_eq_false c2, if_pos (show (-9223372036854 ≤ ms ∧ ms ≤ 9223372036854) by omega), i64_in _ (by omega)]; rfl
  · have hu : stamp_unitOf.f K u = some ((0, 0), false) := by
      unfold stamp_unitOf.f
      by_cases h0 : u < 0
      · rw [decide_eq_true h0]; rfl
      · rw [decide_eq_false h0, decide_eq_true (show u ≥ 4 by omega)]; rfl
    have e : ofU ms u = (0, false) := by
      unfold ofU
      split
      · rw [if_neg (by omega), if_neg (by omega), if_neg (by omega), if_neg (by omega)]
      · rfl
    unfold stamp_Of.f
    rw [hu, e]
    rfl

end Go.Proofs.YtekeaempemiciaaGreatDoor
