/- Decimals as texts: the program's and the reference's. -/
import Derived.Test.YtekeaempemiciaaGreatDoorLa
set_option linter.unusedSimpArgs false
set_option linter.unusedVariables false
namespace Go.Proofs.YtekeaempemiciaaGreatDoor
open Go Go.Rf Go.Proofs Go.RowKit
open Go.IntWalk (i64_in i32_in u8_in u64_in)

/-! ### Digits -/
def dgsF : Nat → Nat → List Int
  | 0, _ => []
  | f + 1, n => if n = 0 then [] else dgsF f (n / 10) ++ [((n % 10 : Nat) : Int)]
def dgs (n : Nat) : List Int := dgsF (n + 1) n

theorem dgsF_fuel : ∀ (f f' n : Nat), n < f → n < f' → dgsF f n = dgsF f' n
  | 0, _, _, h, _ => absurd h (Nat.not_lt_zero _)
  | _ + 1, 0, _, _, h => absurd h (Nat.not_lt_zero _)
  | f + 1, f' + 1, n, h, h' => by
    simp only [dgsF]
    by_cases h0 : n = 0
    · rw [if_pos h0, if_pos h0]
    · rw [if_neg h0, if_neg h0, dgsF_fuel f f' (n / 10) (by omega) (by omega)]
theorem dgs_zero : dgs 0 = [] := rfl
theorem dgs_pos {n : Nat} (h : n ≠ 0) : dgs n = dgs (n / 10) ++ [((n % 10 : Nat) : Int)] := by
  show dgsF (n + 1) n = dgsF (n / 10 + 1) (n / 10) ++ _
  rw [dgsF, if_neg h, dgsF_fuel n (n / 10 + 1) (n / 10) (by omega) (by omega)]

theorem dig_app {a b : List Int} (ha : dig a) (hb : dig b) : dig (a ++ b) := fun d hd => by
  rcases List.mem_append.1 hd with h | h
  · exact ha d h
  · exact hb d h
theorem lead_app {a b : List Int} (ha : lead a) (hb : a = [] → lead b) : lead (a ++ b) := fun d r h => by
  cases a with
  | nil => exact hb rfl d r (by simpa using h)
  | cons x a =>
    simp only [List.cons_append, List.cons.injEq] at h
    exact h.1 ▸ ha x a rfl

theorem dgs_spec (n : Nat) : dig (dgs n) ∧ lead (dgs n) ∧ dval (dgs n) = (n : Int) := by
  induction n using Nat.strongRecOn with
  | _ n ih =>
    by_cases h : n = 0
    · subst h
      rw [dgs_zero]
      exact ⟨fun d hd => by simp at hd, fun d r h => by simp at h, rfl⟩
    · obtain ⟨h1, h2, h3⟩ := ih (n / 10) (by omega)
      rw [dgs_pos h]
      refine ⟨dig_app h1 fun d hd => ?_, lead_app h2 fun he d r hr => ?_, ?_⟩
      · rw [List.mem_singleton] at hd
        omega
      · simp only [List.cons.injEq] at hr
        by_cases h10 : n / 10 = 0
        · omega
        · rw [dgs_pos h10] at he
          simp at he
      · rw [dval_append, h3]
        simp only [dval, List.length_cons, List.length_nil]
        omega

theorem digits_uniq {a b : List Int} (ha : dig a) (hb : dig b) (la : lead a) (lb : lead b) (h : dval a = dval b) : a = b := by
  have hl : a.length = b.length := by
    rcases Nat.lt_trichotomy a.length b.length with h1 | h1 | h1
    · have := len_lt ha hb lb h1; omega
    · exact h1
    · have := len_lt hb ha la h1; omega
  clear la lb
  induction a generalizing b with
  | nil => cases b with
    | nil => rfl
    | cons _ _ => simp at hl
  | cons x a ih => cases b with
    | nil => simp at hl
    | cons y b =>
      simp only [List.length_cons, Nat.add_right_cancel_iff] at hl
      have h1 := dval_in (l := a) fun d hd => ha d (List.mem_cons_of_mem _ hd)
      have h2 := dval_in (l := b) fun d hd => hb d (List.mem_cons_of_mem _ hd)
      simp only [dval, hl] at h h1
      have hx := ha x (List.mem_cons_self ..)
      have hy := hb y (List.mem_cons_self ..)
      have e : x = y := by
        rcases Int.lt_trichotomy x y with h3 | h3 | h3
        · have : (x + 1) * (10 : Int) ^ b.length ≤ y * 10 ^ b.length := Int.mul_le_mul_of_nonneg_right (by omega) (by omega)
          rw [Int.add_mul, Int.one_mul] at this
          omega
        · exact h3
        · have : (y + 1) * (10 : Int) ^ b.length ≤ x * 10 ^ b.length := Int.mul_le_mul_of_nonneg_right (by omega) (by omega)
          rw [Int.add_mul, Int.one_mul] at this
          omega
      subst e
      rw [ih (fun d hd => ha d (List.mem_cons_of_mem _ hd)) (fun d hd => hb d (List.mem_cons_of_mem _ hd)) (by omega) hl]

theorem amount_dgs {K : Nat} (hK : 40 < K) {m : Int} (hm : -9223372036854775808 < m ∧ m ≤ 9223372036854775807) : polyglotref1_amount.f K m = some (dgs m.natAbs) ∧ (dgs m.natAbs).length ≤ 20 := by
  obtain ⟨l, h1, h2, h3, h4, h5⟩ := amount_eq hK hm
  obtain ⟨g1, g2, g3⟩ := dgs_spec m.natAbs
  have e := digits_uniq h2 g1 h3 g2 (h4.trans g3.symm)
  subst e
  exact ⟨h1, h5⟩

theorem dgs_len19 {n : Nat} (h : n ≤ 9223372036854775807) : (dgs n).length ≤ 19 := by
  obtain ⟨g1, g2, g3⟩ := dgs_spec n
  by_cases h0 : (dgs n).length ≤ 19
  · exact h0
  · exfalso
    cases hd : dgs n with
    | nil => rw [hd] at h0; simp at h0
    | cons d r =>
      rw [hd] at g1 g2 g3 h0
      have := dval_lead g1 (g2 d r rfl)
      simp only [List.length_cons] at h0
      have h20 := pow_mono (a := 19) (b := r.length) (by omega)
      have h19 : (10 : Int) ^ 19 = 10000000000000000000 := by decide
      omega

/-! ### Texts -/
def ch (d : Int) : UInt8 := UInt8.ofNat (48 + d).toNat
def padd (s : Nat) (l : List Int) : List Int := List.replicate (s + 1 - l.length) 0 ++ l
def tx (a : List Int) (s : Nat) : List UInt8 := (a.take (a.length - s)).map ch ++ (if s = 0 then [] else 46 :: (a.drop (a.length - s)).map ch)
def decText (d : Int × Int) : List UInt8 := (if d.1 < 0 then [45] else []) ++ tx (padd d.2.toNat (dgs d.1.natAbs)) d.2.toNat

theorem padd_len (s : Nat) (l : List Int) : (padd s l).length = max l.length (s + 1) := by
  unfold padd
  rw [List.length_append, List.length_replicate]
  omega
theorem padd_dig {s : Nat} {l : List Int} (h : dig l) : dig (padd s l) := dig_app (fun d hd => by rw [List.mem_replicate] at hd; omega) h
theorem padd_val (s : Nat) (l : List Int) : dval (padd s l) = dval l := by
  unfold padd
  rw [dval_append, dval_zeros]
  simp
theorem ch_byte {d : Int} (h : 0 ≤ d ∧ d ≤ 9) : bytesOf ([IntKind.u8.wrap (48 + d)] : List Int) = [ch d] := by
  rw [u8_in (48 + d) (by omega)]
  rfl
theorem tx_len (a : List Int) (s : Nat) : (tx a s).length ≤ a.length + 1 := by
  unfold tx
  rw [List.length_append, List.length_map, List.length_take]
  split
  · simp only [List.length_nil]; omega
  · rw [List.length_cons, List.length_map, List.length_drop]; omega
theorem decText_len {d : Int × Int} (h : okDec d = true) (h1 : I64 d.1) : (decText d).length ≤ 21 := by
  unfold okDec at h
  simp only [Bool.and_eq_true, decide_eq_true_eq, bne_iff_ne] at h
  obtain ⟨⟨⟨h2, h3⟩, h4⟩, _⟩ := h
  have h5 := h1.1
  have h6 := h1.2
  have := dgs_len19 (n := d.1.natAbs) (by omega)
  have := tx_len (padd d.2.toNat (dgs d.1.natAbs)) d.2.toNat
  rw [padd_len] at this
  unfold decText
  rw [List.length_append]
  split <;> simp only [List.length_cons, List.length_nil] <;> omega

/-! ### The reference prints -/
theorem pad_loop {K : Nat} (hK : 40 < K) (l : List Int) (s : Nat) (hs : s ≤ 18) (hl : l.length ≤ 20) : loopN K (fun (a : List Int) =>
    bif decide ((a.length : Int) ≤ (s : Int)) then
        bif decide ((1 + a.length) * 1 ≤ LIM) then
          some (.inl (([0] : List Int) ++ a))
        else none
      else some (.inr a : List Int ⊕ List Int)) l = some (padd s l) := by
  refine loopN_eq (fun a => ∃ j, a = List.replicate j 0 ++ l ∧ (j = 0 ∨ j + l.length ≤ s + 1)) (fun a => s + 1 - a.length) ?_ ⟨0, rfl, .inl rfl⟩ (by omega)
  rintro a ⟨j, rfl, hj⟩
  have hlen : (List.replicate j (0 : Int) ++ l).length = j + l.length := by rw [List.length_append, List.length_replicate]
  by_cases h : j + l.length ≤ s
  · refine .inl ⟨([0] : List Int) ++ (List.replicate j 0 ++ l), ?_, ⟨j + 1, by rw [List.replicate_succ]; rfl, .inr (by omega)⟩, by rw [List.length_append, hlen]; simp only [List.length_cons, List.length_nil]; omega⟩
    have e1 : decide (((List.replicate j (0 : Int) ++ l).length : Int) ≤ (s : Int)) = true := by rw [hlen, decide_eq_true_eq]; omega
    rw [e1, lim (by omega)]
    rfl
  · have e1 : decide (((List.replicate j (0 : Int) ++ l).length : Int) ≤ (s : Int)) = false := by rw [hlen, decide_eq_false_iff_not]; omega
    refine .inr ?_
    have e2 : List.replicate j (0 : Int) ++ l = padd s l := by
      unfold padd
      congr 2
      omega
    rw [e1, cond_false, e2]

theorem zip_tx (a : List Int) (s : Nat) (hs : s < a.length) : (a.zipIdx.flatMap fun x => if x.2 = a.length - s then [46, ch x.1] else [ch x.1]) = tx a s := by
  have plain : ∀ (l : List Int) (k : Nat), (∀ i, i < l.length → k + i ≠ a.length - s) → ((l.zipIdx k).flatMap fun x => if x.2 = a.length - s then [46, ch x.1] else [ch x.1]) = l.map ch := by
    intro l
    induction l with
    | nil => intro k _; rfl
    | cons d l ih =>
      intro k h
      rw [List.zipIdx_cons, List.flatMap_cons, if_neg (show ¬ (d, k).2 = a.length - s from h 0 (by simp)), ih (k + 1) (fun i hi => by have := h (i + 1) (by simp only [List.length_cons]; omega); omega)]
      rfl
  unfold tx
  by_cases h0 : s = 0
  · subst h0
    rw [if_pos rfl, Nat.sub_zero, List.take_length, List.append_nil]
    have := plain a 0 (fun i hi => by omega)
    rwa [Nat.sub_zero] at this
  · rw [if_neg h0]
    generalize hp : a.length - s = p at plain ⊢
    have hpl : p < a.length := by omega
    conv => lhs; rw [← List.take_append_drop p a]
    rw [List.zipIdx_append, List.flatMap_append, plain _ 0 (fun i hi => by rw [List.length_take] at hi; omega)]
    congr 1
    rw [List.length_take, show min p a.length = p by omega, Nat.zero_add, List.drop_eq_getElem_cons hpl, List.zipIdx_cons, List.flatMap_cons, if_pos rfl, plain _ (p + 1) (fun i _ => by omega)]
    rfl

theorem printR_eq {K : Nat} (hK : 100 < K) {d : Int × Int} (h : okDec d = true) (h1 : I64 d.1) : polyglotref1_Print.f K d = some (decText d) := by
  have ho := h
  unfold okDec at h
  simp only [Bool.and_eq_true, decide_eq_true_eq, bne_iff_ne] at h
  obtain ⟨⟨⟨h2, h3⟩, h4⟩, _⟩ := h
  have h5 := h1.1
  have h6 := h1.2
  obtain ⟨n, hn⟩ : ∃ n : Nat, d.2 = (n : Int) := ⟨d.2.toNat, by omega⟩
  obtain ⟨ha, hal⟩ := amount_dgs (K := K) (by omega) (m := d.1) ⟨by omega, by omega⟩
  unfold polyglotref1_Print.f
  rw [rgood_eq, ho, ha]
  simp only [Option.bind_some, Bool.not_true, cond_false, hn]
  rw [pad_loop (by omega) (dgs d.1.natAbs) n (by omega) hal]
  simp only [Option.bind_some]
  have hd := padd_dig (s := n) (dgs_spec d.1.natAbs).1
  have hL : (padd n (dgs d.1.natAbs)).length = max (dgs d.1.natAbs).length (n + 1) := padd_len _ _
  generalize haa : padd n (dgs d.1.natAbs) = a at hd hL
  have hz : ∀ sg : List UInt8, sg.length ≤ 1 → ((loopN K (fun (s_ : List UInt8 × Int) =>
    match s_ with
    | (out, i) =>
      bif decide (i < (a.length : Int)) then
        bif i == (IntKind.i64.wrap ((a.length : Int) - (n : Int))) then
          bif decide (out.length + ([46] : List UInt8).length ≤ LIM) then
            bif idx i a.length then
              bif decide ((out ++ ([46] : List UInt8)).length + (bytesOf ([IntKind.u8.wrap (48 + (a.getD i.toNat (0 : Int)))] : List Int)).length ≤ LIM) then
                some (.inl ((out ++ ([46] : List UInt8)) ++ (bytesOf ([IntKind.u8.wrap (48 + (a.getD i.toNat (0 : Int)))] : List Int)), IntKind.i64.wrap (i + 1)))
              else none
            else none
          else none
        else
        bif idx i a.length then
          bif decide (out.length + (bytesOf ([IntKind.u8.wrap (48 + (a.getD i.toNat (0 : Int)))] : List Int)).length ≤ LIM) then
            some (.inl (out ++ (bytesOf ([IntKind.u8.wrap (48 + (a.getD i.toNat (0 : Int)))] : List Int)), IntKind.i64.wrap (i + 1)))
          else none
        else none
      else some (.inr out)) (sg, 0) : Option (List UInt8))).bind (fun out => some out) = some (sg ++ tx a n) := by
    intro sg hsg
    rw [loop_flat (fun s t => (s, t)) a.zipIdx (fun x => if x.2 = a.length - n then [46, ch x.1] else [ch x.1]) (fun s => s) sg (fun i x hx => ?_) (fun s _ => by simp) (by rw [List.length_zipIdx]; omega), zip_tx a n (by omega)]
    · rfl
    · rw [List.getElem?_zipIdx] at hx
      cases hax : a[i]? with
      | none => rw [hax] at hx; cases hx
      | some y =>
        rw [hax] at hx
        simp only [Option.map_some, Option.some.injEq, Nat.zero_add] at hx
        subst hx
        have hi := lt_at hax
        have hy := hd y (List.mem_of_getElem? hax)
        have hb := take_flat_len (fun x : Int × Nat => if x.2 = a.length - n then [46, ch x.1] else [ch x.1]) 2 (fun x => by split <;> simp) a.zipIdx i
        rw [List.length_zipIdx] at hb
        generalize hs : (a.zipIdx.take i).flatMap (fun x : Int × Nat => if x.2 = a.length - n then [46, ch x.1] else [ch x.1]) = s at hb
        have e : decide ((i : Int) < (a.length : Int)) = true := by simpa using hi
        have e2 : (((i : Int)) == (IntKind.i64.wrap ((a.length : Int) - (n : Int)))) = decide (i = a.length - n) := by
          rw [i64_in _ (by omega)]
          by_cases hh : i = a.length - n
          · rw [decide_eq_true hh]; simp only [beq_iff_eq]; omega
          · rw [decide_eq_false hh, beq_eq_false_iff_ne]; omega
        have l1 : decide ((sg ++ s).length + ([46] : List UInt8).length ≤ LIM) = true := lim (by simp only [List.length_append, List.length_cons, List.length_nil]; omega)
        have l2 : decide (((sg ++ s) ++ ([46] : List UInt8)).length + ([ch y] : List UInt8).length ≤ LIM) = true := lim (by simp only [List.length_append, List.length_cons, List.length_nil]; omega)
        have l3 : decide ((sg ++ s).length + ([ch y] : List UInt8).length ≤ LIM) = true := lim (by simp only [List.length_append, List.length_cons, List.length_nil]; omega)
        simp only [e, idx_nat hi, Int.toNat_natCast, get_at hax, cond_true, e2, ch_byte hy, l1, l2, l3, step_nat (show i < 9000000000000000000 by omega)]
        by_cases hh : i = a.length - n
        · rw [decide_eq_true hh, if_pos hh]; simp
        · rw [decide_eq_false hh, if_neg hh]; simp
  unfold decText
  rw [hn, Int.toNat_natCast, haa]
  by_cases hneg : d.1 < 0
  · rw [decide_eq_true hneg, if_pos hneg]
    exact hz [45] (by simp)
  · rw [decide_eq_false hneg, if_neg hneg]
    exact hz [] (by simp)

end Go.Proofs.YtekeaempemiciaaGreatDoor
