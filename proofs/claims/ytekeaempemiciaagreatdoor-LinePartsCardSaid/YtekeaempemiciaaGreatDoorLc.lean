/- Decimals as texts: the program's own. -/
import Derived.Test.YtekeaempemiciaaGreatDoorLb
set_option linter.unusedSimpArgs false
set_option linter.unusedVariables false
namespace Go.Proofs.YtekeaempemiciaaGreatDoor
open Go Go.Rf Go.Proofs Go.RowKit
open Go.IntWalk (i64_in i32_in u8_in u64_in)

/-- Digits from the right, with a point. -/
def pt (n : Nat) : List Int → List UInt8
  | [] => []
  | d :: r => ch d :: (if r.length > 0 ∧ r.length = n then 46 :: pt n r else pt n r)

theorem pt_plain {n : Nat} : ∀ {l : List Int}, l.length ≤ n → pt n l = l.map ch
  | [], _ => rfl
  | d :: r, h => by
    simp only [List.length_cons] at h
    rw [pt, if_neg (by omega), pt_plain (by omega)]
    rfl

theorem pt_tx {n : Nat} : ∀ {l : List Int}, n < l.length → pt n l = tx l n
  | [], h => by simp at h
  | d :: r, h => by
    simp only [List.length_cons] at h
    by_cases e : r.length = n
    · rw [pt]
      unfold tx
      by_cases h0 : n = 0
      · have : r = [] := List.eq_nil_of_length_eq_zero (by omega)
        subst this
        subst h0
        rfl
      · rw [if_pos ⟨by omega, e⟩, if_neg h0, pt_plain (by omega), List.length_cons, show r.length + 1 - n = 1 by omega]
        rfl
    · have ih := pt_tx (n := n) (l := r) (by omega)
      rw [pt, if_neg (by omega), ih]
      unfold tx
      rw [List.length_cons, show r.length + 1 - n = (r.length - n) + 1 by omega]
      rfl

theorem pt_len (n : Nat) : ∀ l : List Int, (pt n l).length ≤ l.length + 1 ∧ (l.length ≤ n → (pt n l).length = l.length)
  | [] => by simp [pt]
  | d :: r => by
    obtain ⟨h1, h2⟩ := pt_len n r
    simp only [pt, List.length_cons]
    constructor
    · split
      · rename_i h
        have := h2 (by omega)
        rw [List.length_cons]
        omega
      · omega
    · intro h
      rw [if_neg (by omega), h2 (by omega)]

theorem set_drop {l : List Int} {i : Nat} (v : Int) (h : i < l.length) : (l.set i v).drop i = v :: l.drop (i + 1) := by
  rw [List.drop_eq_getElem_cons (by rw [List.length_set]; exact h), List.getElem_set_self]
  congr 1
  rw [List.drop_set, if_pos (by omega)]

theorem zeros24 : ([(0 : Int), (0 : Int), (0 : Int), (0 : Int), (0 : Int), (0 : Int), (0 : Int), (0 : Int), (0 : Int), (0 : Int), (0 : Int), (0 : Int), (0 : Int), (0 : Int), (0 : Int), (0 : Int), (0 : Int), (0 : Int), (0 : Int), (0 : Int), (0 : Int), (0 : Int), (0 : Int), (0 : Int)] : List Int) = List.replicate 24 0 := rfl

theorem ch_int {d : Int} (h : 0 ≤ d ∧ d ≤ 9) : ((ch d).toNat : Int) = 48 + d := by
  unfold ch
  have : (48 + d).toNat < 256 := by omega
  rw [UInt8.toNat_ofNat', Nat.mod_eq_of_lt this]
  omega

theorem idx24 {i : Int} (h : 0 ≤ i ∧ i < 24) : idx i 24 = true := by
  unfold idx
  rw [decide_eq_true h.1, decide_eq_true (show i < ((24 : Nat) : Int) by omega)]
  rfl

theorem print_eq {K : Nat} (hK : 100 < K) {d : Int × Int} (h : okDec d = true) (h1 : I64 d.1) : dec_Print.f K d = some (decText d) := by
  have ho := h
  unfold okDec at h
  simp only [Bool.and_eq_true, decide_eq_true_eq, bne_iff_ne] at h
  obtain ⟨⟨⟨h2, h3⟩, h4⟩, _⟩ := h
  have h5 := h1.1
  have h6 := h1.2
  obtain ⟨n, hn⟩ : ∃ n : Nat, d.2 = (n : Int) := ⟨d.2.toNat, by omega⟩
  have hm : (((bif decide (d.1 < 0) then some (IntKind.i64.wrap (0 - d.1)) else some d.1) : Option Int)) = some (d.1.natAbs : Int) := by
    by_cases hneg : d.1 < 0
    · rw [decide_eq_true hneg, cond_true, i64_in _ (by omega)]
      congr 1
      omega
    · rw [decide_eq_false hneg, cond_false]
      congr 1
      omega
  obtain ⟨g1, g2, g3⟩ := dgs_spec d.1.natAbs
  have g4 := dgs_len19 (n := d.1.natAbs) (by omega)
  have hd := padd_dig (s := n) g1
  have hL : (padd n (dgs d.1.natAbs)).length = max (dgs d.1.natAbs).length (n + 1) := padd_len _ _
  have hv := padd_val n (dgs d.1.natAbs)
  rw [g3] at hv
  have hlead : ∀ k, n < k → k < (padd n (dgs d.1.natAbs)).length → 0 < dval ((padd n (dgs d.1.natAbs)).take ((padd n (dgs d.1.natAbs)).length - k)) := by
    intro k hk hk2
    have e : padd n (dgs d.1.natAbs) = dgs d.1.natAbs := by
      unfold padd
      rw [show n + 1 - (dgs d.1.natAbs).length = 0 by omega]
      rfl
    rw [e] at hk2 ⊢
    cases hc : dgs d.1.natAbs with
    | nil => rw [hc] at hk2; simp at hk2
    | cons x r =>
      rw [hc] at g1 g2 hk2
      obtain ⟨j, hj⟩ : ∃ j, (x :: r).length - k = j + 1 := ⟨(x :: r).length - k - 1, by omega⟩
      rw [hj, List.take_succ_cons]
      have := dval_lead (d := x) (l := r.take j) (fun y hy => g1 y (by
        rcases List.mem_cons.1 hy with rfl | hy
        · exact List.mem_cons_self ..
        · exact List.mem_cons_of_mem _ (List.mem_of_mem_take hy))) (g2 x r rfl)
      have hp : (0 : Int) < 10 ^ (r.take j).length := Int.pow_pos (by decide)
      omega
  unfold decText
  rw [hn, Int.toNat_natCast]
  generalize padd n (dgs d.1.natAbs) = a at hd hL hv hlead ⊢
  have hLn : n < a.length := by omega
  have hL19 : a.length ≤ 19 := by omega
  unfold dec_Print.f
  rw [decGood_eq, ho]
  simp only [Option.bind_some, Bool.not_true, cond_false, hn]
  rw [hm, ← hv]
  simp only [Option.bind_some, zeros24]
  -- the loop
  have loop : ∀ {R : Type} {g : Int × Int × Int × List Int → Option ((Int × Int × Int × List Int) ⊕ (Int × List Int))} {k : Int × List Int → Option R} {z : R}, (∀ (j : Nat) (b : List Int), j ≤ a.length → b.length = 24 → b.drop (24 - (pt n (a.drop (a.length - j))).length) = ints (pt n (a.drop (a.length - j))) →
      (j < a.length → ∃ b' : List Int, b'.length = 24 ∧ b'.drop (24 - (pt n (a.drop (a.length - (j + 1)))).length) = ints (pt n (a.drop (a.length - (j + 1)))) ∧ g (((24 - (pt n (a.drop (a.length - j))).length : Nat) : Int), dval (a.take (a.length - j)), (j : Int), b) = some (.inl (((24 - (pt n (a.drop (a.length - (j + 1)))).length : Nat) : Int), dval (a.take (a.length - (j + 1))), ((j + 1 : Nat) : Int), b'))) ∧
      (j = a.length → g (((24 - (pt n (a.drop (a.length - j))).length : Nat) : Int), dval (a.take (a.length - j)), (j : Int), b) = some (.inr (((24 - (pt n a).length : Nat) : Int), b)))) →
      (∀ b : List Int, b.length = 24 → b.drop (24 - (pt n a).length) = ints (pt n a) → k (((24 - (pt n a).length : Nat) : Int), b) = some z) →
      (loopN K g (24, dval a, 0, List.replicate 24 0)).bind k = some z := by
    intro R g k z hg hk
    obtain ⟨t, e, ht⟩ := bind_loop2 (K := K) (g := g) (k := k) (Z := fun t => t = z) (s := (24, dval a, 0, List.replicate 24 0))
      (fun s => ∃ (j : Nat) (b : List Int), j ≤ a.length ∧ b.length = 24 ∧ b.drop (24 - (pt n (a.drop (a.length - j))).length) = ints (pt n (a.drop (a.length - j))) ∧ s = (((24 - (pt n (a.drop (a.length - j))).length : Nat) : Int), dval (a.take (a.length - j)), (j : Int), b))
      (fun s => a.length - s.2.2.1.toNat) (fun r => ∃ b : List Int, b.length = 24 ∧ b.drop (24 - (pt n a).length) = ints (pt n a) ∧ r = (((24 - (pt n a).length : Nat) : Int), b))
      (by
        rintro s ⟨j, b, h1, h2, h3, rfl⟩
        obtain ⟨k1, k2⟩ := hg j b h1 h2 h3
        by_cases hj : j < a.length
        · obtain ⟨b', e1, e2, e3⟩ := k1 hj
          refine ⟨_, e3, ⟨j + 1, b', by omega, e1, e2, rfl⟩, ?_⟩
          show a.length - ((j + 1 : Nat) : Int).toNat < a.length - ((j : Nat) : Int).toNat
          omega
        · have e : j = a.length := by omega
          refine ⟨_, k2 e, b, h2, ?_, rfl⟩
          rw [e, Nat.sub_self, List.drop_zero] at h3
          exact h3)
      ⟨0, List.replicate 24 0, by omega, rfl, by simp [pt, ints], by simp [pt]⟩ (by show a.length - (0 : Int).toNat < K; omega)
      (by
        rintro r ⟨b, h1, h2, rfl⟩
        exact ⟨z, hk b h1 h2, rfl⟩)
    rw [e, ht]
  refine loop (fun j b hj hb hdr => ⟨fun hlt => ?_, fun he => ?_⟩) (fun b hb hdr => ?_)
  · -- a round
    have hq := pt_len n (a.drop (a.length - j))
    have hdl : (a.drop (a.length - j)).length = j := by rw [List.length_drop]; omega
    rw [hdl] at hq
    have hi : a.length - (j + 1) < a.length := by omega
    have hcons : a.drop (a.length - (j + 1)) = a[a.length - (j + 1)] :: a.drop (a.length - j) := by
      rw [List.drop_eq_getElem_cons hi, show a.length - (j + 1) + 1 = a.length - j by omega]
    have htake : a.take (a.length - j) = a.take (a.length - (j + 1)) ++ [a[a.length - (j + 1)]] := by
      rw [show a.length - j = a.length - (j + 1) + 1 by omega, List.take_add_one, List.getElem?_eq_getElem hi]
      rfl
    have hx := hd a[a.length - (j + 1)] (List.getElem_mem hi)
    have htd : dig (a.take (a.length - (j + 1))) := fun y hy => hd y (List.mem_of_mem_take hy)
    have hvv : dval (a.take (a.length - j)) = dval (a.take (a.length - (j + 1))) * 10 + a[a.length - (j + 1)] := by
      rw [htake, dval_append]
      simp [dval]
    have hin := dval_in htd
    have hcond : (decide (dval (a.take (a.length - j)) > 0) || decide ((j : Int) ≤ (n : Int))) = true := by
      by_cases hh : n < j
      · rw [decide_eq_true (hlead j hh hlt)]; rfl
      · rw [decide_eq_true (show (j : Int) ≤ (n : Int) by omega), Bool.or_true]
    have hpow : (10 : Int) ^ (a.take (a.length - (j + 1))).length ≤ 10 ^ 18 := pow_mono (by rw [List.length_take]; omega)
    have h18 : (10 : Int) ^ 18 = 1000000000000000000 := by decide
    generalize a[a.length - (j + 1)] = x at hcons hx hvv
    generalize dval (a.take (a.length - (j + 1))) = v at hvv hin
    generalize dval (a.take (a.length - j)) = m at hvv hcond
    generalize hacc : pt n (a.drop (a.length - j)) = acc at hdr hq
    have hnew : pt n (a.drop (a.length - (j + 1))) = ch x :: (if j > 0 ∧ j = n then 46 :: acc else acc) := by
      rw [hcons, pt, hdl, hacc]
    have hm10 : Int.tmod m 10 = x := by rw [Int.tmod_eq_emod_of_nonneg (by omega)]; omega
    have hd10 : Int.tdiv m 10 = v := by rw [Int.tdiv_eq_ediv_of_nonneg (by omega)]; omega
    have hu : IntKind.u8.wrap (IntKind.i64.wrap (48 + Int.tmod m 10)) = 48 + x := by rw [hm10, i64_in _ (by omega), u8_in _ (by omega)]
    have hcc : ((((bif decide (m > 0) then some (.inr ()) else bif decide ((j : Int) ≤ (n : Int)) then some (.inr ()) else some (.inl ())) : Option (Unit ⊕ Unit)))) = some (.inr ()) := by
      cases hA : decide (m > 0) with
      | true => rfl
      | false =>
        rw [hA, Bool.false_or] at hcond
        rw [hcond]
        rfl
    simp only [hcc, Option.bind_some]
    -- the point
    have put : ∀ (acc' : List UInt8) (b1 : List Int), acc'.length ≤ 22 → b1.length = 24 → b1.drop (24 - acc'.length) = ints acc' →
        (bif idx (IntKind.i64.wrap (((24 - acc'.length : Nat) : Int) - 1)) 24 then
          bif decide ((IntKind.i64.wrap (((24 - acc'.length : Nat) : Int) - 1)).toNat < b1.length) then
            some (.inl (IntKind.i64.wrap (((24 - acc'.length : Nat) : Int) - 1), IntKind.i64.wrap (Int.tdiv m 10), IntKind.i64.wrap ((j : Int) + 1), (b1.set ((IntKind.i64.wrap (((24 - acc'.length : Nat) : Int) - 1)).toNat) (IntKind.u8.wrap (IntKind.i64.wrap (48 + (Int.tmod m 10)))))) : (Int × Int × Int × List Int) ⊕ (Int × List Int))
          else none
        else none) = some (.inl (((24 - (acc'.length + 1) : Nat) : Int), v, ((j + 1 : Nat) : Int), b1.set (24 - (acc'.length + 1)) (48 + x))) := by
      intro acc' b1 h1 h2 h3
      have e1 : IntKind.i64.wrap (((24 - acc'.length : Nat) : Int) - 1) = ((24 - (acc'.length + 1) : Nat) : Int) := by rw [i64_in _ (by omega)]; omega
      rw [e1, idx24 (by omega), hu, hd10, i64_in v (by omega), Int.toNat_natCast, h2, decide_eq_true (show 24 - (acc'.length + 1) < 24 by omega), step_nat (show j < 9000000000000000000 by omega)]
      rfl
    have set1 : ∀ (acc' : List UInt8) (b1 : List Int) (y : Int) (c : UInt8), acc'.length ≤ 22 → b1.length = 24 → b1.drop (24 - acc'.length) = ints acc' → (c.toNat : Int) = y → (b1.set (24 - (acc'.length + 1)) y).drop (24 - (acc'.length + 1)) = ints (c :: acc') := by
      intro acc' b1 y c h1 h2 h3 h4
      rw [set_drop y (by omega), show 24 - (acc'.length + 1) + 1 = 24 - acc'.length by omega, h3, ← h4]
      rfl
    by_cases hp : j > 0 ∧ j = n
    · have e1 : decide ((j : Int) > 0) = true := by rw [decide_eq_true_eq]; omega
      have e2 : ((j : Int) == (n : Int)) = true := by rw [beq_iff_eq]; omega
      have hql := hq.2 (by omega)
      have e3 : IntKind.i64.wrap (((24 - acc.length : Nat) : Int) - 1) = ((24 - (46 :: acc).length : Nat) : Int) := by rw [i64_in _ (by omega), List.length_cons]; omega
      rw [if_pos hp] at hnew
      refine ⟨(b.set (24 - (acc.length + 1)) 46).set (24 - ((46 :: acc).length + 1)) (48 + x), by rw [List.length_set, List.length_set]; exact hb, ?_, ?_⟩
      · rw [hnew]
        exact set1 (46 :: acc) _ _ _ (by rw [List.length_cons]; omega) (by rw [List.length_set]; exact hb) (set1 acc b 46 46 (by omega) hb hdr rfl) (ch_int hx)
      · rw [hnew, e1, e2, cond_true, cond_true, e3, idx24 (by rw [List.length_cons]; omega), Int.toNat_natCast, hb, decide_eq_true (show 24 - (46 :: acc).length < 24 by rw [List.length_cons]; omega)]
        exact put (46 :: acc) (b.set (24 - (acc.length + 1)) 46) (by rw [List.length_cons]; omega) (by rw [List.length_set]; exact hb) (set1 acc b 46 46 (by omega) hb hdr rfl)
    · rw [if_neg hp] at hnew
      refine ⟨b.set (24 - (acc.length + 1)) (48 + x), by rw [List.length_set]; exact hb, ?_, ?_⟩
      · rw [hnew]
        exact set1 acc b _ _ (by omega) hb hdr (ch_int hx)
      · rw [hnew]
        have fin : (((bif decide ((j : Int) > 0) then
              bif (j : Int) == (n : Int) then
                bif idx (IntKind.i64.wrap (((24 - acc.length : Nat) : Int) - 1)) 24 then
                  bif decide ((IntKind.i64.wrap (((24 - acc.length : Nat) : Int) - 1)).toNat < b.length) then
                    some (IntKind.i64.wrap (((24 - acc.length : Nat) : Int) - 1), (b.set ((IntKind.i64.wrap (((24 - acc.length : Nat) : Int) - 1)).toNat) 46))
                  else none
                else none
              else some (((24 - acc.length : Nat) : Int), b)
            else some (((24 - acc.length : Nat) : Int), b)) : Option (Int × List Int))) = some (((24 - acc.length : Nat) : Int), b) := by
          by_cases h0 : j > 0
          · have e2 : ((j : Int) == (n : Int)) = false := by rw [beq_eq_false_iff_ne]; omega
            rw [e2, cond_false]
            cases decide ((j : Int) > 0) <;> rfl
          · rw [decide_eq_false (show ¬ (j : Int) > 0 by omega)]
            rfl
        rw [fin]
        exact put acc b (by omega) hb hdr
  · -- the end
    subst he
    rw [Nat.sub_self, List.take_zero, List.drop_zero]
    have e1 : decide (dval [] > 0) = false := rfl
    rw [decide_eq_false (show ¬ ((a.length : Nat) : Int) ≤ (n : Int) by omega)]
    rfl
  · -- the sign
    rw [← pt_tx hLn]
    have hq := (pt_len n a).1
    generalize pt n a = acc at hdr hq ⊢
    have out : ∀ (acc' : List UInt8) (b1 : List Int), acc'.length ≤ 22 → b1.length = 24 → b1.drop (24 - acc'.length) = ints acc' →
        (bif (decide (0 ≤ ((24 - acc'.length : Nat) : Int))) && (decide (((24 - acc'.length : Nat) : Int) ≤ (24 : Int))) then
          some (bytesOf ((b1.take 24).drop ((24 - acc'.length : Nat) : Int).toNat))
        else none) = some acc' := by
      intro acc' b1 h1 h2 h3
      rw [decide_eq_true (show (0 : Int) ≤ ((24 - acc'.length : Nat) : Int) by omega), decide_eq_true (show ((24 - acc'.length : Nat) : Int) ≤ (24 : Int) by omega), Int.toNat_natCast, ← h2, List.take_length, h2, h3, bytes_ints]
      rfl
    by_cases hneg : d.1 < 0
    · have e3 : IntKind.i64.wrap (((24 - acc.length : Nat) : Int) - 1) = ((24 - (45 :: acc).length : Nat) : Int) := by rw [i64_in _ (by omega), List.length_cons]; omega
      simp only [decide_eq_true hneg, cond_true, if_pos hneg, e3]
      rw [idx24 (by rw [List.length_cons]; omega), Int.toNat_natCast, hb, decide_eq_true (show 24 - (45 :: acc).length < 24 by rw [List.length_cons]; omega)]
      simp only [cond_true]
      exact out (45 :: acc) (b.set (24 - (45 :: acc).length) 45) (by rw [List.length_cons]; omega) (by rw [List.length_set]; exact hb) (by
        rw [set_drop 45 (by rw [List.length_cons]; omega), List.length_cons, show 24 - (acc.length + 1) + 1 = 24 - acc.length by omega, hdr]
        rfl)
    · simp only [decide_eq_false hneg, cond_false, if_neg hneg, List.nil_append]
      exact out acc b (by omega) hb hdr

end Go.Proofs.YtekeaempemiciaaGreatDoor
