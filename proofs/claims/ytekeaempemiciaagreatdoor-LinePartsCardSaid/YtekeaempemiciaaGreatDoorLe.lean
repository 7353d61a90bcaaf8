/- A text that has a bound; a point's line; a batch's text in the line format. -/
import Derived.Test.YtekeaempemiciaaGreatDoorLd
set_option linter.unusedSimpArgs false
set_option linter.unusedVariables false
namespace Go.Proofs.YtekeaempemiciaaGreatDoor
open Go Go.Rf Go.Proofs Go.RowKit
open Go.IntWalk (i64_in i32_in u8_in u64_in)

/-- What a round may leave. -/
def Rnd {σ S R : Type} (enc : S → Int → σ) (I : Nat → S → Prop) (Q : R → Prop) (i : Nat) (y : σ ⊕ R) : Prop := match y with
  | .inl z => ∃ s', z = enc s' ((i + 1 : Nat) : Int) ∧ I (i + 1) s'
  | .inr r => Q r

/-- A loop over a list, by what it keeps. -/
theorem loop_rel {σ S R α : Type} {K : Nat} {g : σ → Option (σ ⊕ R)} (enc : S → Int → σ) (l : List α) (I : Nat → S → Prop) (Q : R → Prop)
    (hg : ∀ (i : Nat) x s, l[i]? = some x → I i s → ∃ y, g (enc s (i : Int)) = some y ∧ Rnd enc I Q i y)
    (hn : ∀ s, I l.length s → ∃ r, g (enc s (l.length : Int)) = some (.inr r) ∧ Q r) (hK : l.length < K) {s0 : S} (h0 : I 0 s0) : ∃ r, loopN K g (enc s0 0) = some r ∧ Q r := by
  have key : ∀ (m i K : Nat) (s : S), i + m = l.length → m < K → I i s → ∃ r, loopN K g (enc s (i : Int)) = some r ∧ Q r := by
    intro m
    induction m with
    | zero =>
      intro i K s e hk hI
      obtain ⟨K, rfl⟩ : ∃ k, K = k + 1 := ⟨K - 1, by omega⟩
      have : i = l.length := by omega
      subst this
      obtain ⟨r, h1, h2⟩ := hn s hI
      exact ⟨r, by simp only [loopN, h1], h2⟩
    | succ m ih =>
      intro i K s e hk hI
      obtain ⟨K, rfl⟩ : ∃ k, K = k + 1 := ⟨K - 1, by omega⟩
      have hi : i < l.length := by omega
      obtain ⟨y, h1, h2⟩ := hg i l[i] s (List.getElem?_eq_getElem hi) hI
      cases y with
      | inl z =>
        obtain ⟨s', rfl, h3⟩ := h2
        obtain ⟨r, h4, h5⟩ := ih (i + 1) K s' (by omega) (by omega) h3
        exact ⟨r, by simp only [loopN, h1]; exact h4, h5⟩
      | inr r => exact ⟨r, by simp only [loopN, h1], h2⟩
  have := key l.length 0 K s0 (by omega) hK h0
  simpa using this

theorem ex_bind {α β : Type} {X : Option α} {k : α → Option β} {Q : α → Prop} {Z : β → Prop} (h : ∃ r, X = some r ∧ Q r) (hk : ∀ r, Q r → ∃ t, k r = some t ∧ Z t) : ∃ t, X.bind k = some t ∧ Z t := by
  obtain ⟨r, e, hr⟩ := h
  obtain ⟨t, h1, h2⟩ := hk r hr
  exact ⟨t, by rw [e]; exact h1, h2⟩
theorem of_ex_eq {α : Type} {X : Option α} {z : α} (h : ∃ t, X = some t ∧ t = z) : X = some z := by
  obtain ⟨t, h1, h2⟩ := h
  rw [h1, h2]

/-! ### Put -/
def total (parts : List (List UInt8)) : Nat := parts.flatten.length

theorem put_eq {K : Nat} {parts : List (List UInt8)} {buf : List Int} {most : Int} (full : Bool) (hK : parts.length < K) (hp : parts.length < 1000000) (hb : (buf.length : Int) ≤ most) (hm : most ≤ 1000000000) (ht : total parts < 1000000000) :
    out_Out_Put.g K parts buf most full = some (if full = true ∨ most - (buf.length : Int) < (total parts : Int) then (false, buf, most, full || !(parts == [])) else (true, buf ++ ints parts.flatten, most, false)) := by
  unfold out_Out_Put.g
  have hleft : ((bif full then some 0 else some (IntKind.i64.wrap (most - (buf.length : Int)))) : Option Int) = some (bif full then 0 else most - (buf.length : Int)) := by
    cases full with
    | true => rfl
    | false =>
      have : IntKind.i64.wrap (most - (buf.length : Int)) = most - (buf.length : Int) := i64_in _ (by omega)
      rw [this]
      rfl
  rw [hleft]
  simp only [Option.bind_some]
  cases full with
  | true =>
    simp only [cond_true, true_or, if_true, Bool.true_or]
    cases parts with
    | nil =>
      obtain ⟨K, rfl⟩ : ∃ k, K = k + 1 := ⟨K - 1, by simp at hK; omega⟩
      rfl
    | cons p ps =>
      obtain ⟨K, rfl⟩ : ∃ k, K = k + 1 := ⟨K - 1, by simp at hK; omega⟩
      have e0 : decide ((0 : Int) < ((p :: ps).length : Int)) = true := by rw [decide_eq_true_eq, List.length_cons]; omega
      have e1 : decide ((0 : Int).toNat < (p :: ps).length) = true := by rw [decide_eq_true_eq, List.length_cons]; simp
      simp only [loopN, e0, e1, show idx 0 (p :: ps).length = true from idx_nat (i := 0) (by simp), cond_true, Option.bind_some]
  | false =>
    simp only [cond_false, Bool.false_or, Bool.false_eq_true, false_or]
    have loop1 : ∀ (l : List (List UInt8)) (left : Int), foldE (fun (left : Int) (p : List UInt8) => if (p.length : Int) > left then (.inr (.inr (false, buf, most, true)) : Int ⊕ ((List Int × Int × Bool) ⊕ (Bool × List Int × Int × Bool))) else .inl (left - (p.length : Int))) (fun _ => .inl (buf, most, false)) l left
        = if left < (total l : Int) ∧ l ≠ [] then .inr (false, buf, most, true) else .inl (buf, most, false) := by
      intro l
      induction l with
      | nil => intro left; simp [foldE]
      | cons p l ih =>
        intro left
        simp only [foldE]
        have e : total (p :: l) = p.length + total l := by unfold total; rw [List.flatten_cons, List.length_append]
        by_cases h : (p.length : Int) > left
        · rw [if_pos h, if_pos ⟨by omega, by simp⟩]
        · rw [if_neg h]
          simp only [ih]
          cases l with
          | nil =>
            have : total ([] : List (List UInt8)) = 0 := rfl
            rw [if_neg (by simp), if_neg (by omega)]
          | cons q l =>
            by_cases h2 : left - (p.length : Int) < (total (q :: l) : Int)
            · rw [if_pos ⟨h2, by simp⟩, if_pos ⟨by omega, by simp⟩]
            · rw [if_neg (fun x => h2 x.1), if_neg (by omega)]
    have tk : ∀ i, (total (parts.take i) : Int) ≤ (total parts : Int) := fun i => by
      have : total parts = total (parts.take i) + total (parts.drop i) := by
        unfold total
        rw [← List.length_append, ← List.flatten_append, List.take_append_drop]
      omega
    rw [loop_list (fun (left : Int) t => (left, t, buf, most, false)) parts (fun i left => left = most - (buf.length : Int) - (total (parts.take i) : Int)) (fun (left : Int) (p : List UInt8) => if (p.length : Int) > left then (.inr (.inr (false, buf, most, true)) : Int ⊕ ((List Int × Int × Bool) ⊕ (Bool × List Int × Int × Bool))) else .inl (left - (p.length : Int))) (fun _ => .inl (buf, most, false))
      (fun i p left hx hI => ?_) (fun left _ => by simp) hK (by simp [total])]
    · rw [loop1]
      simp only [Option.bind_some]
      by_cases h : most - (buf.length : Int) < (total parts : Int)
      · have hne : parts ≠ [] := by
          rintro rfl
          have : total ([] : List (List UInt8)) = 0 := rfl
          omega
        rw [if_pos ⟨h, hne⟩, if_pos h]
        simp only [beq_false_of_ne hne]
        rfl
      · rw [if_neg (fun x => h x.1), if_neg h]
        simp only [cond_false]
        rw [loop_flat (fun (s : List Int) t => (t, s, most, false)) parts ints (fun s => (s, most, false)) buf (fun i p hx => ?_) (fun s _ => by simp) hK]
        · simp only [Option.bind_some]
          have : parts.flatMap ints = ints parts.flatten := by
            unfold ints
            rw [List.map_flatten]
            rfl
          rw [this]
        · have hi := lt_at hx
          have e0 : decide ((i : Int) < (parts.length : Int)) = true := by simpa using hi
          have e1 : decide (i < parts.length) = true := decide_eq_true hi
          have e2 : (buf ++ (parts.take i).flatMap ints).length + p.length ≤ 140737488355328 := by
            have h1 : ((parts.take i).flatMap ints).length = total (parts.take i) := by
              unfold total ints
              rw [← List.length_map (f := fun b : UInt8 => (b.toNat : Int)), List.map_flatten]
              rfl
            have h2 := tk (i + 1)
            have h3 : total (parts.take (i + 1)) = total (parts.take i) + p.length := by
              unfold total
              rw [List.take_add_one, hx]
              simp
            rw [List.length_append, h1]
            omega
          have e3 : decide (((buf ++ (parts.take i).flatMap ints).length + (p.map fun b => (b.toNat : Int)).length) * 1 ≤ LIM) = true := lim (by rw [List.length_map]; omega)
          simp only [e0, e1, idx_nat hi, Int.toNat_natCast, get_at hx, cond_true, e3, step_nat (show i < 9000000000000000000 by omega)]
          rfl
    · subst hI
      have hi := lt_at hx
      have e0 : decide ((i : Int) < (parts.length : Int)) = true := by simpa using hi
      have e1 : decide (i < parts.length) = true := decide_eq_true hi
      have h2 := tk (i + 1)
      have h3 : total (parts.take (i + 1)) = total (parts.take i) + p.length := by
        unfold total
        rw [List.take_add_one, hx]
        simp
      refine ⟨?_, fun s' hs' => ?_⟩
      · simp only [e0, e1, idx_nat hi, Int.toNat_natCast, get_at hx, cond_true, cond_false, Option.bind_some, step_nat (show i < 9000000000000000000 by omega)]
        by_cases hgt : (p.length : Int) > most - (buf.length : Int) - (total (parts.take i) : Int)
        · rw [decide_eq_true hgt, if_pos hgt]
          rfl
        · rw [decide_eq_false hgt, if_neg hgt, i64_in _ (by omega)]
          rfl
      · split at hs'
        · cases hs'
        · injection hs' with hs'
          rw [← hs', h3]
          omega

/-! ### A point's line -/
abbrev Hd := List UInt8 × Int × List UInt8 × List UInt8
def fieldK (kind : Int) : List UInt8 := if kind = 0 then [118, 97, 108, 117, 101] else if kind = 1 then [103, 97, 117, 103, 101] else if kind = 2 then [99, 111, 117, 110, 116, 101, 114] else []
theorem field_eq (K : Nat) (kind : Int) : lineprint_Field.f K kind = some (fieldK kind) := by
  unfold lineprint_Field.f fieldK
  by_cases h0 : kind = 0
  · subst h0; rfl
  · rw [beq_false_of_ne h0, if_neg h0, cond_false]
    by_cases h1 : kind = 1
    · subst h1; rfl
    · rw [beq_false_of_ne h1, if_neg h1, cond_false]
      by_cases h2 : kind = 2
      · subst h2; rfl
      · rw [beq_false_of_ne h2, if_neg h2, cond_false]
theorem fieldR_eq (K : Nat) (kind : Int) : polyglotref20_Field.f K kind = some (fieldK kind) := field_eq K kind
theorem fieldK_len (kind : Int) : (fieldK kind).length ≤ 7 := by
  unfold fieldK
  split
  · decide
  · split
    · decide
    · split <;> decide

def labT (x : Lab) : List UInt8 := (([44] ++ quote [44, 32, 61] x.1) ++ [61]) ++ quote [44, 32, 61] x.2
def lineB (h : Hd) (p : Pt) : List UInt8 := (quote [44, 32] h.1 ++ p.1.flatMap labT) ++ ((([32] ++ fieldK h.2.1) ++ [61]) ++ decText (p.2.2.2.2.2.1, p.2.2.2.2.2.2.1))
def lineS (h : Hd) (p : Pt) (u : Int) : List UInt8 × Bool :=
  if p.2.2.2.2.2.2.2.1 then ((lineB h p ++ [32]) ++ decText ((ofU p.2.2.2.2.2.2.2.2 u).1, 0), (ofU p.2.2.2.2.2.2.2.2 u).2) else (lineB h p, true)

/-- A point that may be printed. -/
structure OkL (h : Hd) (p : Pt) : Prop where
  name : h.1.length ≤ 100
  labs : p.1.length ≤ 12
  lab : ∀ x ∈ p.1, x.1.length ≤ 100 ∧ x.2.length ≤ 100
  dec : okDec (p.2.2.2.2.2.1, p.2.2.2.2.2.2.1) = true
  i64 : I64 p.2.2.2.2.2.1

theorem labT_len {x : Lab} (h : x.1.length ≤ 100 ∧ x.2.length ≤ 100) : (labT x).length ≤ 402 := by
  have h1 := quote_len [44, 32, 61] x.1
  have h2 := quote_len [44, 32, 61] x.2
  unfold labT
  simp only [List.length_append, List.length_cons, List.length_nil]
  omega

theorem flat_le {α β : Type} (f : α → List β) (n : Nat) : ∀ l : List α, (∀ x ∈ l, (f x).length ≤ n) → (l.flatMap f).length ≤ l.length * n
  | [], _ => by simp
  | x :: l, h => by
    have h1 := flat_le f n l fun y hy => h y (List.mem_cons_of_mem _ hy)
    have h2 := h x (List.mem_cons_self ..)
    simp only [List.flatMap_cons, List.length_append, List.length_cons, Nat.add_mul, Nat.one_mul]
    omega

theorem labs_len {h : Hd} {p : Pt} (o : OkL h p) (i : Nat) : ((p.1.take i).flatMap labT).length ≤ 4824 := by
  have h1 := flat_le labT 402 (p.1.take i) fun x hx => labT_len (o.lab x (List.mem_of_mem_take hx))
  have h2 : (p.1.take i).length ≤ 12 := by rw [List.length_take]; have := o.labs; omega
  have := Nat.mul_le_mul_right 402 h2
  omega

theorem lineB_len {h : Hd} {p : Pt} (o : OkL h p) : (lineB h p).length ≤ 5100 := by
  have h1 := quote_len [44, 32] h.1
  have h2 := labs_len o p.1.length
  rw [List.take_length] at h2
  have h3 := fieldK_len h.2.1
  have h4 := decText_len o.dec o.i64
  have := o.name
  unfold lineB
  simp only [List.length_append, List.length_cons, List.length_nil]
  omega

theorem int_dec {n : Int} (h : -9223372036854775808 < n ∧ n ≤ 9223372036854775807) : okDec (n, 0) = true ∧ I64 (n, (0 : Int)).1 := by
  refine ⟨?_, by show _ ≤ n; omega, h.2⟩
  unfold okDec
  have : (n != -9223372036854775808) = true := by rw [bne_iff_ne]; omega
  simp only [this]
  rfl

theorem lineS_len {h : Hd} {p : Pt} (o : OkL h p) (u : Int) : (lineS h p u).1.length ≤ 5200 := by
  have h1 := lineB_len o
  unfold lineS
  split
  · obtain ⟨d1, d2⟩ := int_dec (ofU_in (ms := p.2.2.2.2.2.2.2.2) (u := u))
    have h2 := decText_len d1 d2
    simp only [List.length_append, List.length_cons, List.length_nil]
    omega
  · simp only []
    omega

theorem lineP_eq {K : Nat} (hK : 200 < K) {h : Hd} {p : Pt} (o : OkL h p) (u : Int) : lineprint_line.f K h p u = some (lineS h p u) := by
  have hq := quote_len [44, 32] h.1
  have hn := o.name
  have hlb := o.labs
  have hB := lineB_len o
  unfold lineprint_line.f
  rw [measure_eq (by omega) (by omega)]
  simp only [Option.bind_some]
  rw [loop_flat (fun (s : List UInt8) t => (s, t)) p.1 labT (fun s => s) (quote [44, 32] h.1) (fun i x hx => ?_) (fun s _ => by simp) (by omega)]
  · simp only [Option.bind_some, field_eq]
    rw [print_eq (by omega) o.dec o.i64]
    have h2 := labs_len o p.1.length
    rw [List.take_length] at h2
    have h3 := fieldK_len h.2.1
    have h4 := decText_len o.dec o.i64
    have l1 : decide (([32] : List UInt8).length + (fieldK h.2.1).length ≤ LIM) = true := lim (by simp only [List.length_cons, List.length_nil]; omega)
    have l2 : decide ((([32] : List UInt8) ++ fieldK h.2.1).length + ([61] : List UInt8).length ≤ LIM) = true := lim (by simp only [List.length_append, List.length_cons, List.length_nil]; omega)
    have l3 : decide (((([32] : List UInt8) ++ fieldK h.2.1) ++ ([61] : List UInt8)).length + (decText (p.2.2.2.2.2.1, p.2.2.2.2.2.2.1)).length ≤ LIM) = true := lim (by simp only [List.length_append, List.length_cons, List.length_nil]; omega)
    have l4 : decide ((quote [44, 32] h.1 ++ p.1.flatMap labT).length + (((([32] : List UInt8) ++ fieldK h.2.1) ++ ([61] : List UInt8)) ++ decText (p.2.2.2.2.2.1, p.2.2.2.2.2.2.1)).length ≤ LIM) = true := lim (by simp only [List.length_append, List.length_cons, List.length_nil]; omega)
    simp only [Option.bind_some, l1, l2, l3, l4, cond_true]
    unfold lineS
    cases p.2.2.2.2.2.2.2.1 with
    | false => rfl
    | true =>
      obtain ⟨d1, d2⟩ := int_dec (ofU_in (ms := p.2.2.2.2.2.2.2.2) (u := u))
      have h5 := decText_len d1 d2
      have l5 : decide ((lineB h p).length + ([32] : List UInt8).length ≤ LIM) = true := lim (by simp only [List.length_cons, List.length_nil]; omega)
      have l6 : decide ((lineB h p ++ ([32] : List UInt8)).length + (decText ((ofU p.2.2.2.2.2.2.2.2 u).1, 0)).length ≤ LIM) = true := lim (by simp only [List.length_append, List.length_cons, List.length_nil]; omega)
      simp only [Bool.not_true, cond_false, of_eq, Option.bind_some, fmt_eq K d2]
      have e : (quote [44, 32] h.1 ++ p.1.flatMap labT) ++ (((([32] : List UInt8) ++ fieldK h.2.1) ++ ([61] : List UInt8)) ++ decText (p.2.2.2.2.2.1, p.2.2.2.2.2.2.1)) = lineB h p := rfl
      rw [e, l5, cond_true, l6]
      rfl
  · have hi := lt_at hx
    have hxx := o.lab x (List.mem_of_getElem? hx)
    have h2 := labs_len o i
    have q1 := quote_len [44, 32, 61] x.1
    have q2 := quote_len [44, 32, 61] x.2
    have e0 : decide ((i : Int) < (p.1.length : Int)) = true := by simpa using hi
    have hk1 := key_eq (K := K) (v := x.1) (by omega) (by omega)
    have hk2 := key_eq (K := K) (v := x.2) (by omega) (by omega)
    have l1 : decide (([44] : List UInt8).length + (quote [44, 32, 61] x.1).length ≤ LIM) = true := lim (by simp only [List.length_cons, List.length_nil]; omega)
    have l2 : decide ((([44] : List UInt8) ++ quote [44, 32, 61] x.1).length + ([61] : List UInt8).length ≤ LIM) = true := lim (by simp only [List.length_append, List.length_cons, List.length_nil]; omega)
    have l3 : decide (((([44] : List UInt8) ++ quote [44, 32, 61] x.1) ++ ([61] : List UInt8)).length + (quote [44, 32, 61] x.2).length ≤ LIM) = true := lim (by simp only [List.length_append, List.length_cons, List.length_nil]; omega)
    have l4 : decide ((quote [44, 32] h.1 ++ (p.1.take i).flatMap labT).length + (((([44] : List UInt8) ++ quote [44, 32, 61] x.1) ++ ([61] : List UInt8)) ++ quote [44, 32, 61] x.2).length ≤ LIM) = true := lim (by simp only [List.length_append, List.length_cons, List.length_nil]; omega)
    simp only [e0, idx_nat hi, Int.toNat_natCast, get_at hx, cond_true, hk1, hk2, Option.bind_some, l1, l2, l3, l4, step_nat (show i < 9000000000000000000 by omega)]
    rfl

end Go.Proofs.YtekeaempemiciaaGreatDoor
