/- What the functions of texts, labels and letters answer, in plain Lean. -/
import Derived.Test.YtoobdenlgapcmaaGreatFnE
import Derived.IntWalk
set_option linter.unusedSimpArgs false
set_option linter.unusedVariables false
namespace Go.Proofs.YtoobdenlgapcmaaGreat
open Go Go.Rf Go.Proofs Go.RowKit
open Go.IntWalk (i64_in i32_in u8_in u64_in)

/-! ### Loops -/
section
variable {S R α : Type}

theorem loopN_rule {g : S → Option (S ⊕ R)} (I : S → Prop) (μ : S → Nat) (Q : R → Prop)
    (h : ∀ s, I s → (∃ s', g s = some (.inl s') ∧ I s' ∧ μ s' < μ s) ∨ (∃ r, g s = some (.inr r) ∧ Q r)) : ∀ (K : Nat) (s : S), I s → μ s < K → ∃ r, loopN K g s = some r ∧ Q r
  | 0, _, _, hk => absurd hk (Nat.not_lt_zero _)
  | K + 1, s, hI, hk => by
    rcases h s hI with ⟨s', e, hI', hlt⟩ | ⟨r, e, hQ⟩
    · obtain ⟨r, h1, h2⟩ := loopN_rule I μ Q h K s' hI' (by omega)
      exact ⟨r, by simp only [loopN, e]; exact h1, h2⟩
    · exact ⟨r, by simp only [loopN, e], hQ⟩

theorem bind_loop {T : Type} {g : S → Option (S ⊕ R)} {K : Nat} {s : S} {k : R → Option T} {Z : T → Prop} (I : S → Prop) (μ : S → Nat) (Q : R → Prop)
    (h : ∀ s, I s → (∃ s', g s = some (.inl s') ∧ I s' ∧ μ s' < μ s) ∨ (∃ r, g s = some (.inr r) ∧ Q r)) (hs : I s) (hK : μ s < K) (hk : ∀ r, Q r → ∃ t, k r = some t ∧ Z t) : ∃ t, (loopN K g s).bind k = some t ∧ Z t := by
  obtain ⟨r, e, hQ⟩ := loopN_rule I μ Q h K s hs hK
  obtain ⟨t, h1, h2⟩ := hk r hQ
  exact ⟨t, by rw [e]; exact h1, h2⟩

def Step (I : S → Prop) (μ : S → Nat) (Q : R → Prop) (s : S) (y : S ⊕ R) : Prop := match y with | .inl s' => I s' ∧ μ s' < μ s | .inr r => Q r

theorem bind_loop2 {T : Type} {g : S → Option (S ⊕ R)} {K : Nat} {s : S} {k : R → Option T} {Z : T → Prop} (I : S → Prop) (μ : S → Nat) (Q : R → Prop)
    (h : ∀ s, I s → ∃ y, g s = some y ∧ Step I μ Q s y) (hs : I s) (hK : μ s < K) (hk : ∀ r, Q r → ∃ t, k r = some t ∧ Z t) : ∃ t, (loopN K g s).bind k = some t ∧ Z t := by
  refine bind_loop I μ Q (fun s hI => ?_) hs hK hk
  obtain ⟨y, e, hy⟩ := h s hI
  cases y with
  | inl s' => exact .inl ⟨s', e, hy.1, hy.2⟩
  | inr r => exact .inr ⟨r, e, hy⟩

/-- A loop over places, from one on: the first at which it stops. -/
theorem loop_from {K : Nat} {g : Int → Option (Int ⊕ (Unit ⊕ R))} {n : Nat} (h : Nat → Option R) (hg : ∀ i : Nat, i < n → g (i : Int) = some (match h i with | some r => .inr (.inr r) | none => .inl ((i + 1 : Nat) : Int)))
    (hn : g (n : Int) = some (.inr (.inl ()))) : ∀ (m i : Nat), i + m = n → m < K → loopN K g (i : Int) = some (match (List.range' i m).findSome? h with | some r => .inr r | none => .inl ())
  | 0, i, e, hk => by
    obtain ⟨K, rfl⟩ : ∃ k, K = k + 1 := ⟨K - 1, by omega⟩
    have : i = n := by omega
    subst this
    simp only [loopN, hn]
    rfl
  | m + 1, i, e, hk => by
    obtain ⟨K, rfl⟩ : ∃ k, K = k + 1 := ⟨K - 1, by omega⟩
    simp only [loopN, hg i (by omega), List.range'_succ, List.findSome?_cons]
    cases hh : h i with
    | some r => rfl
    | none => exact loop_from (K := K) h hg hn m (i + 1) (by omega) (by omega)

theorem findSome_all {l : List α} {p : α → Bool} {r : R} : l.findSome? (fun x => if p x then none else some r) = if l.all p then none else some r := by
  induction l with
  | nil => rfl
  | cons a l ih =>
    rw [List.findSome?_cons, List.all_cons]
    cases p a with
    | true => simpa using ih
    | false => rfl

/-- The same, from a place on, if the places ahead of it are never met. -/
theorem loop_past {K : Nat} {g : Int → Option (Int ⊕ (Unit ⊕ R))} {n i0 : Nat} (h : Nat → Option R) (hg : ∀ i : Nat, i0 ≤ i → i < n → g (i : Int) = some (match h i with | some r => .inr (.inr r) | none => .inl ((i + 1 : Nat) : Int)))
    (hn : g (n : Int) = some (.inr (.inl ()))) : ∀ (m i : Nat), i0 ≤ i → i + m = n → m < K → loopN K g (i : Int) = some (match (List.range' i m).findSome? h with | some r => .inr r | none => .inl ())
  | 0, i, _, e, hk => by
    obtain ⟨K, rfl⟩ : ∃ k, K = k + 1 := ⟨K - 1, by omega⟩
    have : i = n := by omega
    subst this
    simp only [loopN, hn]
    rfl
  | m + 1, i, hi, e, hk => by
    obtain ⟨K, rfl⟩ : ∃ k, K = k + 1 := ⟨K - 1, by omega⟩
    simp only [loopN, hg i hi (by omega), List.range'_succ, List.findSome?_cons]
    cases hh : h i with
    | some r => rfl
    | none => exact loop_past (K := K) h hg hn m (i + 1) (by omega) (by omega) (by omega)

/-- A loop over places, from the second one on, that looks whether all are so. -/
theorem loop_pairs {K : Nat} {g : Int → Option (Int ⊕ (Unit ⊕ R))} (n : Nat) (p : Nat → Bool) (r : R) (hK : n < K) (hg : ∀ i : Nat, i + 1 < n → g ((i + 1 : Nat) : Int) = some (if p (i + 1) then .inl ((i + 1 + 1 : Nat) : Int) else .inr (.inr r)))
    (hn : ∀ m : Int, (n : Int) ≤ m → g m = some (.inr (.inl ()))) : loopN K g 1 = some (if (List.range' 1 (n - 1)).all p then .inl () else .inr r) := by
  cases n with
  | zero =>
    obtain ⟨K, rfl⟩ : ∃ k, K = k + 1 := ⟨K - 1, by omega⟩
    simp only [loopN, hn 1 (by omega)]
    rfl
  | succ n =>
    have h1 := loop_past (K := K) (g := g) (n := n + 1) (i0 := 1) (fun i => if p i then none else some r) (fun i h1 hi => by
      obtain ⟨k, rfl⟩ : ∃ k, i = k + 1 := ⟨i - 1, by omega⟩
      rw [hg k hi]
      cases p (k + 1) <;> rfl) (hn _ (Int.le_refl _)) n 1 (Nat.le_refl _) (by omega) (by omega)
    rw [findSome_all] at h1
    rw [Nat.add_sub_cancel]
    exact h1.trans (by cases (List.range' 1 n).all p <;> rfl)

theorem findSome_range' {l : List α} (h : Nat → Option R) (f : α → Option R) : ∀ (k : Nat) (l2 : List α), l.drop k = l2 → (∀ i x, l[i]? = some x → h i = f x) → (List.range' k l2.length).findSome? h = l2.findSome? f
  | k, [], _, _ => rfl
  | k, a :: l2, e, hh => by
    rw [List.length_cons, List.range'_succ, List.findSome?_cons, List.findSome?_cons]
    have ha : l[k]? = some a := by
      have := congrArg (·[0]?) e
      simpa using this
    rw [hh k a ha]
    cases f a with
    | some r => rfl
    | none => exact findSome_range' h f (k + 1) l2 (by rw [← List.drop_drop, e]; rfl) hh

/-- A loop over a row: the first element at which it stops. -/
theorem loop_row {K : Nat} {g : Int → Option (Int ⊕ (Unit ⊕ R))} (l : List α) (f : α → Option R) (hK : l.length < K) (hg : ∀ (i : Nat) x, l[i]? = some x → g (i : Int) = some (match f x with | some r => .inr (.inr r) | none => .inl ((i + 1 : Nat) : Int)))
    (hn : g (l.length : Int) = some (.inr (.inl ()))) : loopN K g 0 = some (match l.findSome? f with | some r => .inr r | none => .inl ()) := by
  have h1 := loop_from (K := K) (g := g) (n := l.length) (fun i => l[i]?.bind f) (fun i hi => by
    rw [hg i l[i] (List.getElem?_eq_getElem hi), List.getElem?_eq_getElem hi]
    rfl) hn l.length 0 (by omega) hK
  rw [findSome_range' (l := l) (fun i => l[i]?.bind f) f 0 l rfl (fun i x hx => by rw [hx]; rfl)] at h1
  exact h1

/-- A loop that looks whether all elements are so. -/
theorem loop_all {K : Nat} {g : Int → Option (Int ⊕ (Unit ⊕ R))} (l : List α) (p : α → Bool) (r : R) (hK : l.length < K) (hg : ∀ (i : Nat) x, l[i]? = some x → g (i : Int) = some (if p x then .inl ((i + 1 : Nat) : Int) else .inr (.inr r)))
    (hn : g (l.length : Int) = some (.inr (.inl ()))) : loopN K g 0 = some (if l.all p then .inl () else .inr r) := by
  rw [loop_row l (fun x => if p x then none else some r) hK (fun i x hx => by rw [hg i x hx]; cases p x <;> rfl) hn, findSome_all]
  cases l.all p <;> rfl

/-- A loop over places that looks whether all are so. -/
theorem loop_ix {K : Nat} {g : Int → Option (Int ⊕ (Unit ⊕ R))} (n : Nat) (p : Nat → Bool) (r : R) (hK : n < K) (hg : ∀ i : Nat, i < n → g (i : Int) = some (if p i then .inl ((i + 1 : Nat) : Int) else .inr (.inr r)))
    (hn : g (n : Int) = some (.inr (.inl ()))) : loopN K g 0 = some (if (List.range n).all p then .inl () else .inr r) := by
  have h1 := loop_from (K := K) (g := g) (n := n) (fun i => if p i then none else some r) (fun i hi => by rw [hg i hi]; cases p i <;> rfl) hn n 0 (by omega) hK
  rw [findSome_all, ← List.range_eq_range'] at h1
  exact h1.trans (by cases (List.range n).all p <;> rfl)

end

theorem idx_nat {i n : Nat} (h : i < n) : idx (i : Int) n = true := by simp [idx]; omega
theorem step_nat {i : Nat} (h : i < 9000000000000000000) : IntKind.i64.wrap ((i : Int) + 1) = ((i + 1 : Nat) : Int) := by
  rw [i64_in _ (by omega)]
  omega
theorem get_at {α : Type} {l : List α} {i : Nat} {x : α} (h : l[i]? = some x) (d : α) : l.getD i d = x := by rw [List.getD_eq_getElem?_getD, h]; rfl
theorem lt_at {α : Type} {l : List α} {i : Nat} {x : α} (h : l[i]? = some x) : i < l.length := (List.getElem?_eq_some_iff.1 h).1

/-- All bytes are as a table says. -/
theorem byte_all {p : UInt8 → Bool} (h : ((List.range 256).all fun n => p (UInt8.ofNat n)) = true) (c : UInt8) : p c = true := by
  have := List.all_eq_true.1 h c.toNat (List.mem_range.2 c.toNat_lt)
  rwa [UInt8.ofNat_toNat] at this

/-! ### UTF-8 -/
def uSize (c : UInt8) : Nat := if c.toNat < 128 then 1 else if c.toNat < 194 then 0 else if c.toNat < 224 then 2 else if c.toNat < 240 then 3 else if c.toNat < 245 then 4 else 0
def uLo (c : UInt8) : Nat := if c.toNat = 224 then 160 else if c.toNat = 240 then 144 else 128
def uHi (c : UInt8) : Nat := if c.toNat = 237 then 159 else if c.toNat = 244 then 143 else 191

def uTail : Nat → Nat → Nat → Nat → List UInt8 → Nat × Bool
  | 0, _, _, k, _ => (k, true)
  | _ + 1, _, _, k, [] => (k, false)
  | m + 1, lo, hi, k, b :: r => if b.toNat < lo || hi < b.toNat then (k, false) else uTail m 128 191 (k + 1) r

/-- The first scalar: how many bytes, whether it is whole. -/
def uFront : List UInt8 → Nat × Bool
  | [] => (0, false)
  | c :: r => if uSize c = 0 then (0, false) else uTail (uSize c - 1) (uLo c) (uHi c) 1 r

def uOK : Nat → List UInt8 → Bool
  | 0, _ => false
  | _ + 1, [] => true
  | f + 1, c :: r => (uFront (c :: r)).2 && uOK f ((c :: r).drop (uFront (c :: r)).1)

theorem uTail_le : ∀ (m lo hi k : Nat) (r : List UInt8), k ≤ (uTail m lo hi k r).1 ∧ (uTail m lo hi k r).1 ≤ k + r.length ∧ (uTail m lo hi k r).1 ≤ k + m
  | 0, _, _, k, r => by simp [uTail]
  | m + 1, _, _, k, [] => by simp [uTail]
  | m + 1, lo, hi, k, b :: r => by
    unfold uTail
    split
    · simp
    · have := uTail_le m 128 191 (k + 1) r
      simp only [List.length_cons]
      omega

theorem uFront_cons (c : UInt8) (r : List UInt8) : uFront (c :: r) = if uSize c = 0 then (0, false) else uTail (uSize c - 1) (uLo c) (uHi c) 1 r := rfl
theorem uSize_le (c : UInt8) : uSize c ≤ 4 := by
  have := byte_all (p := fun c => decide (uSize c ≤ 4)) (by kernel_rfl) c
  simpa using this

theorem uFront_le (s : List UInt8) : (uFront s).1 ≤ s.length ∧ (uFront s).1 ≤ 4 ∧ ((uFront s).2 = true → 1 ≤ (uFront s).1) := by
  cases s with
  | nil => simp [uFront]
  | cons c r =>
    rw [uFront_cons]
    split
    · simp
    · have := uTail_le (uSize c - 1) (uLo c) (uHi c) 1 r
      have h4 := uSize_le c
      simp only [List.length_cons]
      exact ⟨by omega, by omega, fun _ => by omega⟩

theorem uOK_ascii : ∀ (f : Nat) (s : List UInt8), s.length < f → (s.all fun c => decide (c.toNat < 128)) = true → uOK f s = true
  | 0, _, h, _ => absurd h (Nat.not_lt_zero _)
  | _ + 1, [], _, _ => rfl
  | f + 1, c :: r, h, ha => by
    rw [List.all_cons, Bool.and_eq_true, decide_eq_true_eq] at ha
    have e : uFront (c :: r) = (1, true) := by
      have : uSize c = 1 := by unfold uSize; rw [if_pos ha.1]
      rw [uFront_cons, this]
      rfl
    unfold uOK
    rw [e]
    simp only [Bool.true_and, List.drop_succ_cons, List.drop_zero]
    exact uOK_ascii f r (by simp only [List.length_cons] at h; omega) ha.2

theorem size_eq (K : Nat) (c : UInt8) : utf_size.f K (c.toNat : Int) = some ((uSize c : Nat) : Int) := by
  have := byte_all (p := fun c => utf_size.f K (c.toNat : Int) == some ((uSize c : Nat) : Int)) (by kernel_rfl) c
  simpa using this
theorem second_eq (K : Nat) (c : UInt8) : utf_second.f K (c.toNat : Int) = some ((uLo c : Int), (uHi c : Int)) := by
  have := byte_all (p := fun c => utf_second.f K (c.toNat : Int) == some ((uLo c : Int), (uHi c : Int))) (by kernel_rfl) c
  simpa using this


theorem front_eq {K : Nat} (hK : 4 < K) {s : List UInt8} {at_ : Nat} (h : at_ < s.length) (hs : s.length < 4611686018427387904) : ∃ t, utf_front.f K s (at_ : Int) = some t ∧ t.2.1 = ((uFront (s.drop at_)).1 : Int) ∧ t.2.2 = (uFront (s.drop at_)).2 := by
  have hd : s.drop at_ = s[at_] :: s.drop (at_ + 1) := List.drop_eq_getElem_cons h
  have hg : s.getD at_ 0 = s[at_] := by rw [List.getD_eq_getElem?_getD, List.getElem?_eq_getElem h]; rfl
  unfold utf_front.f
  simp only [idx_nat h, cond_true, Int.toNat_natCast, hg, size_eq, second_eq, Option.bind_some]
  rw [hd, uFront_cons]
  have h4 := uSize_le s[at_]
  generalize hn : uSize s[at_] = n at h4 ⊢
  generalize hF : (if n = 0 then ((0 : Nat), false) else uTail (n - 1) (uLo s[at_]) (uHi s[at_]) 1 (s.drop (at_ + 1))) = F
  by_cases h0 : n = 0
  · rw [if_pos h0] at hF
    subst hF
    have e : (((n : Nat) : Int) == 0) = true := by simpa using h0
    rw [e]
    exact ⟨_, rfl, rfl, rfl⟩
  · rw [if_neg h0] at hF
    have e : (((n : Nat) : Int) == 0) = false := by simpa using h0
    have e2 : idx ((n : Nat) : Int) 5 = true := idx_nat (by omega)
    have e3 : decide (n < 5) = true := by simpa using (by omega : n < 5)
    rw [e, e2]
    simp only [cond_false, cond_true, e3]
    refine bind_loop (fun x => ∃ lo hi k : Nat, x.2.1 = (lo : Int) ∧ x.2.2.1 = (hi : Int) ∧ x.2.2.2 = (k : Int) ∧ 1 ≤ k ∧ k ≤ n ∧ uTail (n - k) lo hi k (s.drop (at_ + k)) = F) (fun x => n - x.2.2.2.toNat)
      (fun r => match r with | .inl _ => F = (n, true) | .inr y => y.2.1 = (F.1 : Int) ∧ y.2.2 = F.2) ?_ ⟨uLo s[at_], uHi s[at_], 1, rfl, rfl, rfl, by omega, by omega, hF⟩ (by simp only []; omega) ?_
    · rintro ⟨r, _, _, _⟩ ⟨lo, hi, k, rfl, rfl, rfl, h1, h2, h3⟩
      simp only []
      by_cases hk : k < n
      · have e4 : decide (((k : Nat) : Int) < ((n : Nat) : Int)) = true := by simpa using hk
        rw [e4]
        obtain ⟨m, hm⟩ : ∃ m, n - k = m + 1 := ⟨n - k - 1, by omega⟩
        rw [hm] at h3
        rw [i64_in ((s.length : Int) - (at_ : Int)) (by omega), i64_in ((at_ : Int) + (k : Int)) (by omega)]
        by_cases hl : at_ + k < s.length
        · have e5 : decide (((k : Nat) : Int) ≥ (s.length : Int) - (at_ : Int)) = false := by simp; omega
          have e6 : idx ((at_ : Int) + (k : Int)) s.length = true := by rw [show (at_ : Int) + (k : Int) = ((at_ + k : Nat) : Int) from by omega]; exact idx_nat hl
          have e7 : ((at_ : Int) + (k : Int)).toNat = at_ + k := by omega
          have hdk : s.drop (at_ + k) = s[at_ + k] :: s.drop (at_ + (k + 1)) := List.drop_eq_getElem_cons hl
          have hgk : s.getD (at_ + k) 0 = s[at_ + k] := by rw [List.getD_eq_getElem?_getD, List.getElem?_eq_getElem hl]; rfl
          rw [hdk] at h3
          simp only [uTail] at h3
          simp only [e5, e6, e7, hgk, cond_true, cond_false]
          by_cases hlo : (s[at_ + k]).toNat < lo
          · have e8 : decide (((s[at_ + k]).toNat : Int) < (lo : Int)) = true := by simpa using hlo
            rw [if_pos (by simp [hlo])] at h3
            subst h3
            refine .inr ⟨.inr (0, (k : Int), false), ?_, rfl, rfl⟩
            rw [e8]
            rfl
          · have e8 : decide (((s[at_ + k]).toNat : Int) < (lo : Int)) = false := by simpa using hlo
            rw [e8]
            simp only [cond_false, Option.bind_some]
            by_cases hhi : hi < (s[at_ + k]).toNat
            · have e9 : decide (((s[at_ + k]).toNat : Int) > (hi : Int)) = true := by simpa using hhi
              rw [if_pos (by simp [hhi])] at h3
              subst h3
              rw [e9]
              exact .inr ⟨.inr (0, (k : Int), false), rfl, rfl, rfl⟩
            · have e9 : decide (((s[at_ + k]).toNat : Int) > (hi : Int)) = false := by simpa using hhi
              rw [if_neg (by simp [hlo, hhi])] at h3
              rw [e9]
              simp only [cond_false]
              refine .inl ⟨_, rfl, ⟨128, 191, k + 1, rfl, rfl, ?_, by omega, by omega, ?_⟩, ?_⟩
              · exact step_nat (by omega)
              · rw [show n - (k + 1) = m from by omega]
                exact h3
              · show n - (IntKind.i64.wrap ((k : Int) + 1)).toNat < n - ((k : Int)).toNat
                rw [i64_in ((k : Int) + 1) (by omega)]
                omega
        · have e5 : decide (((k : Nat) : Int) ≥ (s.length : Int) - (at_ : Int)) = true := by simp; omega
          have hdk : s.drop (at_ + k) = [] := List.drop_eq_nil_iff.2 (by omega)
          rw [hdk] at h3
          simp only [uTail] at h3
          subst h3
          rw [e5]
          exact .inr ⟨.inr (0, (k : Int), false), rfl, rfl, rfl⟩
      · have e4 : decide (((k : Nat) : Int) < ((n : Nat) : Int)) = false := by simpa using hk
        rw [e4]
        have : k = n := by omega
        subst this
        rw [Nat.sub_self] at h3
        simp only [uTail] at h3
        exact .inr ⟨.inl r, rfl, h3.symm⟩
    · rintro (r | ⟨x, y, z⟩) hQ
      · simp only [] at hQ
        rw [hQ]
        exact ⟨_, rfl, rfl, rfl⟩
      · exact ⟨_, rfl, hQ.1, hQ.2⟩

/-- Are all bytes whole scalars? -/
def utf8 (s : List UInt8) : Bool := uOK (s.length + 1) s

theorem uOK_fuel : ∀ (f f' : Nat) (s : List UInt8), s.length < f → s.length < f' → uOK f s = uOK f' s
  | 0, _, _, h, _ => absurd h (Nat.not_lt_zero _)
  | _ + 1, 0, _, _, h => absurd h (Nat.not_lt_zero _)
  | _ + 1, _ + 1, [], _, _ => rfl
  | f + 1, f' + 1, c :: r, h, h' => by
    unfold uOK
    have hl := uFront_le (c :: r)
    cases hw : (uFront (c :: r)).2 with
    | false => rfl
    | true =>
      have := hl.2.2 hw
      simp only [Bool.true_and]
      refine uOK_fuel f f' _ ?_ ?_ <;> (rw [List.length_drop]; simp only [List.length_cons] at h h' ⊢; omega)

theorem walk_eq {K : Nat} {s : List UInt8} (hK : s.length + 4 < K) (hs : s.length < 4611686018427387904) : ∃ t, utf_walk.f K s = some t ∧ (decide (t.2 < 0) = utf8 s) := by
  unfold utf_walk.f
  refine bind_loop (fun x => ∃ c a : Nat, x.1 = (c : Int) ∧ x.2 = (a : Int) ∧ c ≤ a ∧ a ≤ s.length ∧ uOK (s.length + 1) (s.drop a) = utf8 s) (fun x => s.length - x.2.toNat)
    (fun r => match r with | .inl _ => utf8 s = true | .inr y => 0 ≤ y.2 ∧ utf8 s = false) ?_ ⟨0, 0, rfl, rfl, by omega, by omega, rfl⟩ (by simp only []; omega) ?_
  · rintro ⟨_, _⟩ ⟨c, a, rfl, rfl, h0, h1, h2⟩
    simp only []
    by_cases ha : a < s.length
    · have e : decide (((a : Nat) : Int) < (s.length : Int)) = true := by simpa using ha
      rw [e]
      obtain ⟨⟨r, n, w⟩, f1, f2, f3⟩ := front_eq (K := K) (by omega) ha hs
      simp only [] at f2 f3
      subst f2
      subst f3
      rw [f1]
      have hd : s.drop a = s[a] :: s.drop (a + 1) := List.drop_eq_getElem_cons ha
      have hle := uFront_le (s.drop a)
      rw [List.length_drop] at hle
      have hu : uOK (s.length + 1) (s.drop a) = ((uFront (s.drop a)).2 && uOK s.length ((s.drop a).drop (uFront (s.drop a)).1)) := by
        generalize hx : s.drop a = x at hd ⊢
        subst hd
        rfl
      simp only [cond_true, Option.bind_some]
      cases hw : (uFront (s.drop a)).2 with
      | false =>
        rw [hw] at hu
        refine .inr ⟨_, rfl, ?_, by rw [← h2, hu]; rfl⟩
        simp only []
        rw [i64_in _ (by omega)]
        omega
      | true =>
        rw [hw] at hu
        have h3 := hle.2.2 hw
        refine .inl ⟨_, rfl, ⟨c + 1, a + (uFront (s.drop a)).1, ?_, ?_, by omega, by omega, ?_⟩, ?_⟩
        · exact step_nat (by omega)
        · show IntKind.i64.wrap ((a : Int) + ((uFront (s.drop a)).1 : Int)) = _
          rw [i64_in ((a : Int) + ((uFront (s.drop a)).1 : Int)) (by omega)]
          omega
        · rw [← h2, hu, Bool.true_and, List.drop_drop]
          exact uOK_fuel _ _ _ (by rw [List.length_drop]; omega) (by rw [List.length_drop]; omega)
        · show s.length - (IntKind.i64.wrap ((a : Int) + ((uFront (s.drop a)).1 : Int))).toNat < s.length - ((a : Int)).toNat
          rw [i64_in ((a : Int) + ((uFront (s.drop a)).1 : Int)) (by omega)]
          omega
    · have e : decide (((a : Nat) : Int) < (s.length : Int)) = false := by simpa using ha
      rw [e]
      have : s.drop a = [] := List.drop_eq_nil_iff.2 (by omega)
      rw [this] at h2
      exact .inr ⟨.inl _, rfl, h2.symm⟩
  · rintro (c | ⟨x, y⟩) hQ
    · refine ⟨_, rfl, ?_⟩
      simp only [] at hQ
      rw [hQ]
      rfl
    · refine ⟨_, rfl, ?_⟩
      simp only [] at hQ ⊢
      rw [hQ.2]
      simpa using hQ.1

theorem utfBad_eq {K : Nat} {s : List UInt8} (hK : s.length + 4 < K) (hs : s.length < 4611686018427387904) : ∃ t, utf_Bad.f K s = some t ∧ decide (t < 0) = utf8 s := by
  obtain ⟨t, h1, h2⟩ := walk_eq hK hs
  unfold utf_Bad.f
  rw [h1]
  exact ⟨_, rfl, h2⟩

/-! ### Labels -/
def okValue (s : List UInt8) : Bool := decide (s.length ≤ 60) && utf8 s

theorem labelValue_eq {K : Nat} (hK : 64 < K) (s : List UInt8) : label_Value.f K s = some (okValue s) := by
  unfold label_Value.f okValue
  by_cases h : s.length ≤ 60
  · obtain ⟨t, h1, h2⟩ := utfBad_eq (K := K) (s := s) (by omega) (by omega)
    have e : decide ((s.length : Int) ≤ 60) = true := by simpa using (by omega : (s.length : Int) ≤ 60)
    rw [e, h1]
    simp only [cond_true, Option.bind_some, h2, h, decide_true, Bool.true_and]
  · have e : decide ((s.length : Int) ≤ 60) = false := by simpa using (by omega : ¬ (s.length : Int) ≤ 60)
    rw [e]
    simp only [cond_false, h, decide_false, Bool.false_and]

def plainByte (c : UInt8) : Bool := !(decide (c.toNat < 32) || c.toNat == 127)
def okName (s : List UInt8) : Bool := s.all plainByte && !(s == []) && decide (s.length ≤ 60) && utf8 s

theorem labelName_eq {K : Nat} {s : List UInt8} (hK : s.length + 64 < K) (hs : s.length < 4611686018427387904) : label_Name.f K s = some (okName s) := by
  unfold label_Name.f
  rw [loop_all s plainByte false (by omega) (fun i x hx => ?_) (by simp)]
  · unfold okName
    cases s.all plainByte with
    | false => rfl
    | true =>
      simp only [if_true, Option.bind_some, Bool.true_and]
      cases s == [] with
      | true => rfl
      | false =>
        have := labelValue_eq (K := K) (by omega) s
        unfold label_Value.f okValue at this
        simp only [Bool.not_false, cond_true, Bool.true_and]
        exact this
  · have hi := lt_at hx
    have e : decide ((i : Int) < (s.length : Int)) = true := by simpa using hi
    simp only [e, idx_nat hi, Int.toNat_natCast, get_at hx, cond_true]
    rw [step_nat (by omega)]
    unfold plainByte
    by_cases h1 : x.toNat < 32
    · have e1 : decide ((x.toNat : Int) < 32) = true := by simpa using (by omega : (x.toNat : Int) < 32)
      rw [e1]
      simp [h1]
    · have e1 : decide ((x.toNat : Int) < 32) = false := by simpa using (by omega : ¬ (x.toNat : Int) < 32)
      rw [e1]
      by_cases h2 : x.toNat = 127
      · simp [h2]
      · have e2 : ((x.toNat : Int) == 127) = false := by simpa using (by omega : ¬ (x.toNat : Int) = 127)
        rw [e2]
        simp [h1, h2]

end Go.Proofs.YtoobdenlgapcmaaGreat
