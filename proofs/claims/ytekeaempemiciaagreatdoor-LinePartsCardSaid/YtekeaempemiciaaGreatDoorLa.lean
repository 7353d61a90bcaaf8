/- Loops over lists; texts with marked signs. -/
import Derived.Test.YtekeaempemiciaaGreatDoorPr
set_option linter.unusedSimpArgs false
set_option linter.unusedVariables false
namespace Go.Proofs.YtekeaempemiciaaGreatDoor
open Go Go.Rf Go.Proofs Go.RowKit
open Go.IntWalk (i64_in i32_in u8_in u64_in)

/-! ### Loops over lists -/
def foldE {S R α : Type} (step : S → α → S ⊕ R) (fin : S → R) : List α → S → R
  | [], s => fin s
  | x :: l, s => match step s x with
    | .inl s' => foldE step fin l s'
    | .inr r => r

theorem loop_list {σ S R α : Type} {K : Nat} {g : σ → Option (σ ⊕ R)} (enc : S → Int → σ) (l : List α) (I : Nat → S → Prop) (step : S → α → S ⊕ R) (fin : S → R)
    (hg : ∀ (i : Nat) x s, l[i]? = some x → I i s → g (enc s (i : Int)) = some (match step s x with | .inl s' => .inl (enc s' ((i + 1 : Nat) : Int)) | .inr r => .inr r) ∧ ∀ s', step s x = .inl s' → I (i + 1) s')
    (hn : ∀ s, I l.length s → g (enc s (l.length : Int)) = some (.inr (fin s))) (hK : l.length < K) {s0 : S} (h0 : I 0 s0) : loopN K g (enc s0 0) = some (foldE step fin l s0) := by
  have key : ∀ (m i K : Nat) (s : S), i + m = l.length → m < K → I i s → loopN K g (enc s (i : Int)) = some (foldE step fin (l.drop i) s) := by
    intro m
    induction m with
    | zero =>
      intro i K s e hk hI
      obtain ⟨K, rfl⟩ : ∃ k, K = k + 1 := ⟨K - 1, by omega⟩
      have : i = l.length := by omega
      subst this
      simp only [loopN, hn s hI, List.drop_length, foldE]
    | succ m ih =>
      intro i K s e hk hI
      obtain ⟨K, rfl⟩ : ∃ k, K = k + 1 := ⟨K - 1, by omega⟩
      have hi : i < l.length := by omega
      obtain ⟨h1, h2⟩ := hg i l[i] s (List.getElem?_eq_getElem hi) hI
      rw [List.drop_eq_getElem_cons hi]
      simp only [loopN, h1, foldE]
      cases hs : step s l[i] with
      | inl s' => exact ih (i + 1) K s' (by omega) (by omega) (h2 s' hs)
      | inr r => rfl
  have := key l.length 0 K s0 (by omega) hK h0
  simpa using this

/-- A loop that comes to one outcome. -/
theorem loopN_eq {S R : Type} {g : S → Option (S ⊕ R)} {r : R} (I : S → Prop) (μ : S → Nat) (h : ∀ s, I s → (∃ s', g s = some (.inl s') ∧ I s' ∧ μ s' < μ s) ∨ g s = some (.inr r)) {K : Nat} {s : S} (hs : I s) (hK : μ s < K) : loopN K g s = some r := by
  obtain ⟨r', h1, h2⟩ := loopN_rule I μ (fun x => x = r) (fun s hs => by
    rcases h s hs with h | h
    · exact .inl h
    · exact .inr ⟨r, h, rfl⟩) K s hs hK
  rw [h1, h2]

/-- A loop that puts something behind for each element. -/
theorem foldE_flat {R α β : Type} (f : α → List β) (fin : List β → R) : ∀ (l : List α) (s : List β), foldE (fun s x => (.inl (s ++ f x) : List β ⊕ R)) fin l s = fin (s ++ l.flatMap f)
  | [], s => by simp [foldE]
  | x :: l, s => by
    simp only [foldE, List.flatMap_cons]
    rw [foldE_flat f fin l, List.append_assoc]

theorem loop_flat {σ R α β : Type} {K : Nat} {g : σ → Option (σ ⊕ R)} (enc : List β → Int → σ) (l : List α) (f : α → List β) (fin : List β → R) (s0 : List β)
    (hg : ∀ (i : Nat) x, l[i]? = some x → g (enc (s0 ++ (l.take i).flatMap f) (i : Int)) = some (.inl (enc ((s0 ++ (l.take i).flatMap f) ++ f x) ((i + 1 : Nat) : Int))))
    (hn : ∀ s, s = s0 ++ l.flatMap f → g (enc s (l.length : Int)) = some (.inr (fin s))) (hK : l.length < K) : loopN K g (enc s0 0) = some (fin (s0 ++ l.flatMap f)) := by
  rw [loop_list enc l (fun i s => s = s0 ++ (l.take i).flatMap f) (fun s x => .inl (s ++ f x)) fin (fun i x s hx hs => ?_) (fun s hs => hn s (by rw [hs, List.take_length])) hK (by simp), foldE_flat]
  subst hs
  refine ⟨hg i x hx, fun s' hs' => ?_⟩
  injection hs' with hs'
  rw [← hs', List.append_assoc, List.take_add_one, hx]
  simp

theorem lim {n : Nat} (h : n ≤ 140737488355328) : decide (n ≤ LIM) = true := decide_eq_true h

/-! ### Bytes -/
def ints (s : List UInt8) : List Int := s.map fun b => (b.toNat : Int)
theorem ints_len (s : List UInt8) : (ints s).length = s.length := List.length_map ..
theorem ints_app (a b : List UInt8) : ints (a ++ b) = ints a ++ ints b := List.map_append ..
theorem bytes_ints (s : List UInt8) : bytesOf (ints s) = s := by
  unfold bytesOf ints
  rw [List.map_map]
  conv => rhs; rw [← List.map_id s]
  refine List.map_congr_left fun b _ => ?_
  simp

/-! ### Marked signs -/
def q1 (signs : List UInt8) (c : UInt8) : List UInt8 := if signs.contains c then [92, c] else [c]
def quote (signs v : List UInt8) : List UInt8 := v.flatMap (q1 signs)

theorem q1_len (signs : List UInt8) (c : UInt8) : (q1 signs c).length ≤ 2 := by unfold q1; split <;> simp
theorem flat_len {α β : Type} (f : α → List β) (n : Nat) (h : ∀ x, (f x).length ≤ n) : ∀ l : List α, (l.flatMap f).length ≤ l.length * n
  | [] => by simp
  | x :: l => by
    have := flat_len f n h l
    have := h x
    simp only [List.flatMap_cons, List.length_append, List.length_cons, Nat.add_mul, Nat.one_mul]
    omega
theorem quote_len (signs v : List UInt8) : (quote signs v).length ≤ v.length * 2 := flat_len _ 2 (q1_len signs) v

theorem take_flat_len {α β : Type} (f : α → List β) (n : Nat) (h : ∀ x, (f x).length ≤ n) (l : List α) (i : Nat) : ((l.take i).flatMap f).length ≤ l.length * n := by
  have h1 := flat_len f n h (l.take i)
  have h2 : (l.take i).length ≤ l.length := by rw [List.length_take]; omega
  have := Nat.mul_le_mul_right n h2
  omega

theorem indexByte_eq (K : Nat) (s : List UInt8) (c : Int) : strings_IndexByte.f K s c = some (idxByte s c) := rfl

theorem marked_eq {K : Nat} {v signs : List UInt8} (hK : v.length < K) (hv : v.length < 1000000) : lineword_marked.f K v signs = some (quote signs v) := by
  unfold lineword_marked.f
  rw [loop_flat (fun s t => (t, s)) v (fun c => ints (q1 signs c)) (fun s => s) ([] : List Int) (fun i x hx => ?_) (fun s _ => by simp) hK]
  · have : (v.flatMap fun c => ints (q1 signs c)) = ints (quote signs v) := by
      unfold quote ints
      rw [List.map_flatMap]
    simp only [Option.bind_some, List.nil_append, this, bytes_ints]
  · have hi := lt_at hx
    have hb := take_flat_len (fun c => ints (q1 signs c)) 2 (fun c => by rw [ints_len]; exact q1_len signs c) v i
    have e : decide ((i : Int) < (v.length : Int)) = true := by simpa using hi
    simp only [List.nil_append]
    generalize hs : (v.take i).flatMap (fun c => ints (q1 signs c)) = s at hb ⊢
    have l1 : decide ((s.length + 1) * 1 ≤ LIM) = true := lim (by omega)
    have l2 : decide (((s ++ ([92] : List Int)).length + ([((x.toNat : Nat) : Int)] : List Int).length) * 1 ≤ LIM) = true := lim (by simp only [List.length_append, List.length_cons, List.length_nil]; omega)
    have l3 : decide ((s.length + ([((x.toNat : Nat) : Int)] : List Int).length) * 1 ≤ LIM) = true := lim (by simp only [List.length_cons, List.length_nil]; omega)
    simp only [e, idx_nat hi, Int.toNat_natCast, get_at hx, cond_true, indexByte_eq, Option.bind_some, idx_any, l1, l2, l3, step_nat (show i < 9000000000000000000 by omega)]
    unfold q1
    cases signs.contains x <;> simp [ints]

theorem measure_eq {K : Nat} {v : List UInt8} (hK : v.length < K) (hv : v.length < 1000000) : lineword_Measure.f K v = some (quote [44, 32] v) := by
  unfold lineword_Measure.f
  rw [marked_eq hK hv]; rfl
theorem key_eq {K : Nat} {v : List UInt8} (hK : v.length < K) (hv : v.length < 1000000) : lineword_Key.f K v = some (quote [44, 32, 61] v) := by
  unfold lineword_Key.f
  rw [marked_eq hK hv]; rfl

theorem has_eq {K : Nat} {s : List UInt8} (c : UInt8) (hK : s.length < K) (hs : s.length < 1000000) : polyglotref20_has.f K s (c.toNat : Int) = some (s.contains c) := by
  unfold polyglotref20_has.f
  rw [loop_row s (fun x => if x == c then some true else none) hK (fun i x hx => ?_) (by simp)]
  · have : s.findSome? (fun x => if x == c then some true else none) = if s.contains c then some true else none := by
      clear hK hs
      induction s with
      | nil => rfl
      | cons a l ih =>
        rw [List.findSome?_cons, List.contains_cons]
        by_cases h : a = c
        · subst h; simp
        · have h1 : (a == c) = false := by simpa using h
          have h2 : (c == a) = false := by simpa using fun e => h e.symm
          rw [h1, h2, ih]
          rfl
    rw [this]
    cases s.contains c <;> rfl
  · have hi := lt_at hx
    have e : decide ((i : Int) < (s.length : Int)) = true := by simpa using hi
    have e2 : ((x.toNat : Int) == (c.toNat : Int)) = (x == c) := by
      rw [nat_beq]
      by_cases h : x = c
      · subst h; simp
      · have : x.toNat ≠ c.toNat := fun e => h (UInt8.toNat_inj.1 e)
        rw [beq_false_of_ne this, beq_false_of_ne h]
    simp only [e, idx_nat hi, Int.toNat_natCast, get_at hx, cond_true, e2, step_nat (show i < 9000000000000000000 by omega)]
    cases x == c <;> rfl

theorem quoteR_eq {K : Nat} {v marks : List UInt8} (hK : v.length < K) (hv : v.length < 1000000) (hm : marks.length < K) (hm' : marks.length < 1000000) : polyglotref20_Quote.f K v marks = some (quote marks v) := by
  unfold polyglotref20_Quote.f
  rw [loop_flat (fun s t => (s, t)) v (q1 marks) (fun s => s) ([] : List UInt8) (fun i x hx => ?_) (fun s _ => by simp) hK]
  · rfl
  · have hi := lt_at hx
    have hb := take_flat_len (q1 marks) 2 (q1_len marks) v i
    have e : decide ((i : Int) < (v.length : Int)) = true := by simpa using hi
    simp only [List.nil_append]
    generalize hs : (v.take i).flatMap (q1 marks) = s at hb ⊢
    have hc : (v.take (i + 1)).drop i = [x] := by
      rw [List.take_add_one, hx, List.drop_append]
      simp [show i ≤ v.length by omega]
    have b1 : decide ((0 : Int) ≤ (i : Int)) = true := by simp
    have b2 : decide ((i : Int) ≤ ((i + 1 : Nat) : Int)) = true := by simp only [decide_eq_true_eq]; omega
    have b3 : decide (((i + 1 : Nat) : Int) ≤ (v.length : Int)) = true := by simp only [decide_eq_true_eq]; omega
    have l1 : decide (s.length + ([92] : List UInt8).length ≤ LIM) = true := lim (by simp only [List.length_cons, List.length_nil]; omega)
    have l2 : decide ((s ++ ([92] : List UInt8)).length + ([x] : List UInt8).length ≤ LIM) = true := lim (by simp only [List.length_append, List.length_cons, List.length_nil]; omega)
    have l3 : decide (s.length + ([x] : List UInt8).length ≤ LIM) = true := lim (by simp only [List.length_cons, List.length_nil]; omega)
    simp only [e, idx_nat hi, Int.toNat_natCast, get_at hx, cond_true, has_eq x hm hm', Option.bind_some, step_nat (show i < 9000000000000000000 by omega), b1, b2, b3, Bool.and_self, hc, l1, l2, l3]
    unfold q1
    cases marks.contains x <;> simp

end Go.Proofs.YtekeaempemiciaaGreatDoor
