/- What the functions of names and of labels' values answer, in plain Lean. -/
import Derived.Test.YtoobdenlgapcmaaGreatPa
set_option linter.unusedSimpArgs false
set_option linter.unusedVariables false
namespace Go.Proofs.YtoobdenlgapcmaaGreat
open Go Go.Rf Go.Proofs Go.RowKit
open Go.IntWalk (i64_in i32_in u8_in u64_in)

/-! ### Letters -/
def isLet (c : UInt8) (d : Bool) : Bool := (decide (97 ≤ c.toNat) && decide (c.toNat ≤ 122)) || (decide (65 ≤ c.toNat) && decide (c.toNat ≤ 90)) || (d && decide (48 ≤ c.toNat) && decide (c.toNat ≤ 57))

theorem letter_eq (n : Nat) (c : UInt8) (d : Bool) : charset_letter.f (n + 4) (c.toNat : Int) d = some (isLet c d) := by
  have := byte_all (p := fun c => [true, false].all fun d => charset_letter.f (n + 4) (c.toNat : Int) d == some (isLet c d)) (by kernel_rfl) c
  simp only [List.all_cons, List.all_nil, Bool.and_true, Bool.and_eq_true, beq_iff_eq] at this
  cases d
  · exact this.2
  · exact this.1

/-- A name's byte, by the format: 1 to 4; of a family (0) or a label (1). a: it isn't the first; b: a point may stand there. -/
def legalC (p w : Int) (c : UInt8) (a b : Bool) : Bool :=
  bif p == 1 then isLet c a || c.toNat == 95 || (c.toNat == 58 && w == 0)
  else bif p == 2 then decide (32 ≤ c.toNat) && decide (c.toNat ≤ 126) && !(c.toNat == 92) && (!(c.toNat == 35) || a || w == 1)
  else bif p == 3 then isLet c true || (c.toNat == 95 || c.toNat == 45 || c.toNat == 58) || (c.toNat == 46 && w == 0 && b)
  else bif p == 4 then isLet c true || (c.toNat == 95 || c.toNat == 45 || c.toNat == 46)
  else false

def dotAt (s : List UInt8) (i : Nat) : Bool := decide (0 < i) && decide (i + 1 < s.length) && !((s.getD (i - 1) 0).toNat == 46)
def legal (p w : Int) (s : List UInt8) (i : Nat) : Bool := legalC p w (s.getD i 0) (decide (0 < i)) (dotAt s i)

theorem nat_beq (a b : Nat) : (((a : Nat) : Int) == (b : Int)) = (a == b) := by
  rw [Bool.eq_iff_iff]
  simp [Int.ofNat_inj]
theorem nat_bne (a b : Nat) : (((a : Nat) : Int) != (b : Int)) = !(a == b) := by
  show (!(((a : Nat) : Int) == (b : Int))) = _
  rw [nat_beq]

theorem marks3 (c : UInt8) : decide (idxByte ([95, 45, 58] : List UInt8) (c.toNat : Int) ≥ 0) = (c.toNat == 95 || c.toNat == 45 || c.toNat == 58) := by
  have := byte_all (p := fun c => decide (idxByte ([95, 45, 58] : List UInt8) (c.toNat : Int) ≥ 0) == (c.toNat == 95 || c.toNat == 45 || c.toNat == 58)) (by kernel_rfl) c
  simpa using this
theorem marks4 (c : UInt8) : decide (idxByte ([95, 45, 46] : List UInt8) (c.toNat : Int) ≥ 0) = (c.toNat == 95 || c.toNat == 45 || c.toNat == 46) := by
  have := byte_all (p := fun c => decide (idxByte ([95, 45, 46] : List UInt8) (c.toNat : Int) ≥ 0) == (c.toNat == 95 || c.toNat == 45 || c.toNat == 46)) (by kernel_rfl) c
  simpa using this

theorem line_eq (K : Nat) (w : Int) {s : List UInt8} {i : Nat} (h : i < s.length) : charset_line.f K w s (i : Int) = some (legal 2 w s i) := by
  unfold charset_line.f legal
  rw [Int.toNat_natCast, idx_nat h, cond_true]
  generalize s.getD i 0 = c
  have h1 : decide ((c.toNat : Int) ≥ 32) = decide (32 ≤ c.toNat) := by rw [decide_eq_decide]; omega
  have h2 : decide ((c.toNat : Int) ≤ 126) = decide (c.toNat ≤ 126) := by rw [decide_eq_decide]; omega
  have h3 : ((c.toNat : Int) != 92) = !(c.toNat == 92) := nat_bne _ 92
  have h4 : ((c.toNat : Int) != 35) = !(c.toNat == 35) := nat_bne _ 35
  have h5 : decide ((i : Int) > 0) = decide (0 < i) := by rw [decide_eq_decide]; omega
  rw [h1, h2, h3, h4, h5]
  unfold legalC
  simp only [show ((2 : Int) == 1) = false from rfl, show ((2 : Int) == 2) = true from rfl, cond_true, cond_false]
  cases decide (32 ≤ c.toNat) <;> cases decide (c.toNat ≤ 126) <;> cases (c.toNat == 92) <;> cases (c.toNat == 35) <;> cases decide (0 < i) <;> rfl

theorem point_eq (K : Nat) {s : List UInt8} {i : Nat} (h : i < s.length) (hs : s.length < 4611686018427387904) : charset_point.f K s (i : Int) = some (dotAt s i) := by
  unfold charset_point.f dotAt
  have h5 : decide ((i : Int) > 0) = decide (0 < i) := by rw [decide_eq_decide]; omega
  rw [h5, i64_in ((s.length : Int) - 1) (by omega), i64_in ((i : Int) - 1) (by omega)]
  have h6 : decide ((i : Int) < (s.length : Int) - 1) = decide (i + 1 < s.length) := by rw [decide_eq_decide]; omega
  rw [h6]
  by_cases hi : 0 < i
  · have e : (i : Int) - 1 = ((i - 1 : Nat) : Int) := by omega
    rw [e, idx_nat (by omega), Int.toNat_natCast]
    simp only [hi, decide_true, cond_true, Bool.true_and]
    cases decide (i + 1 < s.length) with
    | false => rfl
    | true => exact congrArg some (nat_bne _ 46)
  · simp only [hi, decide_false, cond_false, Bool.false_and]

theorem legal_eq (n : Nat) {p w : Int} (hp : p = 1 ∨ p = 2 ∨ p = 3 ∨ p = 4) (hw : w = 0 ∨ w = 1) {s : List UInt8} {i : Nat} (h : i < s.length) (hs : s.length < 4611686018427387904) : charset_Legal.f (n + 4) p w s (i : Int) = some (legal p w s i) := by
  have e1 : decide ((i : Int) < 0) = false := by simp
  have e2 : decide ((i : Int) ≥ (s.length : Int)) = false := by simpa using h
  have e3 : (bif w != 0 then bif w != 1 then some (.inr false) else some (.inl ()) else some (.inl ()) : Option (Unit ⊕ Bool)) = some (.inl ()) := by rcases hw with rfl | rfl <;> rfl
  have h5 : decide ((i : Int) > 0) = decide (0 < i) := by rw [decide_eq_decide]; omega
  unfold charset_Legal.f
  simp only [e1, e2, cond_false, e3, Option.bind_some, idx_nat h, cond_true, Int.toNat_natCast, h5, letter_eq]
  unfold legal
  rcases hp with rfl | rfl | rfl | rfl
  · unfold legalC
    simp only [beq_self_eq_true, cond_true, Option.bind_some]
    generalize s.getD i 0 = c
    rw [show ((c.toNat : Int) == 95) = (c.toNat == 95) from nat_beq _ 95, show ((c.toNat : Int) == 58) = (c.toNat == 58) from nat_beq _ 58]
    cases isLet c (decide (0 < i)) <;> cases (c.toNat == 95) <;> cases (c.toNat == 58) <;> rfl
  · rw [line_eq _ w h]
    rfl
  · unfold legalC strings_IndexByte.f stringslite_IndexByte.f
    simp only [Option.bind_some, point_eq _ h hs, marks3]
    generalize s.getD i 0 = c
    rw [show ((c.toNat : Int) == 46) = (c.toNat == 46) from nat_beq _ 46]
    simp only [show ((3 : Int) == 1) = false from rfl, show ((3 : Int) == 2) = false from rfl, show ((3 : Int) == 3) = true from rfl, cond_true, cond_false]
    cases isLet c true <;> cases (c.toNat == 95 || c.toNat == 45 || c.toNat == 58) <;> cases (c.toNat == 46) <;> cases (w == 0) <;> rfl
  · unfold legalC strings_IndexByte.f stringslite_IndexByte.f
    simp only [Option.bind_some, marks4]
    generalize s.getD i 0 = c
    simp only [show ((4 : Int) == 1) = false from rfl, show ((4 : Int) == 2) = false from rfl, show ((4 : Int) == 3) = false from rfl, show ((4 : Int) == 4) = true from rfl, cond_true, cond_false]
    cases isLet c true <;> rfl

/-! ### Names -/
def okChars (p w : Int) (s : List UInt8) : Bool := (List.range s.length).all (legal p w s)

theorem findSome_find {R : Type} {l : List Nat} {q : Nat → Bool} {f : Nat → R} : l.findSome? (fun i => if q i then none else some (f i)) = (l.find? fun i => !q i).map f := by
  induction l with
  | nil => rfl
  | cons a l ih =>
    rw [List.findSome?_cons, List.find?_cons]
    cases q a with
    | true => simpa using ih
    | false => rfl

theorem bad_eq {K : Nat} {p w : Int} (hp : p = 1 ∨ p = 2 ∨ p = 3 ∨ p = 4) (hw : w = 0 ∨ w = 1) {s : List UInt8} (hK : s.length + 4 < K) (hs : s.length < 4611686018427387904) :
    ∃ t, charset_Bad.f K p w s = some t ∧ decide (t < 0) = okChars p w s := by
  obtain ⟨n, rfl⟩ : ∃ n, K = n + 4 := ⟨K - 4, by omega⟩
  unfold charset_Bad.f
  have h0 := fun g hg hn => loop_from (K := n + 4) (g := g) (n := s.length) (R := Int) (fun i => if legal p w s i then none else some ((i : Nat) : Int)) hg hn s.length 0 (by omega) (by omega)
  simp only [Int.natCast_zero] at h0
  rw [h0 _ (fun i hi => ?_) (by simp)]
  · rw [findSome_find]
    unfold okChars
    rw [← List.range_eq_range']
    cases hf : (List.range s.length).find? fun i => !legal p w s i with
    | none =>
      rw [List.find?_eq_none] at hf
      refine ⟨_, rfl, ?_⟩
      rw [List.all_eq_true.2 fun i hi => by simpa using hf i hi]
      rfl
    | some i =>
      have h1 := List.find?_some hf
      have h2 := List.mem_of_find?_eq_some hf
      refine ⟨_, rfl, ?_⟩
      have : (List.range s.length).all (legal p w s) = false := by
        rw [List.all_eq_false]
        exact ⟨i, h2, by simpa using h1⟩
      rw [this]
      simp
  · have e : decide ((i : Int) < (s.length : Int)) = true := by simpa using hi
    simp only [e, cond_true, legal_eq n hp hw hi hs, Option.bind_some]
    rw [step_nat (by omega)]
    cases legal p w s i <;> rfl

def okIs (p w : Int) (s : List UInt8) : Bool := !(s == []) && decide (s.length ≤ 60) && okChars p w s

theorem is_eq {K : Nat} {p w : Int} (hp : p = 1 ∨ p = 2 ∨ p = 3 ∨ p = 4) (hw : w = 0 ∨ w = 1) (s : List UInt8) (hK : 64 < K) : charset_Is.f K p w s = some (okIs p w s) := by
  unfold charset_Is.f okIs
  cases s == [] with
  | true => rfl
  | false =>
    by_cases h : s.length ≤ 60
    · obtain ⟨t, h1, h2⟩ := bad_eq (K := K) hp hw (s := s) (by omega) (by omega)
      have e : decide ((s.length : Int) ≤ 60) = true := by simpa using (by omega : (s.length : Int) ≤ 60)
      simp only [e, h1, h, Bool.not_false, cond_true, Option.bind_some, h2, decide_true, Bool.true_and]
    · have e : decide ((s.length : Int) ≤ 60) = false := by simpa using (by omega : ¬ (s.length : Int) ≤ 60)
      simp only [e, h, Bool.not_false, cond_true, cond_false, decide_false, Bool.true_and, Bool.false_and]

/-! ### Labels' values -/
theorem decode_ascii {l : List UInt8} {i : Nat} {c : UInt8} (h : l[i]? = some c) (hc : c.toNat < 128) : Utf8.decode ⟨l.toArray⟩ i = (c.toNat, 1) := by
  have e : (⟨l.toArray⟩ : ByteArray).get! (i + 0) = c := by
    show l.toArray[i + 0]! = c
    have hi := lt_at h
    rw [Nat.add_zero, List.getElem!_toArray]
    rw [List.getElem!_eq_getElem?_getD, h]
    rfl
  unfold Utf8.decode
  simp only [e]
  rw [if_pos (by omega)]

theorem hasAny_eq {K : Nat} {v but : List UInt8} (hv : (v.all fun c => decide (c.toNat < 128)) = true) (hb : (but.all fun c => decide (c.toNat < 128)) = true) (hK : v.length + but.length < K) : class_hasAny.f K v but = some (v.any fun c => but.contains c) := by
  have hr : ∃ t, class_hasAny.f K v but = some t ∧ t = v.any fun c => but.contains c := by
    unfold class_hasAny.f
    refine bind_loop2 (fun x => x.1 = v ∧ ∃ a : Nat, x.2 = (a : Int) ∧ a ≤ v.length ∧ ((v.drop a).any fun c => but.contains c) = v.any fun c => but.contains c) (fun x => v.length - x.2.toNat)
      (fun r => match r with | .inl _ => (v.any fun c => but.contains c) = false | .inr y => y.1 = v.any fun c => but.contains c) ?_ ⟨rfl, 0, rfl, by omega, rfl⟩ (by simp only []; omega) ?_
    · rintro ⟨v', b⟩ ⟨e1, a, e2, h1, h2⟩
      have e1' : v = v' := e1.symm
      subst e1'
      have e2' : b = (a : Int) := e2
      subst e2'
      clear e1 e2
      simp only []
      by_cases ha : a < v.length
      · have e : decide (((a : Nat) : Int) < (v.length : Int)) = true := by simpa using ha
        have hc : v[a]? = some v[a] := List.getElem?_eq_getElem ha
        have hca := List.all_eq_true.1 hv v[a] (List.getElem_mem ha)
        rw [decide_eq_true_eq] at hca
        have hd : v.drop a = v[a] :: v.drop (a + 1) := List.drop_eq_getElem_cons ha
        rw [hd, List.any_cons] at h2
        rw [e]
        simp only [cond_true, Int.toNat_natCast, decode_ascii hc hca]
        generalize hx : v[a] = x at *
        refine bind_loop2 (fun y => y.1 = but ∧ ∃ d : Nat, y.2 = (d : Int) ∧ d ≤ but.length ∧ (but.drop d).contains x = but.contains x) (fun y => but.length - y.2.toNat)
          (fun r => match r with | .inl _ => but.contains x = false | .inr y => y.1 = true ∧ but.contains x = true) ?_ ⟨rfl, 0, rfl, by omega, rfl⟩ (by simp only []; omega) ?_
        · rintro ⟨b', q⟩ ⟨e1, d, e2, h3, h4⟩
          have e1' : but = b' := e1.symm
          subst e1'
          have e2' : q = (d : Int) := e2
          subst e2'
          clear e1 e2
          simp only []
          by_cases hd' : d < but.length
          · have e' : decide (((d : Nat) : Int) < (but.length : Int)) = true := by simpa using hd'
            have hc' : but[d]? = some but[d] := List.getElem?_eq_getElem hd'
            have hca' := List.all_eq_true.1 hb but[d] (List.getElem_mem hd')
            rw [decide_eq_true_eq] at hca'
            have hdd : but.drop d = but[d] :: but.drop (d + 1) := List.drop_eq_getElem_cons hd'
            rw [hdd, List.contains_cons] at h4
            rw [e']
            simp only [cond_true, Int.toNat_natCast, decode_ascii hc' hca', nat_beq]
            by_cases hxy : x = but[d]
            · have : (x.toNat == (but[d]).toNat) = true := by rw [hxy]; exact beq_self_eq_true _
              rw [this]
              refine ⟨_, rfl, rfl, ?_⟩
              rw [← h4, hxy]
              simp
            · have : (x.toNat == (but[d]).toNat) = false := by
                rw [beq_eq_false_iff_ne]
                exact fun hh => hxy (UInt8.toNat_inj.1 hh)
              rw [this]
              refine ⟨_, rfl, ⟨rfl, d + 1, rfl, by omega, ?_⟩, ?_⟩
              · rw [← h4]
                have : (x == but[d]) = false := by simpa using hxy
                rw [this, Bool.false_or]
              · show but.length - ((d : Int) + 1).toNat < but.length - ((d : Int)).toNat
                omega
          · have e' : decide (((d : Nat) : Int) < (but.length : Int)) = false := by simpa using hd'
            have hdd : but.drop d = [] := List.drop_eq_nil_iff.2 (by omega)
            rw [hdd] at h4
            rw [e']
            exact ⟨.inr (.inl _), rfl, h4.symm⟩
        · rintro (⟨b1, b2⟩ | ⟨y, b1, b2⟩) hQ
          · refine ⟨_, rfl, ⟨rfl, a + 1, rfl, by omega, ?_⟩, ?_⟩
            · rw [← h2]
              have hQ' : but.contains x = false := hQ
              rw [hQ', Bool.false_or]
            · show v.length - ((a : Int) + 1).toNat < v.length - ((a : Int)).toNat
              omega
          · refine ⟨_, rfl, ?_⟩
            show y = _
            rw [hQ.2, Bool.true_or] at h2
            rw [← h2]
            exact hQ.1
      · have e : decide (((a : Nat) : Int) < (v.length : Int)) = false := by simpa using ha
        have hd : v.drop a = [] := List.drop_eq_nil_iff.2 (by omega)
        rw [hd] at h2
        rw [e]
        exact ⟨.inr (.inl _), rfl, h2.symm⟩
    · rintro (⟨x, y⟩ | ⟨x, y, z⟩) hQ
      · exact ⟨_, rfl, hQ.symm⟩
      · exact ⟨_, rfl, hQ⟩
  obtain ⟨t, h1, h2⟩ := hr
  rw [h1, h2]

end Go.Proofs.YtoobdenlgapcmaaGreat
