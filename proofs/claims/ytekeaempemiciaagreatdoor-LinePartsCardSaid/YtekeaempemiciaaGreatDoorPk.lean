/- What the reference's functions of texts, labels and points answer: the same. -/
import Derived.Test.YtekeaempemiciaaGreatDoorPi
import Derived.Test.YtekeaempemiciaaGreatDoorPj
set_option linter.unusedSimpArgs false
set_option linter.unusedVariables false
namespace Go.Proofs.YtekeaempemiciaaGreatDoor
open Go Go.Rf Go.Proofs Go.RowKit
open Go.IntWalk (i64_in i32_in u8_in u64_in)

theorem span_eq (K : Nat) (c : UInt8) : ∃ lo hi, polyglotref1_span.f K (c.toNat : Int) = some ((uSize c : Int), lo, hi) ∧ (uSize c ≠ 0 → uSize c ≠ 1 → lo = (uLo c : Int) ∧ hi = (uHi c : Int)) := by
  have := byte_all (p := fun c => match polyglotref1_span.f K (c.toNat : Int) with | some (a, lo, hi) => a == (uSize c : Int) && (uSize c == 0 || uSize c == 1 || (lo == (uLo c : Int) && hi == (uHi c : Int))) | none => false) (by kernel_rfl) c
  cases h : polyglotref1_span.f K (c.toNat : Int) with
  | none => rw [h] at this; cases this
  | some x =>
    obtain ⟨a, lo, hi⟩ := x
    rw [h] at this
    simp only [Bool.and_eq_true, Bool.or_eq_true, beq_iff_eq] at this
    obtain ⟨rfl, h2⟩ := this
    refine ⟨lo, hi, rfl, fun h0 h1 => ?_⟩
    rcases h2 with (h2 | h2) | h2
    · exact absurd h2 h0
    · exact absurd h2 h1
    · exact h2

theorem rfront_eq {K : Nat} (hK : 4 < K) {s : List UInt8} {at_ : Nat} (h : at_ < s.length) (hs : s.length < 4611686018427387904) : ∃ t, polyglotref1_Front.f K s (at_ : Int) = some t ∧ t.1 = ((uFront (s.drop at_)).1 : Int) ∧ t.2 = (uFront (s.drop at_)).2 := by
  have hd : s.drop at_ = s[at_] :: s.drop (at_ + 1) := List.drop_eq_getElem_cons h
  have hg : s.getD at_ 0 = s[at_] := by rw [List.getD_eq_getElem?_getD, List.getElem?_eq_getElem h]; rfl
  obtain ⟨lo, hi, sp, sq⟩ := span_eq K s[at_]
  unfold polyglotref1_Front.f
  simp only [idx_nat h, cond_true, Int.toNat_natCast, hg, sp, Option.bind_some]
  rw [hd, uFront_cons]
  have h4 := uSize_le s[at_]
  generalize hn : uSize s[at_] = n at h4 sq ⊢
  generalize hF : (if n = 0 then ((0 : Nat), false) else uTail (n - 1) (uLo s[at_]) (uHi s[at_]) 1 (s.drop (at_ + 1))) = F
  by_cases h0 : n = 0
  · rw [if_pos h0] at hF
    subst hF
    have e : (((n : Nat) : Int) == 0) = true := by simpa using h0
    rw [e]
    exact ⟨_, rfl, rfl, rfl⟩
  · rw [if_neg h0] at hF
    have e : (((n : Nat) : Int) == 0) = false := by simpa using h0
    rw [e]
    simp only [cond_false]
    refine bind_loop2 (fun x => ∃ k : Nat, x.2.2 = (k : Int) ∧ 1 ≤ k ∧ k ≤ n ∧ (k = n → F = (n, true)) ∧ (k < n → ∃ lo hi : Nat, x.1 = (lo : Int) ∧ x.2.1 = (hi : Int) ∧ uTail (n - k) lo hi k (s.drop (at_ + k)) = F)) (fun x => n - x.2.2.toNat)
      (fun r => match r with | .inl y => y = (F.1 : Int) ∧ decide (F.1 = n) = F.2 | .inr y => y.1 = (F.1 : Int) ∧ y.2 = F.2) ?_ ⟨1, rfl, by omega, by omega, fun h1 => ?_, fun h1 => ?_⟩ (by simp only []; omega) ?_
    · rintro ⟨a, b, _⟩ ⟨k, rfl, h1, h2, h3, h5⟩
      simp only []
      by_cases hk : k < n
      · obtain ⟨lo', hi', ea, eb, h6⟩ := h5 hk
        have ea' : a = (lo' : Int) := ea
        have eb' : b = (hi' : Int) := eb
        subst ea'
        subst eb'
        have e4 : decide (((k : Nat) : Int) < ((n : Nat) : Int)) = true := by simpa using hk
        obtain ⟨m, hm⟩ : ∃ m, n - k = m + 1 := ⟨n - k - 1, by omega⟩
        rw [hm] at h6
        rw [i64_in ((at_ : Int) + (k : Int)) (by omega)]
        by_cases hl : at_ + k < s.length
        · have e5 : decide ((at_ : Int) + (k : Int) < (s.length : Int)) = true := by rw [decide_eq_true_eq]; omega
          have e6 : idx ((at_ : Int) + (k : Int)) s.length = true := by rw [show (at_ : Int) + (k : Int) = ((at_ + k : Nat) : Int) from by omega]; exact idx_nat hl
          have e7 : ((at_ : Int) + (k : Int)).toNat = at_ + k := by omega
          have hdk : s.drop (at_ + k) = s[at_ + k] :: s.drop (at_ + (k + 1)) := List.drop_eq_getElem_cons hl
          have hgk : s.getD (at_ + k) 0 = s[at_ + k] := by rw [List.getD_eq_getElem?_getD, List.getElem?_eq_getElem hl]; rfl
          rw [hdk] at h6
          simp only [uTail] at h6
          simp only [e4, e5, e6, e7, hgk, cond_true, Option.bind_some]
          by_cases hlo : (s[at_ + k]).toNat < lo'
          · have e8 : decide (((s[at_ + k]).toNat : Int) < (lo' : Int)) = true := by simpa using hlo
            rw [if_pos (by simp [hlo])] at h6
            subst h6
            rw [e8]
            exact ⟨.inr (.inr ((k : Int), false)), rfl, rfl, rfl⟩
          · have e8 : decide (((s[at_ + k]).toNat : Int) < (lo' : Int)) = false := by simpa using hlo
            rw [e8]
            simp only [cond_false]
            by_cases hhi : hi' < (s[at_ + k]).toNat
            · have e9 : decide (((s[at_ + k]).toNat : Int) > (hi' : Int)) = true := by simpa using hhi
              rw [if_pos (by simp [hhi])] at h6
              subst h6
              rw [e9]
              exact ⟨.inr (.inr ((k : Int), false)), rfl, rfl, rfl⟩
            · have e9 : decide (((s[at_ + k]).toNat : Int) > (hi' : Int)) = false := by simpa using hhi
              rw [if_neg (by simp [hlo, hhi])] at h6
              rw [e9]
              simp only [cond_false]
              refine ⟨_, rfl, ⟨k + 1, step_nat (by omega), by omega, by omega, fun hk' => ?_, fun hk' => ⟨128, 191, rfl, rfl, ?_⟩⟩, ?_⟩
              · have : m = 0 := by omega
                subst this
                simp only [uTail] at h6
                rw [← h6, hk']
              · rw [show n - (k + 1) = m from by omega]
                exact h6
              · show n - (IntKind.i64.wrap ((k : Int) + 1)).toNat < n - ((k : Int)).toNat
                rw [i64_in ((k : Int) + 1) (by omega)]
                omega
        · have e5 : decide ((at_ : Int) + (k : Int) < (s.length : Int)) = false := by rw [decide_eq_false_iff_not]; omega
          have hdk : s.drop (at_ + k) = [] := List.drop_eq_nil_iff.2 (by omega)
          rw [hdk] at h6
          simp only [uTail] at h6
          subst h6
          rw [e4, e5]
          refine ⟨.inr (.inl (k : Int)), rfl, rfl, ?_⟩
          show decide (k = n) = false
          rw [decide_eq_false_iff_not]
          omega
      · have e4 : decide (((k : Nat) : Int) < ((n : Nat) : Int)) = false := by simpa using hk
        have : k = n := by omega
        have hF' := h3 this
        rw [e4]
        refine ⟨.inr (.inl (k : Int)), rfl, ?_, ?_⟩
        · show (k : Int) = _
          rw [hF', this]
        · rw [hF']
          simp
    · rw [← h1] at hF
      simp only [Nat.sub_self, uTail] at hF
      rw [← h1]
      exact hF.symm
    · obtain ⟨q1, q2⟩ := sq h0 (by omega)
      exact ⟨_, _, q1, q2, hF⟩
    · rintro (r | ⟨y, z⟩) hQ
      · refine ⟨_, rfl, hQ.1, ?_⟩
        have h6 : r = (F.1 : Int) := hQ.1
        show (r == (n : Int)) = F.2
        rw [← hQ.2, h6, nat_beq, Bool.eq_iff_iff]
        simp
      · exact ⟨_, rfl, hQ.1, hQ.2⟩

theorem rbad_eq {K : Nat} {s : List UInt8} (hK : s.length + 4 < K) (hs : s.length < 4611686018427387904) : ∃ t, polyglotref1_Bad.f K s = some t ∧ (decide (t < 0) = utf8 s) := by
  unfold polyglotref1_Bad.f
  refine bind_loop2 (fun x => ∃ a : Nat, x = (a : Int) ∧ a ≤ s.length ∧ uOK (s.length + 1) (s.drop a) = utf8 s) (fun x => s.length - x.toNat)
    (fun r => match r with | .inl _ => utf8 s = true | .inr y => 0 ≤ y ∧ utf8 s = false) ?_ ⟨0, rfl, by omega, rfl⟩ (by show s.length - (0 : Int).toNat < K; omega) ?_
  · rintro _ ⟨a, rfl, h1, h2⟩
    simp only []
    by_cases ha : a < s.length
    · have e : decide (((a : Nat) : Int) < (s.length : Int)) = true := by simpa using ha
      rw [e]
      obtain ⟨⟨n, w⟩, f1, f2, f3⟩ := rfront_eq (K := K) (by omega) ha hs
      simp only [] at f2 f3
      subst f2
      subst f3
      rw [f1]
      have hd : s.drop a = s[a] :: s.drop (a + 1) := List.drop_eq_getElem_cons ha
      have hle := uFront_le (s.drop a)
      rw [List.length_drop] at hle
      have hu : uOK (s.length + 1) (s.drop a) = ((uFront (s.drop a)).2 && uOK s.length ((s.drop a).drop (uFront (s.drop a)).1)) := by
        generalize hx : s.drop a = x at hd ⊢
        subst hd
        rfl
      simp only [cond_true, Option.bind_some]
      cases hw : (uFront (s.drop a)).2 with
      | false =>
        rw [hw] at hu
        refine ⟨_, rfl, ?_, by rw [← h2, hu]; rfl⟩
        show 0 ≤ IntKind.i64.wrap ((a : Int) + ((uFront (s.drop a)).1 : Int))
        rw [i64_in _ (by omega)]
        omega
      | true =>
        rw [hw] at hu
        have h3 := hle.2.2 hw
        refine ⟨_, rfl, ⟨a + (uFront (s.drop a)).1, ?_, by omega, ?_⟩, ?_⟩
        · show IntKind.i64.wrap ((a : Int) + ((uFront (s.drop a)).1 : Int)) = _
          rw [i64_in ((a : Int) + ((uFront (s.drop a)).1 : Int)) (by omega)]
          omega
        · rw [← h2, hu, Bool.true_and, List.drop_drop]
          exact uOK_fuel _ _ _ (by rw [List.length_drop]; omega) (by rw [List.length_drop]; omega)
        · show s.length - (IntKind.i64.wrap ((a : Int) + ((uFront (s.drop a)).1 : Int))).toNat < s.length - ((a : Int)).toNat
          rw [i64_in ((a : Int) + ((uFront (s.drop a)).1 : Int)) (by omega)]
          omega
    · have e : decide (((a : Nat) : Int) < (s.length : Int)) = false := by simpa using ha
      rw [e]
      have : s.drop a = [] := List.drop_eq_nil_iff.2 (by omega)
      rw [this] at h2
      exact ⟨.inr (.inl _), rfl, h2.symm⟩
  · rintro (c | y) hQ
    · refine ⟨_, rfl, ?_⟩
      have hQ' : utf8 s = true := hQ
      rw [hQ']
      rfl
    · refine ⟨_, rfl, ?_⟩
      have hQ' : 0 ≤ y ∧ utf8 s = false := hQ
      rw [hQ'.2]
      simpa using hQ'.1

theorem rvalue_eq {K : Nat} (hK : 64 < K) (s : List UInt8) : polyglotref7_Value.f K s = some (okValue s) := by
  unfold polyglotref7_Value.f okValue
  by_cases h : s.length ≤ 60
  · obtain ⟨t, h1, h2⟩ := rbad_eq (K := K) (s := s) (by omega) (by omega)
    have e : decide ((s.length : Int) ≤ 60) = true := by simpa using (by omega : (s.length : Int) ≤ 60)
    rw [e, h1]
    simp only [cond_true, Option.bind_some, h2, h, decide_true, Bool.true_and]
  · have e : decide ((s.length : Int) ≤ 60) = false := by simpa using (by omega : ¬ (s.length : Int) ≤ 60)
    rw [e]
    simp only [cond_false, h, decide_false, Bool.false_and]

theorem rname_eq {K : Nat} {s : List UInt8} (hK : s.length + 64 < K) (hs : s.length < 4611686018427387904) : polyglotref7_Name.f K s = some (okName s) := by
  unfold polyglotref7_Name.f
  rw [loop_all s plainByte false (by omega) (fun i x hx => ?_) (by simp)]
  · unfold okName
    cases s.all plainByte with
    | false => rfl
    | true =>
      have hv := rvalue_eq (K := K) (by omega) s
      unfold polyglotref7_Value.f okValue at hv
      have e : decide ((s.length : Int) ≥ 1) = !(s == []) := by
        cases s with
        | nil => rfl
        | cons a l =>
          have : (a :: l == []) = false := rfl
          rw [this, Bool.not_false, decide_eq_true_eq]
          simp only [List.length_cons]
          omega
      simp only [if_true, Option.bind_some, Bool.true_and, e, hv]
      cases s == [] <;> rfl
  · have hi := lt_at hx
    have e : decide ((i : Int) < (s.length : Int)) = true := by simpa using hi
    simp only [e, idx_nat hi, Int.toNat_natCast, get_at hx, cond_true]
    rw [step_nat (by omega)]
    unfold plainByte
    by_cases h1 : x.toNat < 32
    · have e1 : decide ((x.toNat : Int) < 32) = true := by simpa using (by omega : (x.toNat : Int) < 32)
      rw [e1]
      simp [h1]
    · have e1 : decide ((x.toNat : Int) < 32) = false := by simpa using (by omega : ¬ (x.toNat : Int) < 32)
      rw [e1]
      by_cases h2 : x.toNat = 127
      · simp [h2]
      · have e2 : ((x.toNat : Int) == 127) = false := by simpa using (by omega : ¬ (x.toNat : Int) = 127)
        rw [e2]
        simp [h1, h2]

theorem rroles_eq (K : Nat) (kind : Int) : polyglotref7_Roles.f K kind = some (rolesOf kind) := by
  unfold polyglotref7_Roles.f rolesOf
  cases kind == 0 <;> cases kind == 1 <;> cases kind == 2 <;> cases kind == 3 <;> cases kind == 4 <;> rfl

theorem contains_any (l : List Int) (x : Int) : (!l.all fun y => !(y == x)) = l.contains x := by
  induction l with
  | nil => rfl
  | cons a l ih =>
    rw [List.all_cons, List.contains_cons, ← ih]
    by_cases h : a = x
    · subst h; simp
    · have h1 : (a == x) = false := by simpa using h
      have h2 : (x == a) = false := by simpa using (fun hh => h hh.symm : ¬ x = a)
      rw [h1, h2]
      simp

theorem hasRole_eq {K : Nat} (hK : 4 < K) (kind role : Int) : polyglotref7_HasRole.f K kind role = some ((rolesOf kind).contains role) := by
  have hl := roles_len kind
  unfold polyglotref7_HasRole.f
  rw [rroles_eq]
  simp only [Option.bind_some]
  rw [loop_all (rolesOf kind) (fun y => !(y == role)) true (by omega) (fun i x hx => ?_) (by simp)]
  · rw [← contains_any]
    cases (rolesOf kind).all fun y => !(y == role) <;> rfl
  · have hi := lt_at hx
    have e : decide ((i : Int) < ((rolesOf kind).length : Int)) = true := by simpa using hi
    simp only [e, idx_nat hi, Int.toNat_natCast, get_at hx, cond_true]
    rw [step_nat (by omega)]
    cases x == role <;> rfl

theorem rlabels_eq {K : Nat} {l : List Lab} (h : Short K l) : polyglotref7_Labels.f K l = some (okLabs l) := by
  obtain ⟨h1, h2, h3⟩ := h
  unfold polyglotref7_Labels.f okLabs
  have e0 : decide ((l.length : Int) > 8) = !decide (l.length ≤ 8) := by rw [← decide_not, decide_eq_decide]; omega
  rw [e0]
  cases decide (l.length ≤ 8) with
  | false => simp
  | true =>
    simp only [Bool.not_true, cond_false, Bool.and_true]
    rw [loop_ix l.length (okLab l) false (by omega) (fun i hi => ?_) (by simp)]
    · cases (List.range l.length).all (okLab l) <;> rfl
    · have e : decide ((i : Int) < (l.length : Int)) = true := by simpa using hi
      have hg : l.getD i nolab = l[i] := by rw [List.getD_eq_getElem?_getD, List.getElem?_eq_getElem hi]; rfl
      have hm := h3 l[i] (List.getElem_mem hi)
      have n1 : polyglotref7_Name.f K (l.getD i nolab).1 = some (okName (l.getD i nolab).1) := by rw [hg]; exact rname_eq hm.1 hm.2
      have n2 : polyglotref7_Value.f K (l.getD i nolab).2 = some (okValue (l.getD i nolab).2) := rvalue_eq (by omega) _
      unfold nolab at n1 n2
      simp only [e, idx_nat hi, Int.toNat_natCast, cond_true, n1, n2, Option.bind_some]
      rw [step_nat (by omega)]
      unfold okLab nolab
      cases okName (l.getD i ([], [])).1 with
      | false => rfl
      | true =>
        cases okValue (l.getD i ([], [])).2 with
        | false => rfl
        | true =>
          simp only [Bool.not_true, cond_false, Bool.true_and]
          cases i with
          | zero => rfl
          | succ k =>
            have e1 : decide (((k + 1 : Nat) : Int) > 0) = true := by rw [decide_eq_true_eq]; omega
            have e2 : ((k + 1 : Nat) : Int) - 1 = (k : Int) := by omega
            rw [e1, e2, i64_in (k : Int) (by omega), idx_nat (by omega), Int.toNat_natCast]
            simp only [cond_true, Option.bind_some, Nat.add_sub_cancel, show (k + 1 == 0) = false from rfl, Bool.false_or]
            cases Op.bytesLess (l.getD k ([], [])).1 (l.getD (k + 1) ([], [])).1 <;> rfl

theorem rget_eq {K : Nat} {l : List Lab} (name : List UInt8) (hK : l.length < K) (hl : l.length < 4611686018427387904) : polyglotref7_Get.f K l name = some (getL l name) := by
  unfold polyglotref7_Get.f
  rw [loop_row l (fun x => if x.1 == name then some (x.2, true) else none) hK (fun i x hx => ?_) (by simp)]
  · rw [find_map]
    unfold getL
    cases l.find? fun x => x.1 == name <;> rfl
  · have hi := lt_at hx
    have e : decide ((i : Int) < (l.length : Int)) = true := by simpa using hi
    simp only [e, idx_nat hi, Int.toNat_natCast, get_at hx, cond_true]
    rw [step_nat (by omega)]
    cases x.1 == name <;> rfl

end Go.Proofs.YtekeaempemiciaaGreatDoor
