/- What the reference's functions of families and batches answer: the same. -/
import Derived.Test.YtekeaempemiciaaGreatDoorPl
set_option linter.unusedSimpArgs false
set_option linter.unusedVariables false
namespace Go.Proofs.YtekeaempemiciaaGreatDoor
open Go Go.Rf Go.Proofs Go.RowKit
open Go.IntWalk (i64_in i32_in u8_in u64_in)

theorem rnumber_eq (K : Nat) (x y : Int) : polyglotref7_number.f K x y = some (cmpI x y) := by
  unfold polyglotref7_number.f cmpI
  by_cases h1 : x < y
  · simp [h1]
  · by_cases h2 : x > y
    · simp [h1, h2]
    · simp [h1, h2]

theorem rtext_eq (K : Nat) (a b : List UInt8) : polyglotref7_text.f K a b = some (cmpL a b) := by
  unfold polyglotref7_text.f
  rw [less_eq]
  rcases cmpL_cases a b with h | h | h
  · have : a = b := (cmpL_eq a b).1 h
    subst this
    simp [h]
  · simp [h]
  · have : a ≠ b := fun hh => by rw [(cmpL_eq a b).2 hh] at h; cases h
    have e : (a == b) = false := by simpa using this
    simp [h, e]

theorem rflag_eq (K : Nat) (b : Bool) : polyglotref7_flag.f K b = some (flagI b) := by cases b <;> rfl

theorem rlabs_eq {K : Nat} {a b : List Lab} (hK : a.length + 4 < K) (hs : a.length < 4611686018427387904) (hs' : b.length < 4611686018427387904) : polyglotref7_CompareLabels.f K a b = some (cmpLabs a b) := by
  have hr : ∃ t, polyglotref7_CompareLabels.f K a b = some t ∧ t = cmpLabs a b := by
    unfold polyglotref7_CompareLabels.f
    refine bind_loop2 (fun s => ∃ i : Nat, s = (i : Int) ∧ i ≤ a.length ∧ i ≤ b.length ∧ cmpLabs (a.drop i) (b.drop i) = cmpLabs a b) (fun s => a.length - s.toNat)
      (fun r => match r with | .inl _ => cmpI (a.length : Int) (b.length : Int) = cmpLabs a b | .inr v => v = cmpLabs a b) ?_ ⟨0, rfl, by omega, by omega, rfl⟩ (by show a.length - (0 : Int).toNat < K; omega) ?_
    · rintro _ ⟨i, rfl, h1, h2, h3⟩
      simp only []
      by_cases ha : i < a.length
      · have e : decide ((i : Int) < (a.length : Int)) = true := by simpa using ha
        have hd : a.drop i = a[i] :: a.drop (i + 1) := List.drop_eq_getElem_cons ha
        rw [e]
        by_cases hb : i < b.length
        · have e2 : decide ((i : Int) < (b.length : Int)) = true := by simpa using hb
          have hd' : b.drop i = b[i] :: b.drop (i + 1) := List.drop_eq_getElem_cons hb
          have ga : a.getD i nolab = a[i] := by rw [List.getD_eq_getElem?_getD, List.getElem?_eq_getElem ha]; rfl
          have gb : b.getD i nolab = b[i] := by rw [List.getD_eq_getElem?_getD, List.getElem?_eq_getElem hb]; rfl
          unfold nolab at ga gb
          rw [hd, hd', cmpLabs] at h3
          simp only [e2, idx_nat ha, idx_nat hb, cond_true, Int.toNat_natCast, ga, gb, rtext_eq, Option.bind_some]
          unfold cmpLab at h3
          by_cases h0 : cmpL a[i].1 b[i].1 = 0
          · rw [h0]
            rw [h0] at h3
            by_cases h4 : cmpL a[i].2 b[i].2 = 0
            · rw [h4]
              refine ⟨_, rfl, ⟨i + 1, step_nat (by omega), by omega, by omega, ?_⟩, ?_⟩
              · rw [← h3, h4]
                rfl
              · show a.length - (IntKind.i64.wrap ((i : Int) + 1)).toNat < a.length - ((i : Int)).toNat
                rw [step_nat (by omega)]
                omega
            · have e3 : (cmpL a[i].2 b[i].2 != 0) = true := by simpa using h4
              rw [e3]
              refine ⟨_, rfl, ?_⟩
              show cmpL a[i].2 b[i].2 = _
              rw [← h3]
              unfold orI
              rw [if_pos rfl, if_neg h4]
          · have e3 : (cmpL a[i].1 b[i].1 != 0) = true := by simpa using h0
            rw [e3]
            refine ⟨_, rfl, ?_⟩
            show cmpL a[i].1 b[i].1 = _
            rw [← h3]
            unfold orI
            rw [if_neg h0, if_neg h0]
        · have e2 : decide ((i : Int) < (b.length : Int)) = false := by simpa using hb
          have hd' : b.drop i = [] := List.drop_eq_nil_iff.2 (by omega)
          rw [hd, hd', cmpLabs] at h3
          rw [e2]
          refine ⟨_, rfl, ?_⟩
          show cmpI (a.length : Int) (b.length : Int) = cmpLabs a b
          rw [← h3]
          unfold cmpI
          rw [if_neg (by omega), if_pos (by omega)]
      · have e : decide ((i : Int) < (a.length : Int)) = false := by simpa using ha
        have hd : a.drop i = [] := List.drop_eq_nil_iff.2 (by omega)
        rw [e]
        refine ⟨_, rfl, ?_⟩
        show cmpI (a.length : Int) (b.length : Int) = cmpLabs a b
        rw [← h3, hd]
        unfold cmpI
        by_cases hb : i < b.length
        · have hd' : b.drop i = b[i] :: b.drop (i + 1) := List.drop_eq_getElem_cons hb
          rw [hd', if_pos (by omega)]
          rfl
        · have hd' : b.drop i = [] := List.drop_eq_nil_iff.2 (by omega)
          rw [hd', if_neg (by omega), if_neg (by omega)]
          rfl
    · rintro (u | v) hQ
      · have hQ' : cmpI (a.length : Int) (b.length : Int) = cmpLabs a b := hQ
        simp only [rnumber_eq]
        exact ⟨_, rfl, hQ'⟩
      · exact ⟨_, rfl, hQ⟩
  obtain ⟨t, h1, h2⟩ := hr
  rw [h1, h2]

theorem rcmpP_eq {K : Nat} {p q : Pt} (hK : p.1.length + 40 < K) (hs : p.1.length < 4611686018427387904) (hs' : q.1.length < 4611686018427387904) (hp : PtIn p) (hq : PtIn q) : polyglotref7_ComparePoints.f K p q = some (cmpP p q) := by
  obtain ⟨n, rfl⟩ : ∃ n, K = n + 5 := ⟨K - 5, by omega⟩
  unfold polyglotref7_ComparePoints.f cmpP
  simp only [rlabs_eq (K := n + 5) (a := p.1) (b := q.1) (by omega) hs hs', rflag_eq, rCompare_eq (K := n + 5) (show 40 < n + 5 by omega) (a := (p.2.2.2.1, p.2.2.2.2.1)) (b := (q.2.2.2.1, q.2.2.2.2.1)) hp hq, rnumber_eq, Option.bind_some]
  generalize cmpLabs p.1 q.1 = c1
  by_cases h1 : c1 = 0
  · subst h1
    have g0 : ∀ x y z u : Int × Int, ([x, y, z, u] : List (Int × Int)).getD (0 : Int).toNat (0, 0) = x := fun _ _ _ _ => rfl
    have g1 : ∀ x y z u : Int × Int, ([x, y, z, u] : List (Int × Int)).getD (1 : Int).toNat (0, 0) = y := fun _ _ _ _ => rfl
    have g2 : ∀ x y z u : Int × Int, ([x, y, z, u] : List (Int × Int)).getD (2 : Int).toNat (0, 0) = z := fun _ _ _ _ => rfl
    have g3 : ∀ x y z u : Int × Int, ([x, y, z, u] : List (Int × Int)).getD (3 : Int).toNat (0, 0) = u := fun _ _ _ _ => rfl
    have s0 : IntKind.i64.wrap ((0 : Int) + 1) = 1 := by kernel_rfl
    have s1 : IntKind.i64.wrap ((1 : Int) + 1) = 2 := by kernel_rfl
    have s2 : IntKind.i64.wrap ((2 : Int) + 1) = 3 := by kernel_rfl
    have s3 : IntKind.i64.wrap ((3 : Int) + 1) = 4 := by kernel_rfl
    have t0 : decide ((0 : Int).toNat < 4) = true := rfl
    have t1 : decide ((1 : Int).toNat < 4) = true := rfl
    have t2 : decide ((2 : Int).toNat < 4) = true := rfl
    have t3 : decide ((3 : Int).toNat < 4) = true := rfl
    have z0 : ∀ d, orI 0 d = d := fun _ => rfl
    have bz : ((0 : Int) != 0) = false := rfl
    have bn : ∀ c : Int, c ≠ 0 → (c != 0) = true := fun c h => by simpa using h
    have on : ∀ c d : Int, c ≠ 0 → orI c d = c := fun c d h => by unfold orI; rw [if_neg h]
    simp only [loopN, bz, cond_false, z0, show decide ((0 : Int) < 4) = true from rfl, show decide ((1 : Int) < 4) = true from rfl, show decide ((2 : Int) < 4) = true from rfl, show decide ((3 : Int) < 4) = true from rfl, show decide ((4 : Int) < 4) = false from rfl, show idx 0 4 = true from rfl, show idx 1 4 = true from rfl, show idx 2 4 = true from rfl, show idx 3 4 = true from rfl, g0, g1, g2, g3, s0, s1, s2, s3, t0, t1, t2, t3, cond_true, Option.bind_some]
    by_cases h2 : cmpI (flagI p.2.2.2.2.2.2.2.1) (flagI q.2.2.2.2.2.2.2.1) = 0
    · simp only [h2, bz, cond_false, z0, show decide ((0 : Int) < 4) = true from rfl, show decide ((1 : Int) < 4) = true from rfl, show decide ((2 : Int) < 4) = true from rfl, show decide ((3 : Int) < 4) = true from rfl, show decide ((4 : Int) < 4) = false from rfl, show idx 0 4 = true from rfl, show idx 1 4 = true from rfl, show idx 2 4 = true from rfl, show idx 3 4 = true from rfl, g0, g1, g2, g3, s0, s1, s2, s3, t0, t1, t2, t3, cond_true, Option.bind_some]
      by_cases h3 : cmpI p.2.2.2.2.2.2.2.2 q.2.2.2.2.2.2.2.2 = 0
      · simp only [h3, bz, cond_false, z0, show decide ((0 : Int) < 4) = true from rfl, show decide ((1 : Int) < 4) = true from rfl, show decide ((2 : Int) < 4) = true from rfl, show decide ((3 : Int) < 4) = true from rfl, show decide ((4 : Int) < 4) = false from rfl, show idx 0 4 = true from rfl, show idx 1 4 = true from rfl, show idx 2 4 = true from rfl, show idx 3 4 = true from rfl, g0, g1, g2, g3, s0, s1, s2, s3, t0, t1, t2, t3, cond_true, Option.bind_some]
        by_cases h4 : cmpI p.2.1 q.2.1 = 0
        · simp only [h4, bz, cond_false, z0, show decide ((0 : Int) < 4) = true from rfl, show decide ((1 : Int) < 4) = true from rfl, show decide ((2 : Int) < 4) = true from rfl, show decide ((3 : Int) < 4) = true from rfl, show decide ((4 : Int) < 4) = false from rfl, show idx 0 4 = true from rfl, show idx 1 4 = true from rfl, show idx 2 4 = true from rfl, show idx 3 4 = true from rfl, g0, g1, g2, g3, s0, s1, s2, s3, t0, t1, t2, t3, cond_true, Option.bind_some]
          by_cases h5 : cmpI (flagI p.2.2.1) (flagI q.2.2.1) = 0
          · simp only [h5, bz, cond_false, z0, show decide ((0 : Int) < 4) = true from rfl, show decide ((1 : Int) < 4) = true from rfl, show decide ((2 : Int) < 4) = true from rfl, show decide ((3 : Int) < 4) = true from rfl, show decide ((4 : Int) < 4) = false from rfl, show idx 0 4 = true from rfl, show idx 1 4 = true from rfl, show idx 2 4 = true from rfl, show idx 3 4 = true from rfl, g0, g1, g2, g3, s0, s1, s2, s3, t0, t1, t2, t3, cond_true, Option.bind_some]
          · simp only [bn _ h5, on _ _ h5, bz, cond_false, z0, show decide ((0 : Int) < 4) = true from rfl, show decide ((1 : Int) < 4) = true from rfl, show decide ((2 : Int) < 4) = true from rfl, show decide ((3 : Int) < 4) = true from rfl, show decide ((4 : Int) < 4) = false from rfl, show idx 0 4 = true from rfl, show idx 1 4 = true from rfl, show idx 2 4 = true from rfl, show idx 3 4 = true from rfl, g0, g1, g2, g3, s0, s1, s2, s3, t0, t1, t2, t3, cond_true, Option.bind_some]
        · simp only [bn _ h4, on _ _ h4, bz, cond_false, z0, show decide ((0 : Int) < 4) = true from rfl, show decide ((1 : Int) < 4) = true from rfl, show decide ((2 : Int) < 4) = true from rfl, show decide ((3 : Int) < 4) = true from rfl, show decide ((4 : Int) < 4) = false from rfl, show idx 0 4 = true from rfl, show idx 1 4 = true from rfl, show idx 2 4 = true from rfl, show idx 3 4 = true from rfl, g0, g1, g2, g3, s0, s1, s2, s3, t0, t1, t2, t3, cond_true, Option.bind_some]
      · simp only [bn _ h3, on _ _ h3, bz, cond_false, z0, show decide ((0 : Int) < 4) = true from rfl, show decide ((1 : Int) < 4) = true from rfl, show decide ((2 : Int) < 4) = true from rfl, show decide ((3 : Int) < 4) = true from rfl, show decide ((4 : Int) < 4) = false from rfl, show idx 0 4 = true from rfl, show idx 1 4 = true from rfl, show idx 2 4 = true from rfl, show idx 3 4 = true from rfl, g0, g1, g2, g3, s0, s1, s2, s3, t0, t1, t2, t3, cond_true, Option.bind_some]
    · simp only [bn _ h2, on _ _ h2, bz, cond_false, z0, show decide ((0 : Int) < 4) = true from rfl, show decide ((1 : Int) < 4) = true from rfl, show decide ((2 : Int) < 4) = true from rfl, show decide ((3 : Int) < 4) = true from rfl, show decide ((4 : Int) < 4) = false from rfl, show idx 0 4 = true from rfl, show idx 1 4 = true from rfl, show idx 2 4 = true from rfl, show idx 3 4 = true from rfl, g0, g1, g2, g3, s0, s1, s2, s3, t0, t1, t2, t3, cond_true, Option.bind_some]
  · have e : (c1 != 0) = true := by simpa using h1
    rw [e]
    unfold orI
    rw [if_neg h1]
    rfl

/-! ### Families -/
theorem all_split {n : Nat} {a b : Nat → Bool} : ((List.range n).all fun i => a i && (i == 0 || b i)) = ((List.range n).all a && (List.range' 1 (n - 1)).all b) := by
  rw [Bool.eq_iff_iff]
  simp only [List.all_eq_true, Bool.and_eq_true, List.mem_range, List.mem_range'_1, Bool.or_eq_true, beq_iff_eq]
  constructor
  · intro h
    exact ⟨fun i hi => (h i hi).1, fun i hi => by
      rcases (h i (by omega)).2 with h0 | h0
      · omega
      · exact h0⟩
  · rintro ⟨h1, h2⟩ i hi
    refine ⟨h1 i hi, ?_⟩
    by_cases h0 : i = 0
    · exact .inl h0
    · exact .inr (h2 i (by omega))

theorem all_get {α : Type} {l : List α} {d : α} {q : α → Bool} : ((List.range l.length).all fun i => q (l.getD i d)) = l.all q := by
  rw [Bool.eq_iff_iff]
  simp only [List.all_eq_true, List.mem_range]
  constructor
  · intro h x hx
    obtain ⟨i, hi, rfl⟩ := List.getElem_of_mem hx
    have := h i hi
    rwa [List.getD_eq_getElem?_getD, List.getElem?_eq_getElem hi] at this
  · intro h i hi
    rw [List.getD_eq_getElem?_getD, List.getElem?_eq_getElem hi]
    exact h _ (List.getElem_mem hi)

theorem riskind_eq (K : Nat) (k : Int) : polyglotref7_IsKind.f K k = some (isKind k) := by
  unfold polyglotref7_IsKind.f isKind
  rw [show decide (k ≥ 0) = decide (0 ≤ k) from rfl]
  have : decide (k ≤ 4) = decide (k < 5) := by rw [decide_eq_decide]; omega
  rw [this]
  cases decide (0 ≤ k) <;> rfl

structure SmallR (K : Nat) (f : Fam) : Prop where
  name : f.1.length + 64 < K ∧ f.1.length < 4611686018427387904
  pts : f.2.2.2.2.length + 200 < K ∧ f.2.2.2.2.length < 4611686018427387904
  unit : f.2.2.1.length + 64 < K ∧ f.2.2.1.length < 100000
  labs : ∀ p ∈ f.2.2.2.2, Short K p.1
  ins : ∀ p ∈ f.2.2.2.2, PtIn p

theorem SmallR.smallF {K : Nat} {f : Fam} (h : SmallR K f) : SmallF K okBound riseP f where
  name := h.name
  pts := h.pts
  labs := h.labs
  unit := h.unit.1
  bd := fun p hp => isBound_eq (by have := h.pts.1; omega) (h.ins p hp)
  rs := riseP_eq (by have := h.pts.1; omega) h.pts.2 fun p hp => ⟨⟨by have := (h.labs p hp).1; omega, (h.labs p hp).2.1⟩, h.ins p hp⟩

theorem SmallR.smallC {K : Nat} {f : Fam} (h : SmallR K f) : SmallC K f where
  name := h.name.2
  unit := ⟨by have := h.unit.1; omega, h.unit.2⟩
  pts := ⟨by have := h.pts.1; omega, h.pts.2⟩
  labs := fun p hp => ⟨by have := (h.labs p hp).1; omega, (h.labs p hp).2.1⟩

theorem rfamily_eq {K : Nat} {f : Fam} (h : SmallR K f) : polyglotref7_Family.f K f = some (okFam okBound riseP f) := by
  have hp := h.pts
  unfold polyglotref7_Family.f okFam
  simp only [rname_eq h.name.1 h.name.2, riskind_eq, rvalue_eq (K := K) (by omega), Option.bind_some]
  cases okName f.1 with
  | false => rfl
  | true =>
    cases isKind f.2.1 with
    | false => rfl
    | true =>
      cases okValue f.2.2.1 with
      | false => rfl
      | true =>
        cases okValue f.2.2.2.1 with
        | false => rfl
        | true =>
          simp only [Bool.not_true, cond_false, Option.bind_some, Bool.true_and]
          rw [loop_ix f.2.2.2.2.length (fun i => okPt okBound f.2.1 (f.2.2.2.2.getD i nopt) && (i == 0 || decide (cmpP (f.2.2.2.2.getD (i - 1) nopt) (f.2.2.2.2.getD i nopt) < 0))) false (by omega) (fun i hi => ?_) (by simp)]
          · rw [all_split (a := fun i => okPt okBound f.2.1 (f.2.2.2.2.getD i nopt)) (b := fun i => decide (cmpP (f.2.2.2.2.getD (i - 1) nopt) (f.2.2.2.2.getD i nopt) < 0)), all_get (q := okPt okBound f.2.1)]
            show _ = some (_ && riseP f.2.2.2.2)
            unfold riseP
            cases (f.2.2.2.2.all (okPt okBound f.2.1) && (List.range' 1 (f.2.2.2.2.length - 1)).all fun i => decide (cmpP (f.2.2.2.2.getD (i - 1) nopt) (f.2.2.2.2.getD i nopt) < 0)) <;> rfl
          · have e : decide ((i : Int) < (f.2.2.2.2.length : Int)) = true := by simpa using hi
            have hm : f.2.2.2.2.getD i nopt ∈ f.2.2.2.2 := by
              rw [List.getD_eq_getElem?_getD, List.getElem?_eq_getElem hi]
              exact List.getElem_mem hi
            have hpt := rpoint_eq f.2.1 (h.labs _ hm) (h.ins _ hm)
            have e3 : ∀ j : Nat, f.2.2.2.2.getD j nopt = f.2.2.2.2.getD j ([], 0, false, 0, 0, 0, 0, false, 0) := fun _ => rfl
            rw [e3] at hpt
            simp only [e, idx_nat hi, Int.toNat_natCast, cond_true, pt_eta, hpt, Option.bind_some, e3]
            rw [step_nat (by omega)]
            cases okPt okBound f.2.1 (f.2.2.2.2.getD i ([], 0, false, 0, 0, 0, 0, false, 0)) with
            | false => rfl
            | true =>
              simp only [Bool.not_true, cond_false, Bool.true_and]
              cases i with
              | zero => rfl
              | succ k =>
                have e1 : decide (((k + 1 : Nat) : Int) > 0) = true := by rw [decide_eq_true_eq]; omega
                have e2 : ((k + 1 : Nat) : Int) - 1 = (k : Int) := by omega
                have hm' : f.2.2.2.2.getD k nopt ∈ f.2.2.2.2 := by
                  rw [List.getD_eq_getElem?_getD, List.getElem?_eq_getElem (by omega : k < f.2.2.2.2.length)]
                  exact List.getElem_mem _
                have hc := rcmpP_eq (K := K) (by have := (h.labs _ hm').1; omega) (h.labs _ hm').2.1 (h.labs _ hm).2.1 (h.ins _ hm') (h.ins _ hm)
                rw [e3, e3] at hc
                rw [e1, e2, i64_in (k : Int) (by omega), idx_nat (by omega), Int.toNat_natCast]
                simp only [cond_true, hc, Option.bind_some, Nat.add_sub_cancel, show (k + 1 == 0) = false from rfl, Bool.false_or]
                generalize cmpP (f.2.2.2.2.getD k ([], 0, false, 0, 0, 0, 0, false, 0)) (f.2.2.2.2.getD (k + 1) ([], 0, false, 0, 0, 0, 0, false, 0)) = c
                by_cases h1 : c < 0
                · have e4 : decide (c ≥ 0) = false := by simpa using h1
                  simp [e4, h1]
                · have e4 : decide (c ≥ 0) = true := by simpa using h1
                  simp [e4, h1]

end Go.Proofs.YtekeaempemiciaaGreatDoor
