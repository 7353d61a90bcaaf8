/- What is too wide; loops over lists; batches of events that come in. -/
import Derived.Test.YtoobdenlgapcmaaGreatRfF
import Derived.Test.YtoobdenlgapcmaaGreatPj
set_option linter.unusedSimpArgs false
set_option linter.unusedVariables false
namespace Go.Proofs.YtoobdenlgapcmaaGreat
open Go Go.Rf Go.Proofs Go.RowKit
open Go.IntWalk (i64_in i32_in u8_in u64_in)

theorem rnumber_eq (K : Nat) (x y : Int) : polyglotref7_number.f K x y = some (cmpI x y) := by
  unfold polyglotref7_number.f cmpI
  by_cases h1 : x < y
  · simp [h1]
  · by_cases h2 : x > y
    · simp [h1, h2]
    · simp [h1, h2]

theorem rtext_eq (K : Nat) (a b : List UInt8) : polyglotref7_text.f K a b = some (cmpL a b) := by
  unfold polyglotref7_text.f
  rw [less_eq]
  rcases cmpL_cases a b with h | h | h
  · have : a = b := (cmpL_eq a b).1 h
    subst this
    simp [h]
  · simp [h]
  · have : a ≠ b := fun hh => by rw [(cmpL_eq a b).2 hh] at h; cases h
    have e : (a == b) = false := by simpa using this
    simp [h, e]

theorem rlabs_eq {K : Nat} {a b : List Lab} (hK : a.length + 4 < K) (hs : a.length < 4611686018427387904) (hs' : b.length < 4611686018427387904) : polyglotref7_CompareLabels.f K a b = some (cmpLabs a b) := by
  have hr : ∃ t, polyglotref7_CompareLabels.f K a b = some t ∧ t = cmpLabs a b := by
    unfold polyglotref7_CompareLabels.f
    refine bind_loop2 (fun s => ∃ i : Nat, s = (i : Int) ∧ i ≤ a.length ∧ i ≤ b.length ∧ cmpLabs (a.drop i) (b.drop i) = cmpLabs a b) (fun s => a.length - s.toNat)
      (fun r => match r with | .inl _ => cmpI (a.length : Int) (b.length : Int) = cmpLabs a b | .inr v => v = cmpLabs a b) ?_ ⟨0, rfl, by omega, by omega, rfl⟩ (by show a.length - (0 : Int).toNat < K; omega) ?_
    · rintro _ ⟨i, rfl, h1, h2, h3⟩
      simp only []
      by_cases ha : i < a.length
      · have e : decide ((i : Int) < (a.length : Int)) = true := by simpa using ha
        have hd : a.drop i = a[i] :: a.drop (i + 1) := List.drop_eq_getElem_cons ha
        rw [e]
        by_cases hb : i < b.length
        · have e2 : decide ((i : Int) < (b.length : Int)) = true := by simpa using hb
          have hd' : b.drop i = b[i] :: b.drop (i + 1) := List.drop_eq_getElem_cons hb
          have ga : a.getD i nolab = a[i] := by rw [List.getD_eq_getElem?_getD, List.getElem?_eq_getElem ha]; rfl
          have gb : b.getD i nolab = b[i] := by rw [List.getD_eq_getElem?_getD, List.getElem?_eq_getElem hb]; rfl
          unfold nolab at ga gb
          rw [hd, hd', cmpLabs] at h3
          simp only [e2, idx_nat ha, idx_nat hb, cond_true, Int.toNat_natCast, ga, gb, rtext_eq, Option.bind_some]
          unfold cmpLab at h3
          by_cases h0 : cmpL a[i].1 b[i].1 = 0
          · rw [h0]
            rw [h0] at h3
            by_cases h4 : cmpL a[i].2 b[i].2 = 0
            · rw [h4]
              refine ⟨_, rfl, ⟨i + 1, step_nat (by omega), by omega, by omega, ?_⟩, ?_⟩
              · rw [← h3, h4]
                rfl
              · show a.length - (IntKind.i64.wrap ((i : Int) + 1)).toNat < a.length - ((i : Int)).toNat
                rw [step_nat (by omega)]
                omega
            · have e3 : (cmpL a[i].2 b[i].2 != 0) = true := by simpa using h4
              rw [e3]
              refine ⟨_, rfl, ?_⟩
              show cmpL a[i].2 b[i].2 = _
              rw [← h3]
              unfold orI
              rw [if_pos rfl, if_neg h4]
          · have e3 : (cmpL a[i].1 b[i].1 != 0) = true := by simpa using h0
            rw [e3]
            refine ⟨_, rfl, ?_⟩
            show cmpL a[i].1 b[i].1 = _
            rw [← h3]
            unfold orI
            rw [if_neg h0, if_neg h0]
        · have e2 : decide ((i : Int) < (b.length : Int)) = false := by simpa using hb
          have hd' : b.drop i = [] := List.drop_eq_nil_iff.2 (by omega)
          rw [hd, hd', cmpLabs] at h3
          rw [e2]
          refine ⟨_, rfl, ?_⟩
          show cmpI (a.length : Int) (b.length : Int) = cmpLabs a b
          rw [← h3]
          unfold cmpI
          rw [if_neg (by omega), if_pos (by omega)]
      · have e : decide ((i : Int) < (a.length : Int)) = false := by simpa using ha
        have hd : a.drop i = [] := List.drop_eq_nil_iff.2 (by omega)
        rw [e]
        refine ⟨_, rfl, ?_⟩
        show cmpI (a.length : Int) (b.length : Int) = cmpLabs a b
        rw [← h3, hd]
        unfold cmpI
        by_cases hb : i < b.length
        · have hd' : b.drop i = b[i] :: b.drop (i + 1) := List.drop_eq_getElem_cons hb
          rw [hd', if_pos (by omega)]
          rfl
        · have hd' : b.drop i = [] := List.drop_eq_nil_iff.2 (by omega)
          rw [hd', if_neg (by omega), if_neg (by omega)]
          rfl
    · rintro (u | v) hQ
      · have hQ' : cmpI (a.length : Int) (b.length : Int) = cmpLabs a b := hQ
        simp only [rnumber_eq]
        exact ⟨_, rfl, hQ'⟩
      · exact ⟨_, rfl, hQ⟩
  obtain ⟨t, h1, h2⟩ := hr
  rw [h1, h2]

structure SmallR (K : Nat) (f : Fam) : Prop where
  name : f.1.length + 64 < K ∧ f.1.length < 4611686018427387904
  pts : f.2.2.2.2.length + 200 < K ∧ f.2.2.2.2.length < 4611686018427387904
  unit : f.2.2.1.length + 64 < K ∧ f.2.2.1.length < 100000
  labs : ∀ p ∈ f.2.2.2.2, Short K p.1
  ins : ∀ p ∈ f.2.2.2.2, PtIn p

theorem SmallR.smallF {K : Nat} {f : Fam} (h : SmallR K f) : SmallF K okBound riseP f where
  name := h.name
  pts := h.pts
  labs := h.labs
  unit := h.unit.1
  bd := fun p hp => isBound_eq (by have := h.pts.1; omega) (h.ins p hp)
  rs := riseP_eq (by have := h.pts.1; omega) h.pts.2 fun p hp => ⟨⟨by have := (h.labs p hp).1; omega, (h.labs p hp).2.1⟩, h.ins p hp⟩

theorem SmallR.smallC {K : Nat} {f : Fam} (h : SmallR K f) : SmallC K f where
  name := h.name.2
  unit := ⟨by have := h.unit.1; omega, h.unit.2⟩
  pts := ⟨by have := h.pts.1; omega, h.pts.2⟩
  labs := fun p hp => ⟨by have := (h.labs p hp).1; omega, (h.labs p hp).2.1⟩

structure SmallQ (K : Nat) (b : Bat) : Prop where
  ten : b.1.length < K ∧ b.1.length < 4611686018427387904
  fams : b.2.length < K ∧ b.2.length < 4611686018427387904
  cnt : countP b.2 < 4611686018427387904
  all : ∀ f ∈ b.2, SmallR K f

theorem SmallQ.smallB {K : Nat} {b : Bat} (h : SmallQ K b) : SmallB K okBound riseP b := ⟨h.ten, h.fams, h.cnt, fun f hf => (h.all f hf).smallF⟩

def labW (x : Lab) : Bool := decide (x.1.length ≤ 100) && decide (x.2.length ≤ 100)

def ptW (p : Pt) : Bool := decide (p.1.length ≤ 12) && p.1.all labW

def famW (f : Fam) : Bool := decide (f.2.2.2.2.length ≤ 130) && decide (f.1.length ≤ 100) && decide (f.2.2.1.length ≤ 100) && decide (f.2.2.2.1.length ≤ 100) && f.2.2.2.2.all ptW

theorem gt_not (n k : Nat) : decide ((n : Int) > (k : Int)) = !decide (n ≤ k) := by rw [← decide_not, decide_eq_decide]; omega

def Narrow (b : Bat) : Prop := b.2.length ≤ 40 ∧ b.1.length ≤ 100 ∧ countP b.2 ≤ 130 ∧ ∀ f ∈ b.2, famW f = true

theorem wide_eq {K : Nat} (hK : 200 < K) {b : Bat} : ∃ w, polyglothelp_Wide.f K b = some w ∧ (w = false → Narrow b) := by
  unfold polyglothelp_Wide.f
  have e40 : decide ((b.2.length : Int) > 40) = !decide (b.2.length ≤ 40) := gt_not _ 40
  have e100 : decide ((b.1.length : Int) > 100) = !decide (b.1.length ≤ 100) := gt_not _ 100
  rw [e40, e100]
  by_cases h1 : b.2.length ≤ 40
  · by_cases h2 : b.1.length ≤ 100
    · have d1 : decide (b.2.length ≤ 40) = true := by simpa using h1
      have d2 : decide (b.1.length ≤ 100) = true := by simpa using h2
      rw [d1, d2]
      simp only [Bool.not_true, cond_false, Option.bind_some]
      refine bind_loop2 (fun x => ∃ n i : Nat, x.1 = (n : Int) ∧ x.2 = (i : Int) ∧ i ≤ b.2.length ∧ n ≤ 130 ∧ n + countP (b.2.drop i) = countP b.2 ∧ ∀ f ∈ b.2.take i, famW f = true) (fun x => b.2.length - x.2.toNat)
        (fun r => match r with | .inl _ => Narrow b | .inr t => t = true) ?_ ⟨0, 0, rfl, rfl, by omega, by omega, by simp, by simp⟩ (by show b.2.length - (0 : Int).toNat < K; omega) ?_
      · rintro ⟨_, _⟩ ⟨n, i, rfl, rfl, i1, i2, i3, i4⟩
        simp only []
        by_cases hi : i < b.2.length
        · have e : decide ((i : Int) < (b.2.length : Int)) = true := by simpa using hi
          have hgf : b.2.getD i ([], 0, [], [], []) = b.2[i] := by rw [List.getD_eq_getElem?_getD, List.getElem?_eq_getElem hi]; rfl
          have hd : b.2.drop i = b.2[i] :: b.2.drop (i + 1) := List.drop_eq_getElem_cons hi
          have hc : countP (b.2.drop i) = b.2[i].2.2.2.2.length + countP (b.2.drop (i + 1)) := by
            rw [hd]
            unfold countP
            rw [List.map_cons, List.sum_cons]
          have htk : b.2.take (i + 1) = b.2.take i ++ [b.2[i]] := by rw [List.take_add_one, List.getElem?_eq_getElem hi]; rfl
          simp only [e, idx_nat hi, Int.toNat_natCast, cond_true, hgf]
          generalize b.2[i] = f at hd hc htk ⊢
          have g2 : decide ((f.2.2.2.2.length : Int) > 130) = !decide (f.2.2.2.2.length ≤ 130) := gt_not _ 130
          have g3 : decide ((f.1.length : Int) > 100) = !decide (f.1.length ≤ 100) := gt_not _ 100
          have g4 : decide ((f.2.2.1.length : Int) > 100) = !decide (f.2.2.1.length ≤ 100) := gt_not _ 100
          have g5 : decide ((f.2.2.2.1.length : Int) > 100) = !decide (f.2.2.2.1.length ≤ 100) := gt_not _ 100
          rw [g2, g3, g4, g5]
          cases b2 : decide (f.2.2.2.2.length ≤ 130) with
          | false =>
            cases decide (IntKind.i64.wrap ((n : Int) + (f.2.2.2.2.length : Int)) > 130) <;> exact ⟨_, rfl, rfl⟩
          | true =>
            have b2' : f.2.2.2.2.length ≤ 130 := by rwa [decide_eq_true_eq] at b2
            have ew : IntKind.i64.wrap ((n : Int) + (f.2.2.2.2.length : Int)) = ((n + f.2.2.2.2.length : Nat) : Int) := by rw [i64_in _ (by omega)]; omega
            have g1 : decide (((n + f.2.2.2.2.length : Nat) : Int) > 130) = !decide (n + f.2.2.2.2.length ≤ 130) := gt_not _ 130
            rw [ew, g1]
            cases b1 : decide (n + f.2.2.2.2.length ≤ 130) with
            | false => exact ⟨_, rfl, rfl⟩
            | true =>
              rw [decide_eq_true_eq] at b1
              cases b3 : decide (f.1.length ≤ 100) with
              | false => exact ⟨_, rfl, rfl⟩
              | true =>
                cases b4 : decide (f.2.2.1.length ≤ 100) with
                | false => exact ⟨_, rfl, rfl⟩
                | true =>
                  cases b5 : decide (f.2.2.2.1.length ≤ 100) with
                  | false => exact ⟨_, rfl, rfl⟩
                  | true =>
                    simp only [Bool.not_true, cond_false, Option.bind_some]
                    rw [loop_all f.2.2.2.2 ptW true (by omega) (fun k p hp => ?_) (by simp)]
                    · have hw : famW f = f.2.2.2.2.all ptW := by
                        unfold famW
                        rw [b3, b4, b5]
                        rw [b2]
                        rfl
                      cases hall : f.2.2.2.2.all ptW with
                      | false => exact ⟨_, rfl, rfl⟩
                      | true =>
                        refine ⟨_, rfl, ⟨n + f.2.2.2.2.length, i + 1, rfl, step_nat (by omega), by omega, b1, by omega, ?_⟩, ?_⟩
                        · rw [htk]
                          intro g hg
                          rcases List.mem_append.1 hg with hg | hg
                          · exact i4 g hg
                          · rw [List.mem_singleton] at hg
                            subst hg
                            rw [hw, hall]
                        · show b.2.length - (IntKind.i64.wrap ((i : Int) + 1)).toNat < b.2.length - ((i : Int)).toNat
                          rw [step_nat (by omega)]
                          omega
                    · have hk := lt_at hp
                      have ek : decide ((k : Int) < (f.2.2.2.2.length : Int)) = true := by simpa using hk
                      simp only [ek, idx_nat hk, Int.toNat_natCast, cond_true, getPt hp]
                      have g6 : decide ((p.1.length : Int) > 12) = !decide (p.1.length ≤ 12) := gt_not _ 12
                      rw [g6]
                      unfold ptW
                      cases b6 : decide (p.1.length ≤ 12) with
                      | false => rfl
                      | true =>
                        rw [decide_eq_true_eq] at b6
                        simp only [Bool.not_true, cond_false, Bool.true_and]
                        rw [loop_all p.1 labW true (by omega) (fun j x hx => ?_) (by simp)]
                        · rw [step_nat (by omega)]
                          cases p.1.all labW <;> rfl
                        · have hj := lt_at hx
                          have ej : decide ((j : Int) < (p.1.length : Int)) = true := by simpa using hj
                          have g7 : decide ((x.1.length : Int) > 100) = !decide (x.1.length ≤ 100) := gt_not _ 100
                          have g8 : decide ((x.2.length : Int) > 100) = !decide (x.2.length ≤ 100) := gt_not _ 100
                          simp only [ej, idx_nat hj, Int.toNat_natCast, cond_true, get_at hx, g7, g8]
                          rw [step_nat (by omega)]
                          unfold labW
                          cases decide (x.1.length ≤ 100) <;> cases decide (x.2.length ≤ 100) <;> rfl
        · have e : decide ((i : Int) < (b.2.length : Int)) = false := by simpa using hi
          have hd : b.2.drop i = [] := List.drop_eq_nil_iff.2 (by omega)
          have ht : b.2.take i = b.2 := List.take_of_length_le (by omega)
          rw [e]
          rw [hd] at i3
          rw [ht] at i4
          refine ⟨_, rfl, ?_⟩
          exact ⟨h1, h2, by have : countP ([] : List Fam) = 0 := rfl; omega, i4⟩
      · rintro (u | t) hQ
        · exact ⟨_, rfl, fun _ => hQ⟩
        · have hQ' : t = true := hQ
          subst hQ'
          exact ⟨_, rfl, fun h => by cases h⟩
    · have d1 : decide (b.2.length ≤ 40) = true := by simpa using h1
      have d2 : decide (b.1.length ≤ 100) = false := by simpa using h2
      rw [d1, d2]
      exact ⟨_, rfl, fun h => by cases h⟩
  · have d1 : decide (b.2.length ≤ 40) = false := by simpa using h1
    rw [d1]
    exact ⟨_, rfl, fun h => by cases h⟩

/-- The numbers of a batch are numbers of 64 bits. -/
def BatIn (b : Bat) : Prop := ∀ f ∈ b.2, ∀ p ∈ f.2.2.2.2, PtIn p

theorem small_of {b : Bat} (h : Narrow b) (hi : BatIn b) : SmallQ 1000 b := by
  obtain ⟨h1, h2, h3, h4⟩ := h
  refine ⟨by omega, by omega, by omega, fun f hf => ?_⟩
  have h5 := h4 f hf
  unfold famW at h5
  simp only [Bool.and_eq_true, decide_eq_true_eq, List.all_eq_true] at h5
  obtain ⟨⟨⟨⟨q1, q2⟩, q3⟩, q4⟩, q5⟩ := h5
  refine ⟨by omega, by omega, by omega, fun p hp => ?_, fun p hp => hi f hf p hp⟩
  have h6 := q5 p hp
  unfold ptW at h6
  simp only [Bool.and_eq_true, decide_eq_true_eq, List.all_eq_true] at h6
  refine ⟨by omega, by omega, fun x hx => ?_⟩
  have h7 := h6.2 x hx
  unfold labW at h7
  simp only [Bool.and_eq_true, decide_eq_true_eq] at h7
  omega

def tPt : Ty := .pair (.sl (.pair .str .str)) (.pair (.int .i64) (.pair .bool (.pair (.int .i64) (.pair (.int .i64) (.pair (.int .i64) (.pair (.int .i64) (.pair .bool (.int .i64))))))))

def tBat : Ty := .pair .str (.sl (.pair .str (.pair (.int .i64) (.pair .str (.pair .str (.sl tPt))))))

theorem bat_in {b : Bat} (h : WfT tBat b) : BatIn b := by
  intro f hf p hp
  have h1 := h.2.2 f hf
  have h2 := h1.2.2.2.2.2 p hp
  have h3 : (Lit.int .i64 p.2.2.2.1).wf = true := h2.2.2.2.1
  simp only [Lit.wf, Bool.and_eq_true, decide_eq_true_eq] at h3
  exact h3

def foldE {S R α : Type} (step : S → α → S ⊕ R) (fin : S → R) : List α → S → R
  | [], s => fin s
  | x :: l, s => match step s x with
    | .inl s' => foldE step fin l s'
    | .inr r => r

theorem loop_list {σ S R α : Type} {K : Nat} {g : σ → Option (σ ⊕ R)} (enc : S → Int → σ) (l : List α) (I : Nat → S → Prop) (step : S → α → S ⊕ R) (fin : S → R)
    (hg : ∀ (i : Nat) x s, l[i]? = some x → I i s → g (enc s (i : Int)) = some (match step s x with | .inl s' => .inl (enc s' ((i + 1 : Nat) : Int)) | .inr r => .inr r) ∧ ∀ s', step s x = .inl s' → I (i + 1) s')
    (hn : ∀ s, I l.length s → g (enc s (l.length : Int)) = some (.inr (fin s))) (hK : l.length < K) {s0 : S} (h0 : I 0 s0) : loopN K g (enc s0 0) = some (foldE step fin l s0) := by
  have key : ∀ (m i K : Nat) (s : S), i + m = l.length → m < K → I i s → loopN K g (enc s (i : Int)) = some (foldE step fin (l.drop i) s) := by
    intro m
    induction m with
    | zero =>
      intro i K s e hk hI
      obtain ⟨K, rfl⟩ : ∃ k, K = k + 1 := ⟨K - 1, by omega⟩
      have : i = l.length := by omega
      subst this
      simp only [loopN, hn s hI, List.drop_length, foldE]
    | succ m ih =>
      intro i K s e hk hI
      obtain ⟨K, rfl⟩ : ∃ k, K = k + 1 := ⟨K - 1, by omega⟩
      have hi : i < l.length := by omega
      obtain ⟨h1, h2⟩ := hg i l[i] s (List.getElem?_eq_getElem hi) hI
      rw [List.drop_eq_getElem_cons hi]
      simp only [loopN, h1, foldE]
      cases hs : step s l[i] with
      | inl s' => exact ih (i + 1) K s' (by omega) (by omega) (h2 s' hs)
      | inr r => rfl
  have := key l.length 0 K s0 (by omega) hK h0
  simpa using this

/-- A loop that comes to one outcome. -/
theorem loopN_eq {S R : Type} {g : S → Option (S ⊕ R)} {r : R} (I : S → Prop) (μ : S → Nat) (h : ∀ s, I s → (∃ s', g s = some (.inl s') ∧ I s' ∧ μ s' < μ s) ∨ g s = some (.inr r)) {K : Nat} {s : S} (hs : I s) (hK : μ s < K) : loopN K g s = some r := by
  obtain ⟨r', h1, h2⟩ := loopN_rule I μ (fun x => x = r) (fun s hs => by
    rcases h s hs with h | h
    · exact .inl h
    · exact .inr ⟨r, h, rfl⟩) K s hs hK
  rw [h1, h2]

/-- A loop that puts something behind for each element. -/
theorem foldE_flat {R α β : Type} (f : α → List β) (fin : List β → R) : ∀ (l : List α) (s : List β), foldE (fun s x => (.inl (s ++ f x) : List β ⊕ R)) fin l s = fin (s ++ l.flatMap f)
  | [], s => by simp [foldE]
  | x :: l, s => by
    simp only [foldE, List.flatMap_cons]
    rw [foldE_flat f fin l, List.append_assoc]

theorem loop_flat {σ R α β : Type} {K : Nat} {g : σ → Option (σ ⊕ R)} (enc : List β → Int → σ) (l : List α) (f : α → List β) (fin : List β → R) (s0 : List β)
    (hg : ∀ (i : Nat) x, l[i]? = some x → g (enc (s0 ++ (l.take i).flatMap f) (i : Int)) = some (.inl (enc ((s0 ++ (l.take i).flatMap f) ++ f x) ((i + 1 : Nat) : Int))))
    (hn : ∀ s, s = s0 ++ l.flatMap f → g (enc s (l.length : Int)) = some (.inr (fin s))) (hK : l.length < K) : loopN K g (enc s0 0) = some (fin (s0 ++ l.flatMap f)) := by
  rw [loop_list enc l (fun i s => s = s0 ++ (l.take i).flatMap f) (fun s x => .inl (s ++ f x)) fin (fun i x s hx hs => ?_) (fun s hs => hn s (by rw [hs, List.take_length])) hK (by simp), foldE_flat]
  subst hs
  refine ⟨hg i x hx, fun s' hs' => ?_⟩
  injection hs' with hs'
  rw [← hs', List.append_assoc, List.take_add_one, hx]
  simp

theorem lim {n : Nat} (h : n ≤ 140737488355328) : decide (n ≤ LIM) = true := decide_eq_true h

theorem count_le {l : List Fam} {f : Fam} (h : f ∈ l) : f.2.2.2.2.length ≤ countP l := by
  unfold countP
  induction l with
  | nil => simp at h
  | cons a l ih =>
    rw [List.map_cons, List.sum_cons]
    rcases List.mem_cons.1 h with rfl | h
    · omega
    · have := ih h
      omega

/-- What a round may leave. -/
def Rnd {σ S R : Type} (enc : S → Int → σ) (I : Nat → S → Prop) (Q : R → Prop) (i : Nat) (y : σ ⊕ R) : Prop := match y with
  | .inl z => ∃ s', z = enc s' ((i + 1 : Nat) : Int) ∧ I (i + 1) s'
  | .inr r => Q r

/-- A loop over a list, by what it keeps. -/
theorem loop_rel {σ S R α : Type} {K : Nat} {g : σ → Option (σ ⊕ R)} (enc : S → Int → σ) (l : List α) (I : Nat → S → Prop) (Q : R → Prop)
    (hg : ∀ (i : Nat) x s, l[i]? = some x → I i s → ∃ y, g (enc s (i : Int)) = some y ∧ Rnd enc I Q i y)
    (hn : ∀ s, I l.length s → ∃ r, g (enc s (l.length : Int)) = some (.inr r) ∧ Q r) (hK : l.length < K) {s0 : S} (h0 : I 0 s0) : ∃ r, loopN K g (enc s0 0) = some r ∧ Q r := by
  have key : ∀ (m i K : Nat) (s : S), i + m = l.length → m < K → I i s → ∃ r, loopN K g (enc s (i : Int)) = some r ∧ Q r := by
    intro m
    induction m with
    | zero =>
      intro i K s e hk hI
      obtain ⟨K, rfl⟩ : ∃ k, K = k + 1 := ⟨K - 1, by omega⟩
      have : i = l.length := by omega
      subst this
      obtain ⟨r, h1, h2⟩ := hn s hI
      exact ⟨r, by simp only [loopN, h1], h2⟩
    | succ m ih =>
      intro i K s e hk hI
      obtain ⟨K, rfl⟩ : ∃ k, K = k + 1 := ⟨K - 1, by omega⟩
      have hi : i < l.length := by omega
      obtain ⟨y, h1, h2⟩ := hg i l[i] s (List.getElem?_eq_getElem hi) hI
      cases y with
      | inl z =>
        obtain ⟨s', rfl, h3⟩ := h2
        obtain ⟨r, h4, h5⟩ := ih (i + 1) K s' (by omega) (by omega) h3
        exact ⟨r, by simp only [loopN, h1]; exact h4, h5⟩
      | inr r => exact ⟨r, by simp only [loopN, h1], h2⟩
  have := key l.length 0 K s0 (by omega) hK h0
  simpa using this

theorem ex_bind {α β : Type} {X : Option α} {k : α → Option β} {Q : α → Prop} {Z : β → Prop} (h : ∃ r, X = some r ∧ Q r) (hk : ∀ r, Q r → ∃ t, k r = some t ∧ Z t) : ∃ t, X.bind k = some t ∧ Z t := by
  obtain ⟨r, e, hr⟩ := h
  obtain ⟨t, h1, h2⟩ := hk r hr
  exact ⟨t, by rw [e]; exact h1, h2⟩

theorem of_ex_eq {α : Type} {X : Option α} {z : α} (h : ∃ t, X = some t ∧ t = z) : X = some z := by
  obtain ⟨t, h1, h2⟩ := h
  rw [h1, h2]

/-- The numbers of a batch's values are numbers of 64 bits. -/
def BatVal (b : Bat) : Prop := ∀ f ∈ b.2, ∀ p ∈ f.2.2.2.2, I64 p.2.2.2.2.2.1

theorem bat_val {b : Bat} (h : WfT tBat b) : BatVal b := by
  intro f hf p hp
  have h1 := h.2.2 f hf
  have h2 := h1.2.2.2.2.2 p hp
  have h3 : (Lit.int .i64 p.2.2.2.2.2.1).wf = true := h2.2.2.2.2.2.1
  simp only [Lit.wf, Bool.and_eq_true, decide_eq_true_eq] at h3
  exact h3

theorem check_pt {b : Bat} (h : checkB okBound riseP b = 0) {f : Fam} (hf : f ∈ b.2) {p : Pt} (hp : p ∈ f.2.2.2.2) : okPt okBound f.2.1 p = true := by
  unfold checkB at h
  have h1 : (okTenant b.1 && b.2.all (okFam okBound riseP) && riseF b.2) = true := by
    cases hh : (okTenant b.1 && b.2.all (okFam okBound riseP) && riseF b.2) with
    | true => rfl
    | false => rw [hh] at h; cases h
  simp only [Bool.and_eq_true, List.all_eq_true] at h1
  have h2 := h1.1.2 f hf
  unfold okFam at h2
  simp only [Bool.and_eq_true, List.all_eq_true] at h2
  exact h2.1.2 p hp

theorem why_check {pr : Int} {b : Bat} (h : (whyB okBound riseP pr b).2 = true) : checkB okBound riseP b = 0 := by
  unfold whyB at h
  split at h
  · rename_i h1
    simp only [Bool.and_eq_true] at h1
    exact eq_of_beq h1.2
  · cases h

theorem whyF_all {pr : Int} {l : List Fam} : (whyF pr l).2 = l.all (okF pr) := by
  unfold whyF
  induction l with
  | nil => rfl
  | cons a l ih =>
    rw [List.find?_cons, List.all_cons]
    cases okF pr a with
    | true => simpa using ih
    | false => rfl

end Go.Proofs.YtoobdenlgapcmaaGreat
