/- ClassHas answers true, in plain Lean. -/
import Derived.Test.YtclmdnfkdpdacaaPf
namespace Go.Proofs.Ytclmdnfkdpdacaa
open Go Go.Rf Go.Proofs Go.RowKit
open Go.IntWalk (i64_in i32_in u8_in u64_in)

theorem legal_print (p : Int) (hp : p = 1 ∨ p = 2 ∨ p = 3 ∨ p = 4) (c : UInt8) (a b : Bool) (h : legalC p 1 c a b = true) : 32 ≤ c.toNat ∧ c.toNat ≤ 126 := by
  have := byte_all (p := fun c => [1, 2, 3, 4].all fun p => [true, false].all fun a => [true, false].all fun b => !legalC p 1 c a b || (decide (32 ≤ c.toNat) && decide (c.toNat ≤ 126))) (by kernel_rfl) c
  rw [List.all_eq_true] at this
  have h1 := this p (by rcases hp with rfl | rfl | rfl | rfl <;> simp)
  rw [List.all_eq_true] at h1
  have h2 := h1 a (by cases a <;> simp)
  rw [List.all_eq_true] at h2
  have h3 := h2 b (by cases b <;> simp)
  rw [h] at h3
  simpa using h3

theorem name_of_is {p : Int} (hp : p = 1 ∨ p = 2 ∨ p = 3 ∨ p = 4) {s : List UInt8} (h : okIs p 1 s = true) : okName s = true := by
  unfold okIs at h
  rw [Bool.and_eq_true, Bool.and_eq_true] at h
  obtain ⟨⟨h1, h2⟩, h3⟩ := h
  have hb : ∀ c ∈ s, 32 ≤ c.toNat ∧ c.toNat ≤ 126 := by
    intro c hc
    obtain ⟨i, hi, rfl⟩ := List.getElem_of_mem hc
    have := List.all_eq_true.1 h3 i (List.mem_range.2 hi)
    unfold legal at this
    rw [List.getD_eq_getElem?_getD, List.getElem?_eq_getElem hi] at this
    exact legal_print p hp _ _ _ this
  unfold okName
  rw [h1, h2, Bool.and_true, Bool.and_true]
  have e1 : s.all plainByte = true := by
    rw [List.all_eq_true]
    intro c hc
    have := hb c hc
    unfold plainByte
    simp
    omega
  have e2 : utf8 s = true := by
    refine uOK_ascii _ _ (Nat.lt_succ_self _) ?_
    rw [List.all_eq_true]
    intro c hc
    have := hb c hc
    rw [decide_eq_true_eq]
    omega
  rw [e1, e2]
  rfl

theorem and_low (x : Int) : ∃ m : Int, bitOp .and .i64 x 65535 = m ∧ 0 ≤ m ∧ m ≤ 65535 := by
  have h : (BitVec.ofInt 64 x &&& BitVec.ofInt 64 65535).toNat ≤ 65535 := by
    rw [BitVec.toNat_and]
    exact Nat.and_le_right
  refine ⟨_, rfl, ?_⟩
  unfold bitOp
  simp only []
  have e : IntKind.i64.wrap ((BitVec.ofInt IntKind.i64.bits x &&& BitVec.ofInt IntKind.i64.bits 65535).toNat : Int) = ((BitVec.ofInt 64 x &&& BitVec.ofInt 64 65535).toNat : Int) := i64_in _ ⟨by omega, by
    have : ((BitVec.ofInt IntKind.i64.bits x &&& BitVec.ofInt IntKind.i64.bits 65535).toNat : Int) ≤ 65535 := by
      have := h
      show ((BitVec.ofInt 64 x &&& BitVec.ofInt 64 65535).toNat : Int) ≤ 65535
      omega
    omega⟩
  rw [e]
  omega

/-- One family of one point. -/
def oneB (kind : Int) (x : Pt) : Bat := ([116], [([97], kind, [], [], [x])])

theorem one_is {L : List Lab} {k p M T : Int} {timed : Bool} (hp : p = 1 ∨ p = 2 ∨ p = 3 ∨ p = 4) (hk : k = 0 ∨ k = 1 ∨ k = 2 ∨ k = 3 ∨ k = 4) (hL : L = [] ∨ ∃ name value, L = [(name, value)] ∧ okIs p 1 name = true ∧ okVal p value = true)
    (hM : -9223372036854775808 < M) (hM0 : k = 2 ∨ p = 4 → 0 ≤ M) (hT : p ≠ 4 → timed = true ∧ -1125899906842624 ≤ T ∧ T ≤ 1125899906842624 ∧ Int.tmod T 1000 = 0) (hT4 : p = 4 → timed = false ∧ T = 0) :
    class_Is.f 1000 p (oneB k (L, (bif k == 3 || k == 4 then 4 else 0), false, 0, 0, M, 0, timed, T)) = some ((okKinds p).contains k) := by
  generalize hr : (bif k == 3 || k == 4 then (4 : Int) else 0) = role
  have hrole : role = 0 ∨ role = 4 := by rcases hk with rfl | rfl | rfl | rfl | rfl <;> (subst hr; simp)
  have hlen : L.length ≤ 1 ∧ ∀ x ∈ L, x.1.length ≤ 60 ∧ okName x.1 = true ∧ okValue x.2 = true ∧ okIs p 1 x.1 = true ∧ okVal p x.2 = true := by
    rcases hL with rfl | ⟨name, value, rfl, h1, h2⟩
    · simp
    · refine ⟨by simp, fun x hx => ?_⟩
      rw [List.mem_singleton] at hx
      subst hx
      have h3 := name_of_is hp h1
      have h4 : okValue value = true := by
        unfold okVal at h2
        rw [Bool.and_eq_true] at h2
        exact h2.1
      refine ⟨?_, h3, h4, h1, h2⟩
      unfold okName at h3
      simp only [Bool.and_eq_true, decide_eq_true_eq] at h3
      exact h3.1.2
  have hshort : Short 1000 L := ⟨by omega, by omega, fun x hx => by have := (hlen.2 x hx).1; omega⟩
  have hbd : point_isBound.f 1000 (L, role, false, 0, 0, M, 0, timed, T) = some true := by rcases hrole with rfl | rfl <;> rfl
  have hrs : family_rises.f 1000 [(L, role, false, 0, 0, M, 0, timed, T)] = some true := by kernel_rfl
  have hF : SmallF 1000 (fun _ => true) (fun _ => true) ([97], k, [], [], [(L, role, false, 0, 0, M, 0, timed, T)]) := by
    refine ⟨by simp, by simp, fun p hp => ?_, by simp, fun p hp => ?_, hrs⟩
    · rw [List.mem_singleton] at hp
      subst hp
      exact hshort
    · rw [List.mem_singleton] at hp
      subst hp
      exact hbd
  have hC : SmallC 1000 ([97], k, [], [], [(L, role, false, 0, 0, M, 0, timed, T)]) := by
    refine ⟨by simp, by simp, by simp, fun p hp => ?_⟩
    rw [List.mem_singleton] at hp
    subst hp
    show L.length + 64 < 1000 ∧ L.length < 4611686018427387904
    omega
  have hB : SmallB 1000 (fun _ => true) (fun _ => true) (oneB k (L, role, false, 0, 0, M, 0, timed, T)) := by
    refine ⟨by simp [oneB], by simp [oneB], by simp [oneB, countP], fun f hf => ?_⟩
    have hf' : f ∈ [(([97] : List UInt8), k, ([] : List UInt8), ([] : List UInt8), [(L, role, false, (0 : Int), (0 : Int), M, (0 : Int), timed, T)])] := hf
    rw [List.mem_singleton] at hf'
    subst hf'
    exact hF
  have hC' : ∀ f ∈ (oneB k (L, role, false, 0, 0, M, 0, timed, T)).2, SmallC 1000 f := by
    intro f hf
    have hf' : f ∈ [(([97] : List UInt8), k, ([] : List UInt8), ([] : List UInt8), [(L, role, false, (0 : Int), (0 : Int), M, (0 : Int), timed, T)])] := hf
    rw [List.mem_singleton] at hf'
    subst hf'
    exact hC
  rw [isB_eq p hB hC']
  have hlabs : okLabs L = true := by
    rcases hL with rfl | ⟨name, value, rfl, h1, h2⟩
    · rfl
    · have h3 := hlen.2 (name, value) (List.mem_singleton_self _)
      have e1 : okName name = true := h3.2.1
      have e2 : okValue value = true := h3.2.2.1
      unfold okLabs okLab nolab
      simp [e1, e2]
  have hpt : okPt (fun _ => true) k (L, role, false, 0, 0, M, 0, timed, T) = true := by
    unfold okPt
    have e1 : (rolesOf k).contains role = true := by rcases hk with rfl | rfl | rfl | rfl | rfl <;> (subst hr; rfl)
    have e2 : okVal0 k (L, role, false, 0, 0, M, 0, timed, T) = true := by
      unfold okVal0 okDec
      simp only [Bool.and_eq_true, Bool.or_eq_true, decide_eq_true_eq, bne_iff_ne]
      refine ⟨⟨⟨⟨by omega, by omega⟩, by omega⟩, .inl rfl⟩, ?_⟩
      by_cases h2 : k = 2
      · exact .inl (hM0 (.inl h2))
      · right
        have : (k == 2) = false := by simpa using h2
        rw [this]
        rcases hrole with rfl | rfl <;> rfl
    have e3 : okTime (L, role, false, 0, 0, M, 0, timed, T) = true := by
      unfold okTime
      by_cases h4 : p = 4
      · obtain ⟨rfl, rfl⟩ := hT4 h4
        rfl
      · obtain ⟨rfl, t1, t2, _⟩ := hT h4
        simp only [Bool.or_eq_true, Bool.and_eq_true, decide_eq_true_eq]
        exact .inr ⟨⟨trivial, t1⟩, t2⟩
    have e4 : okFree (L, role, false, 0, 0, M, 0, timed, T) = true := by
      unfold okFree
      rcases hrole with rfl | rfl <;> rfl
    show ((rolesOf k).contains role && okLabs L && true && okVal0 k (L, role, false, 0, 0, M, 0, timed, T) && okTime (L, role, false, 0, 0, M, 0, timed, T) && okFree (L, role, false, 0, 0, M, 0, timed, T)) = true
    rw [e1, hlabs, e2, e3, e4]
    rfl
  have hfam : okFam (fun _ => true) (fun _ => true) ([97], k, [], [], [(L, role, false, 0, 0, M, 0, timed, T)]) = true := by
    unfold okFam
    have e1 : isKind k = true := by rcases hk with rfl | rfl | rfl | rfl | rfl <;> rfl
    simp only [e1, List.all_cons, List.all_nil, hpt]
    rfl
  have hcheck : checkB (fun _ => true) (fun _ => true) (oneB k (L, role, false, 0, 0, M, 0, timed, T)) = 0 := by
    unfold checkB oneB
    simp only [List.all_cons, List.all_nil, hfam]
    rfl
  have hpoint : okPoint p (L, role, false, 0, 0, M, 0, timed, T) = true := by
    unfold okPoint
    have e1 : (L.all fun x => okIs p 1 x.1 && okVal p x.2) = true := by
      rw [List.all_eq_true]
      intro x hx
      have := hlen.2 x hx
      rw [this.2.2.2.1, this.2.2.2.2]
      rfl
    simp only [e1, Bool.true_and]
    rcases hp with rfl | rfl | rfl | rfl
    · rfl
    · rfl
    · obtain ⟨h1, h2, h3, h4⟩ := hT (by decide)
      simp only [show ((3 : Int) == 3) = true from rfl, cond_true, isT, h1, h4, h2, h3, decide_true]
      rfl
    · obtain ⟨h1, h2⟩ := hT4 rfl
      have := hM0 (.inr rfl)
      simp only [show ((4 : Int) == 3) = false from rfl, show ((4 : Int) == 4) = true from rfl, cond_true, cond_false, h1, this, decide_true]
      rfl
  have hokF : okF p ([97], k, [], [], [(L, role, false, 0, 0, M, 0, timed, T)]) = (okKinds p).contains k := by
    unfold okF
    simp only [List.all_cons, List.all_nil, hpoint]
    have e1 : okIs p 0 [97] = true := by rcases hp with rfl | rfl | rfl | rfl <;> rfl
    rw [e1]
    have e2 : (bif p == 1 then okUnit [97] [] else ([] : List UInt8) == [] && ([] : List UInt8) == [] && !([(L, role, false, (0 : Int), (0 : Int), M, (0 : Int), timed, T)].length == 0)) = true := by rcases hp with rfl | rfl | rfl | rfl <;> rfl
    rw [e2]
    simp only [Bool.and_true]
  unfold whyB
  rw [hcheck]
  have e5 : (decide (1 ≤ p) && decide (p ≤ 4) && (0 : Int) == 0) = true := by rcases hp with rfl | rfl | rfl | rfl <;> rfl
  rw [if_pos e5]
  show some (whyF p [([97], k, [], [], [(L, role, false, 0, 0, M, 0, timed, T)])]).2 = _
  unfold whyF
  rw [List.find?_cons, hokF]
  cases (okKinds p).contains k <;> rfl


theorem kind_in (k : Int) (h : (Lit.int .u8 k).wf = true) : ∃ r, IntKind.i64.wrap (Int.tmod k 5) = r ∧ (r = 0 ∨ r = 1 ∨ r = 2 ∨ r = 3 ∨ r = 4) := by
  have h1 : (0 : Int) ≤ k ∧ k ≤ 255 := by
    simp only [Lit.wf, Bool.and_eq_true, decide_eq_true_eq] at h
    exact h
  have h2 : Int.tmod k 5 = k % 5 := Int.tmod_eq_emod_of_nonneg h1.1
  refine ⟨k % 5, ?_, by omega⟩
  rw [h2, i64_in _ (by omega)]

theorem proto_in (k : Int) (h : (Lit.int .u8 k).wf = true) : ∃ r, IntKind.i64.wrap (1 + IntKind.i64.wrap (Int.tmod k 4)) = r ∧ (r = 1 ∨ r = 2 ∨ r = 3 ∨ r = 4) := by
  have h1 : (0 : Int) ≤ k ∧ k ≤ 255 := by
    simp only [Lit.wf, Bool.and_eq_true, decide_eq_true_eq] at h
    exact h
  have h2 : Int.tmod k 4 = k % 4 := Int.tmod_eq_emod_of_nonneg h1.1
  refine ⟨1 + k % 4, ?_, by omega⟩
  rw [h2, i64_in (k % 4) (by omega), i64_in _ (by omega)]

theorem known_true : polyglotlaw16_known.f 1000 = some true := by kernel_rfl

theorem classHas_pure (proto kind v : Int) (name value : List UInt8) (ms : Int) (h1 : (Lit.int .u8 proto).wf = true) (h2 : (Lit.int .u8 kind).wf = true) (h3 : (Lit.int .i32 v).wf = true) (h6 : (Lit.int .i32 ms).wf = true) :
    polyglotlaw16_ClassHas.f 1000 proto kind v name value ms = some true := by
  have hv : (-2147483648 : Int) ≤ v ∧ v ≤ 2147483647 := by
    simp only [Lit.wf, Bool.and_eq_true, decide_eq_true_eq] at h3
    exact h3
  have hms : (-2147483648 : Int) ≤ ms ∧ ms ≤ 2147483647 := by
    simp only [Lit.wf, Bool.and_eq_true, decide_eq_true_eq] at h6
    exact h6
  obtain ⟨p, ep, hp⟩ := proto_in proto h1
  obtain ⟨k, ek, hk⟩ := kind_in kind h2
  obtain ⟨m, em, hm⟩ := and_low v
  unfold polyglotlaw16_ClassHas.f
  simp only [known_true, ep, ek, Option.bind_some, Bool.not_true, cond_false, i64_in v (by omega), i64_in ms (by omega), i64_in (1000 * ms) (by omega), em]
  cases hlen : (bif decide ((name.length : Int) > 100) then some true else some (decide ((value.length : Int) > 100)) : Option Bool) with
  | none => cases hh : decide ((name.length : Int) > 100) <;> rw [hh] at hlen <;> cases hlen
  | some b =>
    simp only [Option.bind_some]
    cases b with
    | true => rfl
    | false =>
      simp only [cond_false, is_eq hp (.inr rfl) name (show 64 < 1000 by decide), classValue_eq p value (show 64 < 1000 by decide), kinds_eq, Option.bind_some, polyglotlaw16_one.f]
      -- the labels
      have hLab : ∃ L : List Lab, (L = [] ∨ ∃ n w, L = [(n, w)] ∧ okIs p 1 n = true ∧ okVal p w = true) ∧ ∀ b1 b2 b3 b4 b5 b6 b7 b8, (bif okIs p 1 name then bif okVal p value then some ([(name, value)], b1, b2, b3, b4, b5, b6, b7, b8) else some ([], b1, b2, b3, b4, b5, b6, b7, b8) else some ([], b1, b2, b3, b4, b5, b6, b7, b8) : Option Pt) = some (L, b1, b2, b3, b4, b5, b6, b7, b8) := by
        cases g1 : okIs p 1 name with
        | false => exact ⟨[], .inl rfl, fun _ _ _ _ _ _ _ _ => rfl⟩
        | true =>
          cases g2 : okVal p value with
          | false => exact ⟨[], .inl rfl, fun _ _ _ _ _ _ _ _ => rfl⟩
          | true => exact ⟨[(name, value)], .inr ⟨name, value, rfl, g1, g2⟩, fun _ _ _ _ _ _ _ _ => rfl⟩
      obtain ⟨L, hL, eL⟩ := hLab
      have hT : Int.tmod (1000 * ms) 1000 = 0 := Int.mul_tmod_right ..
      have main : ∀ M : Int, -9223372036854775808 < M → (k = 2 ∨ p = 4 → 0 ≤ M) → class_Is.f 1000 p (oneB k (L, (bif k == 3 || k == 4 then 4 else 0), false, 0, 0, M, 0, !(p == 4), bif p == 4 then 0 else 1000 * ms)) = some ((okKinds p).contains k) := by
        intro M hM hM0
        refine one_is hp hk hL hM hM0 (fun h4 => ?_) (fun h4 => ?_)
        · have : (p == 4) = false := by simpa using h4
          rw [this]
          exact ⟨rfl, by show -1125899906842624 ≤ 1000 * ms; omega, by show 1000 * ms ≤ 1125899906842624; omega, hT⟩
        · subst h4
          exact ⟨rfl, rfl⟩
      have mm := main m (by omega) (fun _ => hm.1)
      have mv := main v (by omega)
      unfold oneB at mm mv
      rcases hp with rfl | rfl | rfl | rfl <;> rcases hk with rfl | rfl | rfl | rfl | rfl <;>
        (simp only [Int.reduceBEq, Int.reduceBNe, cond_true, cond_false, Option.bind_some, eL, Bool.or_false, Bool.false_or, Bool.or_self, Bool.not_true, Bool.not_false] at mm mv ⊢
         first
           | (simp only [mm, Option.bind_some]; rfl)
           | (simp only [mv (fun h => absurd h (by decide)), Option.bind_some]; rfl))

end Go.Proofs.Ytclmdnfkdpdacaa
