/- LineParts, in plain Lean. -/
import Derived.Test.YtekeaempemiciaaGreatDoorLh
set_option linter.unusedSimpArgs false
set_option linter.unusedVariables false
namespace Go.Proofs.YtekeaempemiciaaGreatDoor
open Go Go.Rf Go.Proofs Go.RowKit
open Go.IntWalk (i64_in i32_in u8_in u64_in)

/-- One point of a family, alone. -/
def alone (f : Fam) (p : Pt) : Bat := ([116], [(f.1, f.2.1, f.2.2.1, f.2.2.2.1, [p])])

theorem alone_fit {b : Bat} (hb : Fit b) {f : Fam} (hf : f ∈ b.2) {p : Pt} (hp : p ∈ f.2.2.2.2) : Fit (alone f p) := by
  refine ⟨⟨by show 1 ≤ 40; omega, by show 1 ≤ 100; omega, by show 1 + 0 ≤ 130; omega, fun g hg => ?_⟩, fun g hg q hq => ?_, fun g hg q hq => ?_⟩
  · rw [List.mem_singleton.1 hg]
    have h5 := hb.nar.2.2.2 f hf
    unfold famW at h5 ⊢
    simp only [Bool.and_eq_true, decide_eq_true_eq, List.all_eq_true] at h5 ⊢
    refine ⟨⟨⟨⟨by simp, h5.1.1.1.2⟩, h5.1.1.2⟩, h5.1.2⟩, fun q hq => ?_⟩
    rw [List.mem_singleton.1 hq]
    exact h5.2 p hp
  · rw [List.mem_singleton.1 hg] at hq
    rw [List.mem_singleton.1 hq]
    exact hb.ins f hf p hp
  · rw [List.mem_singleton.1 hg] at hq
    rw [List.mem_singleton.1 hq]
    exact hb.val f hf p hp

theorem whyF_all {pr : Int} {l : List Fam} : (whyF pr l).2 = l.all (okF pr) := by
  unfold whyF
  induction l with
  | nil => rfl
  | cons a l ih =>
    rw [List.find?_cons, List.all_cons]
    cases okF pr a with
    | true => simpa using ih
    | false => rfl

theorem alone_class {b : Bat} (hw : (whyB okBound riseP 2 b).2 = true) {f : Fam} (hf : f ∈ b.2) {p : Pt} (hp : p ∈ f.2.2.2.2) : (whyB okBound riseP 2 (alone f p)).2 = true := by
  have hc := why_check hw
  have hF : okF 2 f = true := by
    unfold whyB at hw
    rw [hc] at hw
    have : (whyF 2 b.2).2 = true := hw
    rw [whyF_all, List.all_eq_true] at this
    exact this f hf
  have hP := check_pt hc hf hp
  have hfam : okFam okBound riseP (f.1, f.2.1, f.2.2.1, f.2.2.2.1, [p]) = true := by
    unfold checkB at hc
    have h1 : (okTenant b.1 && b.2.all (okFam okBound riseP) && riseF b.2) = true := by
      cases hh : (okTenant b.1 && b.2.all (okFam okBound riseP) && riseF b.2) with
      | true => rfl
      | false => rw [hh] at hc; cases hc
    simp only [Bool.and_eq_true, List.all_eq_true] at h1
    have h2 := h1.1.2 f hf
    unfold okFam at h2 ⊢
    simp only [Bool.and_eq_true] at h2 ⊢
    exact ⟨⟨h2.1.1, by simp [hP]⟩, rfl⟩
  have hF2 : okF 2 (f.1, f.2.1, f.2.2.1, f.2.2.2.1, [p]) = true := by
    unfold okF at hF ⊢
    simp only [Bool.and_eq_true, List.all_eq_true] at hF ⊢
    refine ⟨⟨hF.1.1, ?_⟩, fun q hq => ?_⟩
    · have := hF.1.2
      simp only [show ((2 : Int) == 1) = false from rfl, cond_false, Bool.and_eq_true] at this ⊢
      exact ⟨this.1, rfl⟩
    · rw [List.mem_singleton.1 hq]
      exact hF.2 p hp
  have hcheck : checkB okBound riseP (alone f p) = 0 := by
    unfold checkB alone
    have e1 : (okTenant [116] && [(f.1, f.2.1, f.2.2.1, f.2.2.2.1, [p])].all (okFam okBound riseP) && riseF [(f.1, f.2.1, f.2.2.1, f.2.2.2.1, [p])]) = true := by
      rw [show okTenant [116] = true by kernel_rfl]
      simp only [List.all_cons, List.all_nil, hfam]
      rfl
    simp only [e1, if_true]
    rfl
  unfold whyB
  rw [hcheck]
  show (whyF 2 (alone f p).2).2 = true
  rw [whyF_all]
  unfold alone
  simp only [List.all_cons, List.all_nil, hF2]
  rfl

theorem u4 (unit : Int) (h : (Lit.int .u8 unit).wf = true) : 0 ≤ unit ∧ unit ≤ 255 := by
  simp only [Lit.wf, Bool.and_eq_true, decide_eq_true_eq] at h
  exact h

theorem alone_text {b : Bat} (hw : (whyB okBound riseP 2 b).2 = true) {f : Fam} (hf : f ∈ b.2) {p : Pt} (hp : p ∈ f.2.2.2.2) {u : Int} (hok : (lineS (hd f) p u).2 = true) (hl : (lineS (hd f) p u).1.length + 1 ≤ 4000) :
    lineText (alone f p) u = ((lineS (hd f) p u).1 ++ [10], 0) := by
  unfold lineText
  rw [alone_class hw hf hp]
  have e : (alone f p).2.flatMap (famL u) = [lineS (hd f) p u] := rfl
  rw [e]
  have e1 : okT [lineS (hd f) p u] = true := by simp [okT, hok]
  have e2 : flatT [lineS (hd f) p u] = (lineS (hd f) p u).1 ++ [10] := by simp [flatT]
  rw [e1, e2]
  simp only [if_true]
  unfold bound
  rw [if_neg (by rw [List.length_append, List.length_singleton]; omega)]

theorem lineParts_pure (b : Bat) (unit : Int) (hi : BatIn b) (hv : BatVal b) : polyglotlaw22_LineParts.f 1000 b unit = some true := by
  obtain ⟨w, e1, hw⟩ := wide_eq (K := 1000) (b := b) (by omega)
  unfold polyglotlaw22_LineParts.f
  simp only [known22, Option.bind_some, Bool.not_true, cond_false, e1]
  cases w with
  | true => rfl
  | false =>
    have hb : Fit b := ⟨hw rfl, hi, hv⟩
    generalize IntKind.i64.wrap (Int.tmod unit 4) = u
    simp only [cond_false, printP_eq hb, Option.bind_some]
    by_cases hz : (lineText b u).2 = 0
    · rw [hz]
      simp only [show ((0 : Int) != 0) = false from rfl, cond_false]
      -- the text
      have hcl : (whyB okBound riseP 2 b).2 = true := by
        cases h : (whyB okBound riseP 2 b).2 with
        | true => rfl
        | false => unfold lineText at hz; rw [h] at hz; cases hz
      have hok : okT (b.2.flatMap (famL u)) = true := by
        cases h : okT (b.2.flatMap (famL u)) with
        | true => rfl
        | false => unfold lineText at hz; rw [hcl, h] at hz; cases hz
      have hT : lineText b u = bound (flatT (b.2.flatMap (famL u))) := by unfold lineText; rw [hcl, hok]; rfl
      have hlen : (flatT (b.2.flatMap (famL u))).length ≤ 4000 := by
        by_cases h : (flatT (b.2.flatMap (famL u))).length > 4000
        · rw [hT] at hz; unfold bound at hz; rw [if_pos h] at hz; cases hz
        · omega
      have hT1 : (lineText b u).1 = flatT (b.2.flatMap (famL u)) := by
        rw [hT]; unfold bound; rw [if_neg (by omega)]
      rw [hT1]
      have hc := why_check hcl
      refine of_ex_eq ?_
      refine ex_bind (Q := fun (r : (List UInt8) ⊕ Bool) => r = .inl (flatT (b.2.flatMap (famL u)))) (loop_rel (K := 1000) (fun (s : List UInt8) t => (s, t)) b.2 (fun i s => s = flatT ((b.2.take i).flatMap (famL u))) _
        (fun i f s hf hI => ?_) (fun s hI => ?_) (by have := hb.nar.1; omega) (s0 := []) rfl) (fun r hr => ?_)
      · have hi := lt_at hf
        have hm := List.mem_of_getElem? hf
        have hpts := fam_pts hb hm
        have e0 : decide ((i : Int) < (b.2.length : Int)) = true := by simpa using hi
        have hnf := hb.nar.1
        simp only [e0, idx_nat hi, Int.toNat_natCast, get_at hf, cond_true]
        have hbound := len_bound hb hc u i
        rw [← hI] at hbound
        refine ex_bind (Q := fun (r : (List UInt8) ⊕ Bool) => r = .inl (s ++ flatT (famL u f))) (loop_rel (K := 1000) (fun (s : List UInt8) t => (s, t)) f.2.2.2.2 (fun k o => o = s ++ flatT ((f.2.2.2.2.take k).map fun p => lineS (hd f) p u)) _
          (fun k p o hp hI => ?_) (fun o hI => ?_) (by omega) (s0 := s) (by simp [flatT])) (fun r hr => ?_)
        · have hk := lt_at hp
          have hmp := List.mem_of_getElem? hp
          have e1 : decide ((k : Int) < (f.2.2.2.2.length : Int)) = true := by simpa using hk
          have b1 : decide ((0 : Int) ≤ (k : Int)) = true := by simp
          have b2 : decide ((k : Int) ≤ ((k + 1 : Nat) : Int)) = true := by simp only [decide_eq_true_eq]; omega
          have b3 : decide (((k + 1 : Nat) : Int) ≤ (f.2.2.2.2.length : Int)) = true := by simp only [decide_eq_true_eq]; omega
          have hcut : (f.2.2.2.2.take (k + 1)).drop k = [p] := by
            rw [take_snoc hp, List.drop_append]
            simp [show k ≤ f.2.2.2.2.length by omega]
          have hok1 : (lineS (hd f) p u).2 = true := by
            unfold okT at hok
            rw [List.all_eq_true] at hok
            exact hok _ (List.mem_flatMap.2 ⟨f, hm, List.mem_map.2 ⟨p, hmp, rfl⟩⟩)
          have hll := lineS_len (okL_of hb hc hm hmp) u
          have hl1 : (lineS (hd f) p u).1.length + 1 ≤ 4000 := by
            have hmem : lineS (hd f) p u ∈ b.2.flatMap (famL u) := List.mem_flatMap.2 ⟨f, hm, List.mem_map.2 ⟨p, hmp, rfl⟩⟩
            have : ∀ l : List (List UInt8 × Bool), lineS (hd f) p u ∈ l → (lineS (hd f) p u).1.length + 1 ≤ (flatT l).length := by
              intro l
              induction l with
              | nil => intro h; cases h
              | cons a l ih =>
                intro h
                have e : flatT (a :: l) = (a.1 ++ [10]) ++ flatT l := rfl
                rw [e, List.length_append, List.length_append, List.length_singleton]
                rcases List.mem_cons.1 h with rfl | h
                · omega
                · have := ih h
                  omega
            have := this _ hmem
            omega
          have ht := alone_text hcl hm hmp hok1 hl1
          have hpr : lineprint_Print.f 1000 (alone f p) u = some ((lineS (hd f) p u).1 ++ [10], 0) := by rw [printP_eq (alone_fit hb hm hmp), ht]
          have holen : o.length ≤ 1400000 := by
            have h1 := famL_len hb hc u hm k
            have h2 := Nat.mul_le_mul_right 5201 hpts
            rw [hI, List.length_append]
            omega
          have l1 : decide (o.length + ((lineS (hd f) p u).1 ++ [10]).length ≤ LIM) = true := lim (by rw [List.length_append, List.length_singleton]; omega)
          have hba : polyglothelp_Batch.f 1000 [(f.1, f.2.1, f.2.2.1, f.2.2.2.1, [p])] = some (alone f p) := rfl
          simp only [e1, cond_true, step_nat (show k < 9000000000000000000 by omega), b1, b2, b3, Bool.and_self, Int.toNat_natCast, hcut, hba, Option.bind_some, hpr, bne_self_eq_false, cond_false, l1]
          refine ⟨_, rfl, _, rfl, ?_⟩
          show o ++ ((lineS (hd f) p u).1 ++ [10]) = s ++ flatT ((f.2.2.2.2.take (k + 1)).map fun p => lineS (hd f) p u)
          rw [take_snoc hp, List.map_append, flatT_app, ← List.append_assoc s, ← hI]
          simp [flatT]
        · have e1 : decide ((f.2.2.2.2.length : Int) < (f.2.2.2.2.length : Int)) = false := by simp
          simp only [e1, cond_false]
          rw [List.take_length] at hI
          exact ⟨_, rfl, by rw [hI]; rfl⟩
        · subst hr
          simp only [step_nat (show i < 9000000000000000000 by omega)]
          exact ⟨_, rfl, _, rfl, by show s ++ flatT (famL u f) = flatT ((b.2.take (i + 1)).flatMap (famL u)); rw [take_snoc hf, List.flatMap_append, flatT_app, List.flatMap_singleton, hI]⟩
      · rw [List.take_length] at hI
        have e1 : decide ((b.2.length : Int) < (b.2.length : Int)) = false := by simp
        simp only [e1, cond_false]
        exact ⟨_, rfl, by rw [hI]⟩
      · subst hr
        exact ⟨_, rfl, by simp⟩
    · have : ((lineText b u).2 != 0) = true := by rw [bne_iff_ne]; exact hz
      rw [this]
      rfl

end Go.Proofs.YtekeaempemiciaaGreatDoor
