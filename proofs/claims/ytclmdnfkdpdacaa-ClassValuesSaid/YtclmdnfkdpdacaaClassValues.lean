/- Whatever the byte: ClassValues answers true and leaves memory as it was. -/
import Derived.Test.YtclmdnfkdpdacaaFnC
import Derived.Test.YtclmdnfkdpdacaaRows
import Derived.WalkKit
import Derived.ProofKit
import Derived.SizedLaws
import Derived.OpenShut
namespace Go.Proofs.Ytclmdnfkdpdacaa.ClassValues
open Go.ChangeShapes Go.WideShapes Go.ChangeAt Go.RowKit

theorem every : ((List.range 256).all fun n => polyglotlaw16_ClassValues.f 100 (n : Int) == some true) = true := by kernel_rfl

theorem pure (c : Int) (h : (Lit.int .u8 c).wf = true) : polyglotlaw16_ClassValues.f 100 c = some true := by
  have h1 : (0 : Int) ≤ c ∧ c ≤ 255 := by
    simp only [Lit.wf, Bool.and_eq_true, decide_eq_true_eq] at h
    exact h
  have h2 := List.all_eq_true.1 every c.toNat (List.mem_range.2 (by omega))
  rw [Int.toNat_of_nonneg h1.1] at h2
  simpa using h2

theorem own : ownKnob Try.prog.godebug = none := by kernel_rfl

set_option maxRecDepth 100000 in
theorem lifted (os : Os) (started : os.Started) (H : Type) (enc : TypeId × Value → H) :
    ReturnsInHanded {} Try.checked os 5 .any (Rows.classValuesSpec.pre6 enc Try.prog Try.f5 Rows.classValuesRow.domain false) (Rows.classValuesSpec.post enc Try.prog Try.f5 false true false false) := by
  refine returnsInHanded_of_change_sized (C := Try.checked) own started (by kernel_rfl) Try.func5
    (ChangeSpec.witness6 (enc := enc) (C := Try.checked) false ⟨#[], #[.int .u8 0], []⟩ 8 (by kernel_rfl) (by kernel_rfl) (by kernel_rfl) (by kernel_rfl)) ?_
  intro W base args ds gs before hval0 hW hcnd hsz0 _
  have hsz : (DataW.weightsEach Try.prog (Try.f5.params.toList ++ Rows.classValuesSpec.plain.varTypes Try.prog) (ds ++ gs)).all (· ≤ reachBytes) = true := hsz0
  have hval : ∀ (j : Nat) t v, Try.f5.params[j]? = some t → args[j]? = some v → Value.okWide Try.prog W .any base t v := hval0
  have hW' := hW
  obtain ⟨p, q, hA0, hV, rfl, hfz, hnd⟩ := hW
  have hA : DataW.TrodAll enc Try.prog W 0 (fun _ => true) true Try.f5.params.toList args.toList ds p := hA0
  rw [Try.params5] at hA hval hsz
  obtain ⟨v0, vs0, d0, ds0, p0, q0, hargs, rfl, rfl, h0, r0⟩ := trodAll_cons hA
  obtain ⟨rfl, rfl, rfl⟩ := trodAll_nil r0
  obtain rfl : args = #[v0] := by cases args; simp_all
  obtain ⟨rfl, rfl⟩ := trodVars_none hV
  obtain ⟨a0, rfl, rfl, rfl, w0⟩ := open_int Try.underlying5 (hval 0 5 v0 rfl rfl) h0
  clear hA0 hval0 hsz0 hsz
  refine (Go.Rf.law_calls (polyglotlaw16_ClassValues.fok 100) (pure a0 w0) (W := W) (vs := [.int .u8 a0]) (Go.Rf.rss_cons (Go.Rf.rsv_of_int _ _) Go.Rf.rss_nil)).mono fun e W' ⟨he, bel⟩ => ?_
  subst he
  exact ⟨_, rfl, _, _, _, [], _, [], hW', trodAll_mk1 (shut_bool Try.underlying4 _), (trodAll_cons_mk (shut_int Try.underlying5 w0) trodAll_mk0), rfl, bel.frame _, fun h => by cases h⟩

theorem over : Rows.classValuesRow.holds Try.pinned (OpenSpec.ofChange Rows.classValuesSpec) :=
  OpenClaim.holds_of_wide 5 Try.f5 rfl rfl rfl rfl rfl rfl rfl ⟨rfl, rfl, rfl, rfl, rfl⟩ rfl rfl rfl rfl rfl (by kernel_rfl) Try.func5 (by kernel_rfl)
    (of_decide_eq_true (by kernel_rfl)) (by unfold Func.isWrapper; first | (rw [if_pos (by decide +kernel)]; kernel_rfl) | (rw [if_neg (by decide +kernel)]; exact ⟨rfl, rfl⟩))
    (fun os started H enc _ => lifted os started H enc)

end Go.Proofs.Ytclmdnfkdpdacaa.ClassValues
namespace Go.Proofs.Ytclmdnfkdpdacaa

theorem classValues_holds : Rows.ClassValuesSaid := ClassValues.over

end Go.Proofs.Ytclmdnfkdpdacaa
