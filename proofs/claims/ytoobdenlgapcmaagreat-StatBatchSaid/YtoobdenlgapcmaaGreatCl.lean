/- What slices.Clone does to memory. -/
import Derived.Test.YtoobdenlgapcmaaGreatTab
import Derived.Test.YtoobdenlgapcmaaGreatProg
import Derived.WalkKit
import Derived.Deep.LoopGhost
import Derived.Lib.Walk
import Derived.Lib.SliceRun
import Derived.KernelRfl
set_option linter.unusedVariables false
namespace Go.Proofs.YtoobdenlgapcmaaGreat
open Go Go.Rf Go.Proofs Go.RowKit

theorem cz26 : (zeroV ti49).cells.size = 2 := by rw [zeroV_cells tok49]; rfl

set_option maxHeartbeats 2000000 in
set_option maxRecDepth 100000 in
theorem cn26 (k c : Nat) (w : World) : Calls Tryz.prog 26 #[.slice none k c] w fun r w' => r = .returned (.slice none 0 0) ∧ w' = w := by
  have t22 : Tryz.prog.underlying 36 = some (.slice 49) := by kernel_rfl
  have q22 : ∀ (w : World) (a : Option Addr) (n c n' c' : Nat), (binOp .eql 36 (.slice a n c) (.slice none n' c')).run Tryz.prog w = .ok (.bool a.isNone) w := fun w a n c n' c' => Lib.run_eql_slice_nil w _ _ a n c n' c' t22
  go_enter Tryz.func26, Tryz.ntmps26
  go_wp2
  go_ret
  exact ⟨rfl, rfl⟩

set_option maxHeartbeats 2000000 in
set_option maxRecDepth 100000 in
theorem cr26 (a : Addr) (k c : Nat) (news : List Value) (w : World) (hl : news.length = k * 2) (hn : k ≤ maxLen) (hbig : k * 32 ≤ 140737488355328) (hc : ∀ (j : Nat) u, news[j]? = some u → w.cell? (a.add j) = some u) (h1 : ∀ u ∈ news, u.oneCell' = true) :
    Calls Tryz.prog 26 #[.slice (some a) k c] w fun r w' => ∃ v', r = .returned v' ∧ w'.ownsRow w.heap.size 49 2 v' k news ∧ Below w.heap.size w w' := by
  obtain ⟨i0, hi, hz1, hz2, hz0⟩ := tok49.info
  have t22 : Tryz.prog.underlying 36 = some (.slice 49) := by kernel_rfl
  have q22 : ∀ (w : World) (a : Option Addr) (n c n' c' : Nat), (binOp .eql 36 (.slice a n c) (.slice none n' c')).run Tryz.prog w = .ok (.bool a.isNone) w := fun w a n c n' c' => Lib.run_eql_slice_nil w _ _ a n c n' c' t22
  have u22 : ∀ w, Sem.run Tryz.prog (underlying 36) w = .ok (TypeDesc.slice 49) w := run_underlying t22
  have hA : Aside (∀ (j : Nat) u, news[j]? = some u → w.cell? (a.add j) = some u) := hc
  clear hc
  go_enter Tryz.func26, Tryz.ntmps26
  go_wp2_with (at_builtin; refine wpList_append_own _ rfl _ _ 36 rfl w.heap.size 49 i0 (zeroV ti49) 2 32 t22 hi hz0 hz1 hz2 cz26 (by decide) _ _ _ rfl (World.ownsRow_made w #[] 0 (Nat.le_refl _) (Nat.zero_le _) (by simp)) a k c news rfl ?qc1 ?qc2 ?qc3 ?qc4 ?qc5 ?qc6 ?_)
  case qc1 => exact hl
  case qc2 =>
    intro j u hj
    exact Lib.cell?_alloc_some _ (hA.out j u hj)
  case qc3 => exact h1
  case qc4 => rw [Nat.zero_add]; exact hn
  case qc5 => rw [Nat.zero_add]; exact hbig
  case qc6 => simp
  intro v' w1 hown hgrow hnil
  go_wp2
  go_ret
  refine ⟨v', rfl, by simpa using hown, ?_⟩
  exact ((Below.refl _ w).alloc (Nat.le_refl _) _).grown hgrow (by simp) (by intro k hk; simp [Value.ownBlock] at hk; omega)

theorem sp26 {tt : TT} [LowTab] : SpOK Tryz.prog tt 26 (.clone 49 (.pair .str .str) 32) := sp_clone ⟨(body_ok Tryz.func26 (by kernel_rfl)).found, cn26, cr26⟩

end Go.Proofs.YtoobdenlgapcmaaGreat
