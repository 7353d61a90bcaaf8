/- What strings.Builder's copyCheck and String do to memory. -/
import Derived.Test.YtoobdenlgapcmaaGreatRfE
import Derived.Test.YtoobdenlgapcmaaGreatProg
import Derived.WalkKit
import Derived.Lib.Builder
import Derived.Lib.Walk
import Derived.Laws.Externs
import Derived.Laws.IdiomCopy
import Derived.KernelRfl
set_option linter.unusedVariables false
namespace Go.Proofs.YtoobdenlgapcmaaGreat
open Go Go.Rf Go.Proofs Go.RowKit

def ccTs : List (TypeId × Nat) := [(80, 4)]
theorem ccLies : (ccTs.all fun p => liesAt Tryz.prog Tryz.prog.depth p.1 (p.2 / Tryz.prog.cellsOf p.1) 0 78 1) = true := by kernel_rfl

set_option maxHeartbeats 1000000 in
set_option maxRecDepth 100000 in
theorem ccUsed (w : World) (b : Nat) (h0 : w.cell? ⟨b, 0, none⟩ = some (.pointer (some ⟨b, 0, none⟩))) :
    Calls Tryz.prog 70 #[.pointer (some ⟨b, 0, none⟩)] w fun e w' => e = .returned (.tuple #[]) ∧ w' = w := by
  obtain ⟨j, hj, _⟩ : ∃ j, Tryz.prog.info? 78 = some j ∧ j.size = 2 := Option.map_eq_some_iff.1 (by kernel_rfl)
  have hu : Tryz.prog.underlying 75 = some (.pointer 78) := by kernel_rfl
  go_enter Tryz.func70, Tryz.ntmps70
  go_wp2
  rw [Lib.run_neq_ptr_same w _ hu hj]
  go_wp2
  go_end0
  exact ⟨rfl, rfl⟩

set_option maxHeartbeats 1000000 in
set_option maxRecDepth 100000 in
theorem ccFresh (w : World) (b T n : Nat) (hm : (T, n) ∈ ccTs) (h0 : w.cell? ⟨b, 0, none⟩ = some (.pointer none)) (hsh : w.shape? b = some (T, n)) (hn : 0 < n) (hfz : w.frozen? ⟨b, 0, none⟩ = false) :
    Calls Tryz.prog 70 #[.pointer (some ⟨b, 0, none⟩)] w fun e w' => e = .returned (.tuple #[]) ∧ w' = w.setCell ⟨b, 0, none⟩ (.pointer (some ⟨b, 0, none⟩)) := by
  have hlies : liesAt Tryz.prog Tryz.prog.depth T (n / Tryz.prog.cellsOf T) 0 78 1 = true := List.all_eq_true.1 ccLies (T, n) hm
  clear hm
  obtain ⟨j, hj, hjs⟩ : ∃ j, Tryz.prog.info? 78 = some j ∧ j.size = 2 := Option.map_eq_some_iff.1 (by kernel_rfl)
  have hu : Tryz.prog.underlying 75 = some (.pointer 78) := by kernel_rfl
  have hv : Tryz.prog.underlying 135 = some .unsafePointer := by kernel_rfl
  go_enter Tryz.func70, Tryz.ntmps70
  go_wp2
  rw [Lib.run_to_unsafe w ⟨b, 0, none⟩ hu hv hj (by rw [hjs]; decide) hsh hn]
  simp only [Result.andThen]
  rw [Oper.upon_value]
  go_wp2
  rw [run_callFunc_extern Tryz.func91 (by kernel_rfl) (by kernel_rfl) (by kernel_rfl) (e := Extern.AbiNoEscape.same) (by kernel_rfl)]
  rw [Lib.run_noEscape]
  simp only [Result.andThen]
  rw [Oper.upon_value]
  go_wp2
  rw [Lib.run_from_unsafe w ⟨b, 0, none⟩ hv hu hj hsh hlies]
  simp only [Result.andThen]
  rw [Oper.upon_value]
  go_wp2
  go_end0
  exact ⟨rfl, rfl⟩

theorem sp70 {tt : TT} [LowTab] : SpOK Tryz.prog tt 70 (.copyCheck ccTs) := sp_copyCheck ⟨(body_ok Tryz.func70 (by kernel_rfl)).found, ccUsed, ccFresh⟩

theorem usNone (W : World) (q : Option Addr) : (Builtin.unsafeString_ #[119, 3] 9 #[.pointer q, .int .i64 0]).run Tryz.prog W = .ok (.string .empty) W := Lib.run_unsafeString_none W _ _ _ q

set_option maxHeartbeats 2000000 in
set_option maxRecDepth 100000 in
theorem stNone (w : World) (b : Nat) (c1 : w.cell? ⟨b, 1, none⟩ = some (.slice none 0 0)) :
    Calls Tryz.prog 42 #[.pointer (some ⟨b, 0, none⟩)] w fun e w' => e = .returned (.string ⟨#[]⟩) ∧ Below w.heap.size w w' := by
  have hUS := usNone
  have c2 : w.drew.cell? ⟨b, 1, none⟩ = some (.slice none 0 0) := c1
  have hSD : (Builtin.unsafeSliceData_ #[76] 119 #[.slice none 0 0]).run Tryz.prog w.drew = .ok (.pointer none) w.drew := rfl
  go_enter Tryz.func42, Tryz.ntmps42
  go_wp2
  go_region
  all_goals (go_wp2; go_ret; exact ⟨rfl, Below.drew (Below.refl _ w)⟩)

set_option maxHeartbeats 2000000 in
set_option maxRecDepth 100000 in
theorem stRoom (w : World) (b g c : Nat) (hc0 : c ≠ 0) (c1 : w.cell? ⟨b, 1, none⟩ = some (.slice (some ⟨g, 0, none⟩) 0 c)) :
    Calls Tryz.prog 42 #[.pointer (some ⟨b, 0, none⟩)] w fun e w' => e = .returned (.string ⟨#[]⟩) ∧ Below w.heap.size w w' := by
  have hUS := usNone
  have c2 : w.drew.cell? ⟨b, 1, none⟩ = some (.slice (some ⟨g, 0, none⟩) 0 c) := c1
  have hSD : (Builtin.unsafeSliceData_ #[76] 119 #[.slice (some ⟨g, 0, none⟩) 0 c]).run Tryz.prog w.drew = .ok (.pointer (some ⟨g, 0, none⟩)) w.drew := Lib.run_unsafeSliceData_row _ _ _ _ _ _ hc0
  clear hc0
  go_enter Tryz.func42, Tryz.ntmps42
  go_wp2
  go_region
  all_goals (go_wp2; go_ret; exact ⟨rfl, Below.drew (Below.refl _ w)⟩)

theorem sdZero (w : World) (a : Addr) (ha : a.block < w.heap.size) : ∃ p w', (Builtin.unsafeSliceData_ #[76] 119 #[.slice (some a) 0 0]).run Tryz.prog w.drew = .ok (.pointer p) w' ∧ (w' = w.drew ∨ w' = (w.alloc (.view a 5)).drew) :=
  sd_zero #[76] 119 5 (by kernel_rfl) w.drew a ha

set_option maxHeartbeats 2000000 in
set_option maxRecDepth 100000 in
theorem stZero (w : World) (b : Nat) (a : Addr) (c1 : w.cell? ⟨b, 1, none⟩ = some (.slice (some a) 0 0)) (ha : a.block < w.heap.size) :
    Calls Tryz.prog 42 #[.pointer (some ⟨b, 0, none⟩)] w fun e w' => e = .returned (.string ⟨#[]⟩) ∧ Below w.heap.size w w' := by
  have hUS := usNone
  obtain ⟨p, w1, hSD, hw⟩ := sdZero w a ha
  have hlt : b < w.heap.size := World.block_lt_of_cell? _ _ c1
  rcases hw with rfl | rfl
  · have c2 : w.drew.cell? ⟨b, 1, none⟩ = some (.slice (some a) 0 0) := c1
    go_enter Tryz.func42, Tryz.ntmps42
    go_wp2
    go_region
    all_goals (go_wp2; go_ret; exact ⟨rfl, Below.drew (Below.refl _ w)⟩)
  · have c2 : w.drew.cell? ⟨b, 1, none⟩ = some (.slice (some a) 0 0) := c1
    have c3 : (w.alloc (.view a 5)).drew.cell? ⟨b, 1, none⟩ = some (.slice (some a) 0 0) := (World.cell?_of_block (a := ⟨b, 1, none⟩) (RowKit.Below.heap_alloc w _ b hlt)).trans c1
    have c4 : (w.alloc (.view a 5)).cell? ⟨b, 1, none⟩ = some (.slice (some a) 0 0) := c3
    go_enter Tryz.func42, Tryz.ntmps42
    go_wp2
    go_region
    all_goals (go_wp2; go_ret; exact ⟨rfl, (Below.drew (Below.refl _ w)).alloc (Nat.le_refl _) _⟩)

set_option maxHeartbeats 2000000 in
set_option maxRecDepth 100000 in
theorem stRow (w : World) (b g c : Nat) (cur : Array Value) (l : List Int) (h0 : l ≠ []) (c1 : w.cell? ⟨b, 1, none⟩ = some (.slice (some ⟨g, 0, none⟩) l.length c)) (hg : w.heap[g]? = some (.cells cur 5 (0, 0))) (hc : l.length ≤ c) (hcm : c ≤ maxLen) (hcs : l.length ≤ cur.size)
    (hcell : ∀ (j : Nat) (x : Int), l[j]? = some x → cur[j]? = some (Value.int .u8 x)) :
    Calls Tryz.prog 42 #[.pointer (some ⟨b, 0, none⟩)] w fun e w' => e = .returned (.string ⟨(bytesOf l).toArray⟩) ∧ Near g w w' := by
  have hl0 : l.length ≠ 0 := by simpa using h0
  have c2 : w.drew.cell? ⟨b, 1, none⟩ = some (.slice (some ⟨g, 0, none⟩) l.length c) := c1
  have hSD : (Builtin.unsafeSliceData_ #[76] 119 #[.slice (some ⟨g, 0, none⟩) l.length c]).run Tryz.prog w.drew = .ok (.pointer (some ⟨g, 0, none⟩)) w.drew := Lib.run_unsafeSliceData_row _ _ _ _ _ _ (by omega)
  have hUS : (Builtin.unsafeString_ #[119, 3] 9 #[.pointer (some ⟨g, 0, none⟩), .int .i64 l.length]).run Tryz.prog w.drew = .ok (.string ⟨(bytesOf l).toArray⟩) (w.drew.freeze ⟨g, 0, none⟩ l.length) := by
    refine us_row w.drew 119 3 9 5 (by kernel_rfl) (by kernel_rfl) g cur.size (by have hg' : w.drew.heap[g]? = some (.cells cur 5 (0, 0)) := hg; simp [World.shape?, hg']) l h0 hcs (by unfold maxLen at hcm; omega) ?_
    intro j x hx
    have hg' : w.drew.heap[g]? = some (.cells cur 5 (0, 0)) := hg
    rw [add_plain]
    simp [World.cell?, hg', hcell j x hx]
  go_enter Tryz.func42, Tryz.ntmps42
  go_wp2
  go_region
  all_goals (go_wp2; go_ret; exact ⟨rfl, freeze_near w ⟨g, 0, none⟩ _⟩)

theorem sp42 {tt : TT} [LowTab] : SpOK Tryz.prog tt 42 (.text 5) := sp_text ⟨(body_ok Tryz.func42 (by kernel_rfl)).found, stNone, stZero, stRoom, stRow⟩
end Go.Proofs.YtoobdenlgapcmaaGreat
