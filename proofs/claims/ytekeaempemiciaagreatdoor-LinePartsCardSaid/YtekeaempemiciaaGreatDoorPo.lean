/- A batch that came in: its numbers are numbers of 64 bits. -/
import Derived.Test.YtekeaempemiciaaGreatDoorRfF
import Derived.Test.YtekeaempemiciaaGreatDoorPn
set_option linter.unusedSimpArgs false
set_option linter.unusedVariables false
namespace Go.Proofs.YtekeaempemiciaaGreatDoor
open Go Go.Rf Go.Proofs Go.RowKit

def tPt : Ty := .pair (.sl (.pair .str .str)) (.pair (.int .i64) (.pair .bool (.pair (.int .i64) (.pair (.int .i64) (.pair (.int .i64) (.pair (.int .i64) (.pair .bool (.int .i64))))))))
def tBat : Ty := .pair .str (.sl (.pair .str (.pair (.int .i64) (.pair .str (.pair .str (.sl tPt))))))

theorem bat_in {b : Bat} (h : WfT tBat b) : BatIn b := by
  intro f hf p hp
  have h1 := h.2.2 f hf
  have h2 := h1.2.2.2.2.2 p hp
  have h3 : (Lit.int .i64 p.2.2.2.1).wf = true := h2.2.2.2.1
  simp only [Lit.wf, Bool.and_eq_true, decide_eq_true_eq] at h3
  exact h3

end Go.Proofs.YtekeaempemiciaaGreatDoor
