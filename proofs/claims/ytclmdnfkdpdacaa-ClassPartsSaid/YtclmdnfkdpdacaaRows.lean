/-
  No cell of these rows narrows 'for every input' (looked for: loops, veiled, ifaces, maps, wideKeys, modest, calm, conditions, laid).
  DERIVED. THE GIVEN ROWS OF THIS SEAT. 3 by the template 'for every input the law returns true; each argument reads behind the call as it read before'; 0 by the template 'total and deterministic' (their statements: YtclmdnfkdpdacaaTotals.lean).
  GIVEN WITH THE SEED: the statements are not yours to turn. If you find one false, say at which input.
  Laid BY PROGRAM, IN A SANDBOX (cutbox-rows.mjs): the forced cells as the released guide's own fill.sh prints them over the translation 0c9aa71511998e1b… (all of the seat's roots in one cut). By AI agents, Wed Nov 11 2026. No macro, syntax, notation, axiom, sorry.
-/
import Derived.Test.YtclmdnfkdpdacaaChecked
import GoSem.Claim
import GoSem.ClaimJoined
import GoSem.ClaimMapViews
import Derived.JoinedTies
import Derived.KernelRfl
namespace Go.Proofs.Ytclmdnfkdpdacaa
/- THE CELL 'sum', in the pinned program and in every row, IS THE sha256 OF THE DUMP (.gsa) THAT YtclmdnfkdpdacaaProg.lean LOADS. Nothing in Lean hashes anything: it is a label: what it is worth is what the hold of that sum in a sandbox is worth. -/
noncomputable def Try.pinned : Pinned := { name := "ytclmdnfkdpdacaa", sum := "0c9aa71511998e1b5222644fe095b58bd6751300304ab9387ebdd0aa11a21052", checked := Try.checked }
namespace Rows
def none {H : Type} : Left H := { results := [], args := [] }

/-- 'polyglotlaw16.ClassHas': WHATEVER THE INPUT: true; the input reads as it did. -/
def classHasSpec : ChangeSpec := { name := "classHas", fn := fun _ => fun
  | [d1, d2, d3, d4, d5, d6] => { results := [.lit (.bool true)], args := [d1, d2, d3, d4, d5, d6] }
  | _ => none }
def classHasRow : OpenClaim := { program := "ytclmdnfkdpdacaa", sum := "0c9aa71511998e1b5222644fe095b58bd6751300304ab9387ebdd0aa11a21052", func := "polyglot/polyglotlaw16.ClassHas", spec := "classHas", inPlace := ["math/bits.Add64", "internal/bytealg.abigen_runtime_cmpstring", "internal/bytealg.IndexByteString", "internal/bytealg.IndexString"], unfollowed := true, recurses := true, named := ["internal/bytealg.MaxLen"], apart := false }
def ClassHasSaid : Prop := classHasRow.holds Try.pinned (OpenSpec.ofChange classHasSpec)

/-- ITS FALSE NEIGHBOUR: 'it returns false'. Refute it at one input. -/
def classHasWrong : ChangeSpec := { name := "classHas", fn := fun _ => fun
  | [d1, d2, d3, d4, d5, d6] => { results := [.lit (.bool false)], args := [d1, d2, d3, d4, d5, d6] }
  | _ => none }
def ClassHasWrongFalsely : Prop := classHasRow.holds Try.pinned (OpenSpec.ofChange classHasWrong)

/-- 'polyglotlaw16.ClassParts': WHATEVER THE INPUT: true; the input reads as it did. -/
def classPartsSpec : ChangeSpec := { name := "classParts", fn := fun _ => fun
  | [d1, d2] => { results := [.lit (.bool true)], args := [d1, d2] }
  | _ => none }
def classPartsRow : OpenClaim := { program := "ytclmdnfkdpdacaa", sum := "0c9aa71511998e1b5222644fe095b58bd6751300304ab9387ebdd0aa11a21052", func := "polyglot/polyglotlaw16.ClassParts", spec := "classParts", inPlace := ["math/bits.Add64", "internal/bytealg.abigen_runtime_cmpstring", "internal/bytealg.IndexByteString", "internal/bytealg.IndexString"], unfollowed := true, recurses := true, named := ["internal/bytealg.MaxLen"], apart := false }
def ClassPartsSaid : Prop := classPartsRow.holds Try.pinned (OpenSpec.ofChange classPartsSpec)

/-- ITS FALSE NEIGHBOUR: 'it returns false'. Refute it at one input. -/
def classPartsWrong : ChangeSpec := { name := "classParts", fn := fun _ => fun
  | [d1, d2] => { results := [.lit (.bool false)], args := [d1, d2] }
  | _ => none }
def ClassPartsWrongFalsely : Prop := classPartsRow.holds Try.pinned (OpenSpec.ofChange classPartsWrong)

/-- 'polyglotlaw16.ClassValues': WHATEVER THE INPUT: true; the input reads as it did. -/
def classValuesSpec : ChangeSpec := { name := "classValues", fn := fun _ => fun
  | [d] => { results := [.lit (.bool true)], args := [d] }
  | _ => none }
def classValuesRow : OpenClaim := { program := "ytclmdnfkdpdacaa", sum := "0c9aa71511998e1b5222644fe095b58bd6751300304ab9387ebdd0aa11a21052", func := "polyglot/polyglotlaw16.ClassValues", spec := "classValues", inPlace := ["math/bits.Add64", "internal/bytealg.abigen_runtime_cmpstring", "internal/bytealg.IndexByteString", "internal/bytealg.IndexString"], unfollowed := true, recurses := true, named := ["internal/bytealg.MaxLen"], apart := false }
def ClassValuesSaid : Prop := classValuesRow.holds Try.pinned (OpenSpec.ofChange classValuesSpec)

/-- ITS FALSE NEIGHBOUR: 'it returns false'. Refute it at one input. -/
def classValuesWrong : ChangeSpec := { name := "classValues", fn := fun _ => fun
  | [d] => { results := [.lit (.bool false)], args := [d] }
  | _ => none }
def ClassValuesWrongFalsely : Prop := classValuesRow.holds Try.pinned (OpenSpec.ofChange classValuesWrong)

/- THE SECOND FORM. 'bulk': how many values and letters a reading holds, each counted each time it is reached (what is shared counts as often as it is met; a slice's spare places count too). A statement '..UptoSaid' is the law's where the arguments, and the package variables that the reading takes, are together of bulk at most 1048576: NARROWER than '..Said'. Prove '..Said' where nothing that the law and all that it calls make is longer than what came in: it says more and counts as full. Else prove '..UptoSaid'. A law counts once. -/
mutual
def uptoBulk {H : Type} : DataW H → Nat
  | .lit (.string bytes) => bytes.length + 1
  | .lit _ => 1
  | .nil => 1
  | .ptr d => uptoBulk d + 1
  | .slice elems spare => uptoBulkAll elems + uptoBulkAll spare + 1
  | .agg parts => uptoBulkAll parts + 1
  | .iface _ d => uptoBulk d + 1
  | .map entries => uptoBulkEntries entries + 1
  | .held _ => 1
def uptoBulkAll {H : Type} : List (DataW H) → Nat
  | [] => 0
  | d :: r => uptoBulk d + uptoBulkAll r
def uptoBulkEntries {H : Type} : List (Lit × DataW H) → Nat
  | [] => 0
  | x :: r => uptoBulkEntry x + uptoBulkEntries r
def uptoBulkEntry {H : Type} : Lit × DataW H → Nat
  | (.string bytes, d) => bytes.length + uptoBulk d + 1
  | (_, d) => uptoBulk d + 1
 end
def uptoSmall : (H : Type) → List (DataW H) → Bool := fun _ ds => decide (uptoBulkAll ds ≤ 1048576)
def OpenSpec.upto (s : _root_.Go.ChangeSpec) : _root_.Go.OpenSpec := { _root_.Go.OpenSpec.ofChange s with cond := some uptoSmall }

/-- 'polyglotlaw16.ClassHas', WHERE WHAT IT READS IS OF BULK AT MOST 1048576: true; the input reads as it did. -/
def classHasUptoRow : OpenClaim := { program := "ytclmdnfkdpdacaa", sum := "0c9aa71511998e1b5222644fe095b58bd6751300304ab9387ebdd0aa11a21052", func := "polyglot/polyglotlaw16.ClassHas", spec := "classHas", inPlace := ["math/bits.Add64", "internal/bytealg.abigen_runtime_cmpstring", "internal/bytealg.IndexByteString", "internal/bytealg.IndexString"], unfollowed := true, recurses := true, named := ["internal/bytealg.MaxLen"], apart := false, narrowed := true }
def ClassHasUptoSaid : Prop := classHasUptoRow.holds Try.pinned (OpenSpec.upto classHasSpec)

/-- 'polyglotlaw16.ClassParts', WHERE WHAT IT READS IS OF BULK AT MOST 1048576: true; the input reads as it did. -/
def classPartsUptoRow : OpenClaim := { program := "ytclmdnfkdpdacaa", sum := "0c9aa71511998e1b5222644fe095b58bd6751300304ab9387ebdd0aa11a21052", func := "polyglot/polyglotlaw16.ClassParts", spec := "classParts", inPlace := ["math/bits.Add64", "internal/bytealg.abigen_runtime_cmpstring", "internal/bytealg.IndexByteString", "internal/bytealg.IndexString"], unfollowed := true, recurses := true, named := ["internal/bytealg.MaxLen"], apart := false, narrowed := true }
def ClassPartsUptoSaid : Prop := classPartsUptoRow.holds Try.pinned (OpenSpec.upto classPartsSpec)

/-- 'polyglotlaw16.ClassValues', WHERE WHAT IT READS IS OF BULK AT MOST 1048576: true; the input reads as it did. -/
def classValuesUptoRow : OpenClaim := { program := "ytclmdnfkdpdacaa", sum := "0c9aa71511998e1b5222644fe095b58bd6751300304ab9387ebdd0aa11a21052", func := "polyglot/polyglotlaw16.ClassValues", spec := "classValues", inPlace := ["math/bits.Add64", "internal/bytealg.abigen_runtime_cmpstring", "internal/bytealg.IndexByteString", "internal/bytealg.IndexString"], unfollowed := true, recurses := true, named := ["internal/bytealg.MaxLen"], apart := false, narrowed := true }
def ClassValuesUptoSaid : Prop := classValuesUptoRow.holds Try.pinned (OpenSpec.upto classValuesSpec)

end Rows
end Go.Proofs.Ytclmdnfkdpdacaa
