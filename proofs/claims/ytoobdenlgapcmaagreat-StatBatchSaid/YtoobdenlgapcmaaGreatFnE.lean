/- What each function of the program comes to, and that it does, part 5. -/
import Derived.Test.YtoobdenlgapcmaaGreatFnD
import Derived.KernelRfl
set_option linter.unusedVariables false
namespace Go.Proofs.YtoobdenlgapcmaaGreat
open Go Go.Rf Go.Proofs Go.RowKit

noncomputable def polyglotlaw27_StatBatch.f (K : Nat) (b0 : List UInt8 × List (List UInt8 × Int × List UInt8 × List UInt8 × List (List (List UInt8 × List UInt8) × Int × Bool × Int × Int × Int × Int × Bool × Int))) : Option Bool :=
  (polyglotlaw27_known.f K).bind fun r699 =>
  bif !r699 then some false
  else
  (polyglothelp_Wide.f K b0).bind fun r700 =>
  bif r700 then some true
  else
  (statprint_Events.f K b0).bind fun (r701, r702) =>
  (((
      (class_Is.f K 4 b0).bind fun r704 =>
      bif !(r702 == r704) then
        some true
      else some (!r702)) : Option Bool)).bind fun t705 =>
  bif t705 then
    (((
        (class_Is.f K 4 b0).bind fun r707 =>
        bif r702 == r707 then
          some ((r701.length : Int) == 0)
        else some false) : Option Bool)).bind fun t708 =>
    some t708
  else
  ((loopN K (fun (s_ : Int × Int) =>
    match s_ with
    | (n747, i748) =>
      bif decide (i748 < (b0.2.length : Int)) then
        bif idx i748 b0.2.length then
          ((loopN K (fun (s_ : Int × Int) =>
            match s_ with
            | (n759, k760) =>
              bif decide (k760 < ((((((b0.2.getD i748.toNat (([] : List UInt8), ((0 : Int), (([] : List UInt8), (([] : List UInt8), ([] : List (List (List UInt8 × List UInt8) × Int × Bool × Int × Int × Int × Int × Bool × Int))))))).2).2).2).2).length : Int)) then
                (((
                    bif decide (n759 ≥ (r701.length : Int)) then some true
                    else
                    bif idx n759 r701.length then
                      bif !(((r701.getD n759.toNat (([] : List UInt8), (([] : List (List UInt8 × List UInt8)), ((0 : Int), ((0 : Int), ((0 : Int), ((0 : Int), ((0 : Int), ([] : List UInt8))))))))).1) == ((b0.2.getD i748.toNat (([] : List UInt8), ((0 : Int), (([] : List UInt8), (([] : List UInt8), ([] : List (List (List UInt8 × List UInt8) × Int × Bool × Int × Int × Int × Int × Bool × Int))))))).1)) then some true
                      else
                      bif idx n759 r701.length then
                        bif idx k760 ((((((b0.2.getD i748.toNat (([] : List UInt8), ((0 : Int), (([] : List UInt8), (([] : List UInt8), ([] : List (List (List UInt8 × List UInt8) × Int × Bool × Int × Int × Int × Int × Bool × Int))))))).2).2).2).2).length) then
                          bif !(((((((r701.getD n759.toNat (([] : List UInt8), (([] : List (List UInt8 × List UInt8)), ((0 : Int), ((0 : Int), ((0 : Int), ((0 : Int), ((0 : Int), ([] : List UInt8))))))))).2).2).2).1) == ((((((((((((b0.2.getD i748.toNat (([] : List UInt8), ((0 : Int), (([] : List UInt8), (([] : List UInt8), ([] : List (List (List UInt8 × List UInt8) × Int × Bool × Int × Int × Int × Int × Bool × Int))))))).2).2).2).2).getD k760.toNat (([] : List (List UInt8 × List UInt8)), ((0 : Int), (false, ((0 : Int), ((0 : Int), ((0 : Int), ((0 : Int), (false, (0 : Int)))))))))).2).2).2).2).2).1)) && ((((((((r701.getD n759.toNat (([] : List UInt8), (([] : List (List UInt8 × List UInt8)), ((0 : Int), ((0 : Int), ((0 : Int), ((0 : Int), ((0 : Int), ([] : List UInt8))))))))).2).2).2).2).1) == (((((((((((((b0.2.getD i748.toNat (([] : List UInt8), ((0 : Int), (([] : List UInt8), (([] : List UInt8), ([] : List (List (List UInt8 × List UInt8) × Int × Bool × Int × Int × Int × Int × Bool × Int))))))).2).2).2).2).getD k760.toNat (([] : List (List UInt8 × List UInt8)), ((0 : Int), (false, ((0 : Int), ((0 : Int), ((0 : Int), ((0 : Int), (false, (0 : Int)))))))))).2).2).2).2).2).2).1)) && true)) then some true
                          else
                          bif idx n759 r701.length then
                            bif idx k760 ((((((b0.2.getD i748.toNat (([] : List UInt8), ((0 : Int), (([] : List UInt8), (([] : List UInt8), ([] : List (List (List UInt8 × List UInt8) × Int × Bool × Int × Int × Int × Int × Bool × Int))))))).2).2).2).2).length) then
                              (polyglotref7_SameLabels.f K (((r701.getD n759.toNat (([] : List UInt8), (([] : List (List UInt8 × List UInt8)), ((0 : Int), ((0 : Int), ((0 : Int), ((0 : Int), ((0 : Int), ([] : List UInt8))))))))).2).1) (((((((b0.2.getD i748.toNat (([] : List UInt8), ((0 : Int), (([] : List UInt8), (([] : List UInt8), ([] : List (List (List UInt8 × List UInt8) × Int × Bool × Int × Int × Int × Int × Bool × Int))))))).2).2).2).2).getD k760.toNat (([] : List (List UInt8 × List UInt8)), ((0 : Int), (false, ((0 : Int), ((0 : Int), ((0 : Int), ((0 : Int), (false, (0 : Int)))))))))).1)).bind fun r761 =>
                              bif !r761 then some true
                              else
                              bif idx n759 r701.length then
                                bif !((((((r701.getD n759.toNat (([] : List UInt8), (([] : List (List UInt8 × List UInt8)), ((0 : Int), ((0 : Int), ((0 : Int), ((0 : Int), ((0 : Int), ([] : List UInt8))))))))).2).2).1) == 1) == ((((b0.2.getD i748.toNat (([] : List UInt8), ((0 : Int), (([] : List UInt8), (([] : List UInt8), ([] : List (List (List UInt8 × List UInt8) × Int × Bool × Int × Int × Int × Int × Bool × Int))))))).2).1) == 2)) then some true
                                else
                                bif idx n759 r701.length then
                                  (statprint_Good.f K ((r701.getD n759.toNat (([] : List UInt8), (([] : List (List UInt8 × List UInt8)), ((0 : Int), ((0 : Int), ((0 : Int), ((0 : Int), ((0 : Int), ([] : List UInt8))))))))).1, ((r701.getD n759.toNat (([] : List UInt8), (([] : List (List UInt8 × List UInt8)), ((0 : Int), ((0 : Int), ((0 : Int), ((0 : Int), ((0 : Int), ([] : List UInt8))))))))).2).1, (((r701.getD n759.toNat (([] : List UInt8), (([] : List (List UInt8 × List UInt8)), ((0 : Int), ((0 : Int), ((0 : Int), ((0 : Int), ((0 : Int), ([] : List UInt8))))))))).2).2).1, ((((r701.getD n759.toNat (([] : List UInt8), (([] : List (List UInt8 × List UInt8)), ((0 : Int), ((0 : Int), ((0 : Int), ((0 : Int), ((0 : Int), ([] : List UInt8))))))))).2).2).2).1, (((((r701.getD n759.toNat (([] : List UInt8), (([] : List (List UInt8 × List UInt8)), ((0 : Int), ((0 : Int), ((0 : Int), ((0 : Int), ((0 : Int), ([] : List UInt8))))))))).2).2).2).2).1, ((((((r701.getD n759.toNat (([] : List UInt8), (([] : List (List UInt8 × List UInt8)), ((0 : Int), ((0 : Int), ((0 : Int), ((0 : Int), ((0 : Int), ([] : List UInt8))))))))).2).2).2).2).2).1, (((((((r701.getD n759.toNat (([] : List UInt8), (([] : List (List UInt8 × List UInt8)), ((0 : Int), ((0 : Int), ((0 : Int), ((0 : Int), ((0 : Int), ([] : List UInt8))))))))).2).2).2).2).2).2).1, (((((((r701.getD n759.toNat (([] : List UInt8), (([] : List (List UInt8 × List UInt8)), ((0 : Int), ((0 : Int), ((0 : Int), ((0 : Int), ((0 : Int), ([] : List UInt8))))))))).2).2).2).2).2).2).2)).bind fun r762 =>
                                  some (!r762)
                                else none
                              else none
                            else none
                          else none
                        else none
                      else none
                    else none) : Option Bool)).bind fun t763 =>
                bif t763 then
                  some (.inr (.inr false))
                else some (.inl (IntKind.i64.wrap (n759 + 1), IntKind.i64.wrap (k760 + 1)))
              else some (.inr (.inl n759))) (n747, 0) : Option (Int ⊕ Bool))).bind fun e_ =>
          match e_ with
          | .inl n764 =>
            some (.inl (n764, IntKind.i64.wrap (i748 + 1)))
          | .inr t765 =>
            some (.inr (.inr t765))
        else none
      else some (.inr (.inl n747))) (0, 0) : Option (Int ⊕ Bool))).bind fun e_ =>
  match e_ with
  | .inl n766 =>
    some (n766 == (r701.length : Int))
  | .inr t767 =>
    some t767
def polyglotlaw27_StatBatch.sig : Sig := ⟨[(.agg (.pair .str (.sl (.pair .str (.pair (.int .i64) (.pair .str (.pair .str (.sl (.pair (.sl (.pair .str .str)) (.pair (.int .i64) (.pair .bool (.pair (.int .i64) (.pair (.int .i64) (.pair (.int .i64) (.pair (.int .i64) (.pair .bool (.int .i64)))))))))))))))))], [(.c .bool)]⟩
noncomputable def polyglotlaw27_StatBatch.con (K : Nat) : Con := (mkCon polyglotlaw27_StatBatch.sig (fun x => polyglotlaw27_StatBatch.f K x))
noncomputable def polyglotlaw27_StatBatch.ht : HT := .seq .nil (.seq .nil (.seq .nil (.seq .nil (.seq (.join ⟨5, [], [], ⟨[], []⟩, [(.normal, ⟨[(25, .c (.v .bool))], []⟩)]⟩ (.seq .nil (.cond (.join ⟨0, [], [], ⟨[], []⟩, [(.normal, ⟨[(2, .c (.v .bool))], []⟩)]⟩ (.seq .nil .nil)) .nil))) (.seq .nil (.seq (.seq .nil (.block (.loop ⟨4, [2], [], ⟨[(5, .c (.v (.int .i64))), (6, .c (.v (.int .i64)))], []⟩, [(.exit 0, ⟨[(5, .c (.v (.int .i64)))], []⟩), (.ret, ⟨[(2, .c (.v .bool))], []⟩)]⟩ (.seq .nil (.seq (.block (.seq .nil (.seq .nil (.block (.loop ⟨8, [2, 5], [], ⟨[(5, .c (.v (.int .i64))), (8, .c (.v (.int .i64)))], []⟩, [(.exit 2, ⟨[(5, .c (.v (.int .i64)))], []⟩), (.ret, ⟨[(2, .c (.v .bool))], []⟩)]⟩ (.seq .nil (.seq (.block (.seq (.join ⟨9, [], [], ⟨[], []⟩, [(.normal, ⟨[(118, .c (.v .bool))], []⟩)]⟩ (.seq .nil .nil)) .nil)) .nil))))))) .nil))))) .nil))))))
noncomputable def polyglotlaw27_StatBatch.cx (K : Nat) : Cx := ⟨tt, [(4, polyglotlaw27_known.con K), (5, polyglothelp_Wide.con K), (6, statprint_Events.con K), (7, class_Is.con K), (8, polyglotref7_SameLabels.con K), (9, statprint_Good.con K)], [], K, inlOf tt [(4, polyglotlaw27_known.con K), (5, polyglothelp_Wide.con K), (6, statprint_Events.con K), (7, class_Is.con K), (8, polyglotref7_SameLabels.con K), (9, statprint_Good.con K)] [] K (getBody []) 0⟩
theorem polyglotlaw27_StatBatch.eq (K : Nat) (x : PL polyglotlaw27_StatBatch.sig.ps) : evalF (polyglotlaw27_StatBatch.cx K) polyglotlaw27_StatBatch.sig (bodyOf Tryz.f3) polyglotlaw27_StatBatch.ht x = polyglotlaw27_StatBatch.f K x := by kernel_rfl
theorem polyglotlaw27_StatBatch.fok (K : Nat) : FOK Tryz.prog polyglotlaw27_StatBatch.sig (fun x => polyglotlaw27_StatBatch.f K x) 3 := fok_of_eval (tt := tt) (cons := [(4, polyglotlaw27_known.con K), (5, polyglothelp_Wide.con K), (6, statprint_Events.con K), (7, class_Is.con K), (8, polyglotref7_SameLabels.con K), (9, statprint_Good.con K)]) (exts := []) (bodies := (getBody [])) (K := K) (d := 0) ⟨ttok, (getCon_cons (polyglotlaw27_known.ok K) (getCon_cons (polyglothelp_Wide.ok K) (getCon_cons (statprint_Events.ok K) (getCon_cons (class_Is.ok K) (getCon_cons (polyglotref7_SameLabels.ok K) (getCon_cons (statprint_Good.ok K) (fun _ _ => getCon_nil))))))), (fun _ _ => getExt_nil), (fun _ _ => getBody_nil)⟩ draw bok3 (polyglotlaw27_StatBatch.eq K)
theorem polyglotlaw27_StatBatch.ok (K : Nat) : ConOK Tryz.prog 3 (polyglotlaw27_StatBatch.con K) := con_ok bok3 (polyglotlaw27_StatBatch.fok K)

end Go.Proofs.YtoobdenlgapcmaaGreat
